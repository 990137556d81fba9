/- Lemmas 13. -/
import Derived.Test.YtpgfieopnnkpfaaGreatDoorQA12
import Derived.Below
import Derived.RangeFuncLeaves
import Derived.RangeFuncNested
namespace Go.Eng
open Go.Sort
theorem B2.append{g:Gh}{w:World}{U:Nat->Prop}{TU bs:List AV}{xs ys:List Value}(h:B2 g w U TU xs)(k:B2 g w U bs ys):B2 g w U (TU++bs) (xs++ys):=by
 refine⟨by rw[As,As,h.1,k.1],fun x hx=>?_,fun i av x q1 q2=>?_⟩
 .rcases Bz.1 hx with hx | hx
  .exact h.2.1 x hx
  .exact k.2.1 x hx
 .have hl:=h.1
  by_cases hi:i<TU.length
  .rw[DL hi]at q1;rw[DL aa0]at q2;exact h.2.2 i av x q1 q2
  .rw[B7 aa0]at q1;rw[B7 aa0,hl]at q2;exact k.2.2 _ av x q1 q2
theorem B2.take{g:Gh}{w:World}{U:Nat->Prop}{TU:List AV}{xs:List Value}(h:B2 g w U TU xs)(k:Nat):B2 g w U (TU.take k) (xs.take k):=by
 refine⟨by rw[AC,AC,h.1],fun x hx=>h.2.1 x (CV hx),fun i av x q1 q2=>?_⟩;rw[N3]at q1 q2;split at q1
 .rename_i hi;rw[AE hi]at q2;exact h.2.2 i av x q1 q2
 simp_all
theorem B2.drop{g:Gh}{w:World}{U:Nat->Prop}{TU:List AV}{xs:List Value}(h:B2 g w U TU xs)(k:Nat):B2 g w U (TU.drop k) (xs.drop k):=by
 refine⟨by rw[Ru,Ru,h.1],fun x hx=>h.2.1 x (H9 hx),fun i av x q1 q2=>?_⟩;rw[FO]at q1 q2;exact h.2.2 _ av x q1 q2
theorem KJ{α:Type}{k:Nat}:∀(es:List (List α)) (i:Nat),(∀e∈es,e.length=k)->es.flatten.take (i*k)=(es.take i).flatten
 | [],i,_=>by simp
 |e::es,0,_=>by simp
 |e::es,i+1,h=>by
  have he:=h e (Ai ..);rw[Dp,List.take_succ_cons,Dp,List.take_append,<-KJ es i fun x hx=>h x (At _ hx),AK (by grind),he,show(i+1)*k-k=i*k by grind]
theorem Ow{α:Type}{k:Nat}:∀(es:List (List α)) (i:Nat),(∀e∈es,e.length=k)->es.flatten.drop (i*k)=(es.drop i).flatten
 | [],i,_=>by simp
 |e::es,0,_=>by simp
 |e::es,i+1,h=>by
  have he:=h e (Ai ..);rw[Dp,List.drop_succ_cons,List.drop_append,<-Ow es i fun x hx=>h x (At _ hx),Fw (by grind),he,show(i+1)*k-k=i*k by grind,Uj]
section
variable {P:Program}
theorem dp{f:Nat}{es:List (List AV)}{sz:Nat}{rest:List Value}{n' : Nat}{Q:List (List AV)->Prop}(hE:GM P f)(Fi:es≠[])(l6 : n'<=es.length)
  (h1:∀(g:Gh) (w:World) (b cap:Nat) (F:Array Value),B2 g w EZ es.flatten F.toList->F.size=es.length*sz->Holds id w b 0 F->b<w.heap.size->es.length<=cap->Calls P f (#[.slice (some ⟨b,0,none⟩) es.length cap]++rest.toArray) w fun e w'=>
   e=.returned (.slice (some ⟨b,0,none⟩) n' cap)/\∃(F' : Array Value) (F6 : List (List AV)) (n:Nat) (os:Array Obj),F'.size=F.size/\Q F6/\F6.length=es.length/\(∀cs∈F6,cs.length=sz) /\
    (∀(g:Gh) (w:World),B2 g w EZ es.flatten F.toList->B2 g w EZ F6.flatten F'.toList)/\w'=grow (putRow id (Sort.ahead w n) b 0 F') os) :
  Cq P f (.msl 1000 es.length::rest.map .v) (Ar [(1000,.arr sz es)] Af) fun r h'=>r=.msl 2000 n'/\∃F6,Q F6/\h'=Ar [(1000,.dead),(2000,.arr sz (F6.take n'))] Af:=by
 refine⟨hE,fun g w us hs hv hI=>?_⟩;have ho:=hI.objs 1000;have he:Ar [(1000,HO.arr sz es)] Af 1000=.arr sz es:=rfl;rw[he]at ho;obtain⟨t1,l1,al,a2⟩:=ho;simp only[Av,Bv]at hs;have hu0:0<us.size:=by omega
 have sN:=hv 0 (.msl 1000 es.length) us[0] rfl (DK hu0);have Lr:us[0]=g.ρ 1000:=by
  grind [cases A5]
 have Ij:us=#[g.ρ 1000]++rest.toArray:=by
  refine Array.ext (by simp_all) fun i h1 h2=>?_;cases i with
  |zero=>simp_all
  |succ i=>
   have hi:i<rest.length:=by omega
   have:=hv (i+1) (.v rest[i]) us[i+1] (by simp_all) (DK h1)
   rw[this.v_eq];simp
 rw[Ij];rcases a2 with ⟨b1,b2,b3⟩ | ⟨b,cap,E,vs,b1,b2,b3,b4,b5,b6,b7⟩
 .simp_all
 .have hl:(Ar [(1000,HO.arr sz es)] Af 1000).live:=trivial;have Fp:=(hI.loc 1000 b hl b2).1;have HB:es.length*sz<=vs.size:=by rw[b5];exact By _ b3
  have hF:((vs.toList.take (es.length*sz)).toArray).size=es.length*sz:=by simp_all
  have hH:Holds id w b 0 (vs.toList.take (es.length*sz)).toArray:=fun j hj=>by
   grind [World.cell?,World.frozen?]
  rw[b1];refine(h1 g w b cap _ aa0 hF hH Fp b3).mono ?_
  rintro e w' ⟨rfl,F',F6,n,os,f1,f2,f3,f4,f5,rfl⟩
  have ut : F'.size=es.length*sz:=f1.trans hF;have wT:=Nd F' vs aa0;have sF : (grow (putRow id (Sort.ahead w n) b 0 F') os).heap[b]?=some (.cells (putCells id 0 F' vs) E (0,0)):=by
   rw[heap_grow_old _ _ (by simp_all)];show(w.heap.modify b (onCells (putCells id 0 F')))[b]?=_;rw[Array.getElem?_modify,AE rfl,b4];rfl
  have vr:∀k,k<w.heap.size->k≠b->(grow (putRow id (Sort.ahead w n) b 0 F') os).heap[k]?=w.heap[k]?:=fun k hk Fi=>by
   rw[heap_grow_old _ _ (by simp_all)];simp[putRow,mapBlock,Array.getElem?_modify,Ne.symm Fi]
  have FM:w.heap.size<=(grow (putRow id (Sort.ahead w n) b 0 F') os).heap.size:=by simp_all
  obtain⟨k1,k2⟩:=hI.upd 1000 (.arr sz F6) (g.ρ 1000) (g.ln 1000) (g.tk 1000) (g.own 1000) g.S (grow (putRow id (Sort.ahead w n) b 0 F') os) (some b) ⟨rfl,rfl,rfl,FM⟩
   (fun k hk Fi=>vr k hk (fun e=>Fi (by rw[e]))) (fun b' e=>by simp_all) (fun _ _ h=>h) (fun _ _ h=>.inl h) (fun b' o e hs=>by simp_all)
   (fun b' _ e=>by grind) aa1 (fun _=>⟨rfl,Aq _,fun _=>rfl,fun _=>rfl⟩) (fun hg hk=>by
    refine⟨by grind [Gh.upd],by grind [Gh.upd],f4,.inr ⟨b,cap,E,_,by grind [Gh.upd],by grind [Gh.upd],by omega,sF,by omega,?_,b7⟩⟩
    have:=f5 g w aa0
    rw[f3,<-ut,wT.1];exact this.mono hk (fun _ h=>h) (fun _ h=>h.elim))
  rw[Sy]at k1 k2;generalize nQ : g.upd 1000 (g.ρ 1000) (g.ln 1000) (g.tk 1000) (g.own 1000) g.S=g' at k1 k2;have vq : g'.own 1000=some b:=by grind [Gh.upd]
  have vt:=k1.objs 1000;have lZ:Ar [(1000,HO.arr sz F6)] Af 1000=.arr sz F6:=rfl;rw[lZ]at vt;obtain⟨m1,m2,m3,m4⟩:=vt;have hρ:g'.ρ 1000=.slice (some ⟨b,0,none⟩) es.length cap:=by grind [Gh.upd]
  have Afh : F6≠[]:=fun e=>Fi (Az (by simp_all));rcases m4 with ⟨m4,_⟩ | ⟨b',MU,E',gX,c1,c2,c3,c4,c5,c6,c7⟩
  .simp_all
  .rw[hρ]at c1;simp only[Value.slice.injEq,Dr,Addr.mk.injEq,and_true]at c1;obtain⟨c1a,c1b,c1c⟩:=c1;subst c1a;subst c1c;have zX : (F6.take n').length=n':=by grind
   obtain⟨k3,k4⟩:=k1.move 1000 2000 aa2 rfl trivial vq (.arr sz (F6.take n')) (.slice (some ⟨b,0,none⟩) n' cap) n' true aa1 (fun hk=>by
    refine⟨by simp[Gh.upd],by grind [Gh.upd],fun cs OE=>m3 cs (CV OE),.inr ⟨b,cap,E',gX,by grind [Gh.upd],by simp[Gh.upd],by omega,c4,c5,?_,c7⟩⟩
    have:=(c6.mono hk (fun _ h=>h) (fun _ h=>h.elim)).take (n'*sz)
    grind [KJ,Nat.mul_le_mul_right])
   have u5:AJ (AJ (Ar [(1000,HO.arr sz F6)] Af) 1000 .dead) 2000 (.arr sz (F6.take n'))=Ar [(1000,.dead),(2000,.arr sz (F6.take n'))] Af:=by
    funext i
    by_cases e1:i=2000
    .subst e1;rw[AX];rfl
    .rw[BK _ _ _ _ e1]
     by_cases e2:i=1000
     .subst e2;rw[AX];rfl
     grind [BK,Ar,Ds]
   rw[u5]at k3 k4;exact⟨_,.msl 2000 n',_,_,rfl,⟨rfl,F6,f2,rfl⟩,.msl _ 2000 n' (some ⟨b,0,none⟩) cap (by intro c;cases c) (by simp[Gh.upd]) (by simp[Gh.upd]) (.inr ⟨b,rfl⟩) (fun _=>by simp[Gh.upd]),k3,k2.trans k4⟩
end
end Go.Eng
namespace Go.Eng
variable {h:Nat->HO}{r ty e m:Nat}{cx:Cx}{x:AV}{K:HK}
def iP(a b:Fm):Bool:=
 (match a.2 with | some r=>!Is b.1 r | none=>true)&&(match b.2 with | some r=>!Is a.1 r | none=>true)
def Pj(ops:Array Oper)(oi:Oper)(fi:Fm)(D:List Nat)(k:Nat):List Oper->List Fm->Bool
 |o::r,f::fs=>(Is D k||(oi.apart ops o&&iP fi f))&&Pj ops oi fi D (k+1) r fs
 | [],[]=>true
 |_,_=>false
def UD(ops:Array Oper)(all:List Oper)(k:Nat):List Oper->List Fm->Bool
 |o::r,f::fs=>
  let D:=Pr k [] 0 all
  (o.after.toList.all fun e=>!Region.binds .any e||Nat.blt e.on k)&&TF k D 0 all&&(D.all fun j=>Nat.blt k j&&Nat.blt j all.length)&&Pj ops o f D (k+1) r fs&&UD ops all (k+1) r fs
 | [],[]=>true
 |_,_=>false
def bY(ops:Array Oper)(fs:List Fm):Bool:=Region.noSelect ops&&UD ops ops.toList 0 ops.toList fs
def PZ(f:Fm):Prop:=∀r,f.2=some r->r<10000000
def Ro:List Fm->Prop
 | []=>True
 |f::r=>PZ f/\Ro r
theorem Cc(l:List Nat):PZ (l,none):=fun _ h=>by cases h
theorem Hi{l:List Nat}(h:r<10000000):PZ (l,some r):=fun _ e=>by simp_all
theorem iQ{a b:Fm}(ha:PZ a)(hb:PZ b)(h:iP a b=true):RV a b=true:=by
 obtain⟨a1,a2⟩:=a;obtain⟨b1,b2⟩:=b;unfold iP at h;unfold RV;rw[Au]at h⊢;refine⟨?_,?_⟩
 .cases a2 with
  |none=>rfl
  |some r=>
   have h1:(!Is b1 r)=true:=h.1;show YZ b1 r=true;unfold YZ;rw[Ds (show r≠VO by have:=ha r rfl;grind [VO]),GE,h1,show Nat.blt r 10000000=true by rw[Ia];exact ha r rfl];rfl
 .cases b2 with
  |none=>rfl
  |some r=>
   have h1:(!Is a1 r)=true:=h.2;show YZ a1 r=true;unfold YZ;rw[Ds (show r≠VO by have:=hb r rfl;grind [VO]),GE,h1,show Nat.blt r 10000000=true by rw[Ia];exact hb r rfl];rfl
theorem Un{ops:Array Oper}{oi:Oper}{fi:Fm}{D:List Nat}(hi:PZ fi):∀{l:List Oper} {fs:List Fm} {k:Nat},Ro fs->Pj ops oi fi D k l fs=true->Ib ops oi fi D k l fs=true
 | [],[],_,_,h=>h
 |o::r,f::fs,k,hs,h=>by
  unfold Pj at h;unfold Ib;rw[Au,Gp,Au]at h⊢;exact⟨h.1.imp id (fun q=>⟨q.1,iQ hi hs.1 q.2⟩),Un hi hs.2 h.2⟩
 | [],_::_,_,_,h=>by grind [Pj]
 |_::_,[],_,_,h=>by grind [Pj]
theorem XX{ops:Array Oper}{all:List Oper}:∀{l:List Oper} {fs:List Fm} {k:Nat},Ro fs->UD ops all k l fs=true->LD ops all k l fs=true
 | [],[],_,_,h=>h
 |o::r,f::fs,k,hs,h=>by
  unfold UD at h;unfold LD;simp only[Au]at h⊢;exact⟨⟨h.1.1,Un hs.1 hs.2 h.1.2⟩,XX hs.2 h.2⟩
 | [],_::_,_,_,h=>by grind [UD]
 |_::_,[],_,_,h=>by grind [UD]
theorem Om{ops:Array Oper}{fs:List Fm}(hs:Ro fs)(h:bY ops fs=true):RW ops fs=true:=by
 grind [bY,RW,XX]
theorem XC{d:Option Nat}{es es2:List (List AV)}(hty:(cx.T ty).d=.slice e)(hz:Nat.beq (cx.T e).zc.length (cx.T e).size=true)(FM:(cx.T e).size=m+1)(hx:∀K' : List (List AV)->Prop,K' es2->KH h x K')(hr:h r=.tok (m+1) es.length)(hl:AZ (m+1) es2)(hb:(es.length+es2.length)*(cx.T e).bytes<=140737488355328)(hc:es.length+es2.length<=9223372036854775807)(hk:K (.slice (.id r (m+1)) (es++es2)) (AJ h r (.tok (m+1) (es.length+es2.length)))):II cx d h ty (.slice (.id r (m+1)) es) x K:=by
 grind [Nat.beq_refl,II]
theorem XB{d:Nat}{es2:List (List AV)}(hty:(cx.T ty).d=.slice e)(hz:Nat.beq (cx.T e).zc.length (cx.T e).size=true)(FM:(cx.T e).size=m+1)(hx:∀K' : List (List AV)->Prop,K' es2->KH h x K')(hr:h (JW cx d)=.free)(ha:GO cx.pl.arr d=none)(hl:AZ (m+1) es2)(hb:es2.length*(cx.T e).bytes<=140737488355328)(hc:es2.length<=9223372036854775807)(hk:K (.slice (.id (JW cx d) (m+1)) es2) (AJ h (JW cx d) (.tok (m+1) es2.length))):II cx (some d) h ty nzA x K:=by
 grind [II,EI]
end Go.Eng
namespace Go.Eng
open Go.RowKit
section
variable {P:Program}
theorem Y4{f:Nat}{args:List AV}{Gz:AV}(vals:List Value)(v:Value)(hE:GM P f)(ha:args=vals.map .v)(aL:∀g w,A5 g w EZ Gz v)
  (h:∀w,(∃m,w.cell? ⟨gB,0,none⟩=some (.int .i64 m))->(∀x∈jm,w.cell? ⟨x.1,x.2.1,none⟩=x.2.2)->Calls P f vals.toArray w fun e w'=>e=.returned v/\Below w.heap.size w w'):K6 P f args Gz:=by
 refine⟨hE,fun g w us hs hv hI=>?_⟩;have hu:us=vals.toArray:=by
  subst ha;rw[Bv]at hs;refine Array.ext aa0 fun i h1 h2=>?_
  have:=hv i (.v (vals[i]' aa0)) us[i] (by simp_all) (by simp_all)
  grind [A5.v_eq]
 subst hu;refine(h w hI.glob.1.2 fun x hx=>(hI.glob.2 x hx).2).mono ?_
 rintro e w' ⟨rfl,q⟩
 have hK:ED g w g w':=fun b o hb=>by
  grind [World.cell?,Cv.slt,Go.RowKit.Below.block]
 refine⟨v,Gz,Af,g,rfl,⟨rfl,rfl⟩,(aL g _).up _,⟨q.os,q.tape,q.output,q.size,fun b hb _=>q.block b hb,fun b o hs=>Hm (hI.slt b o hs) q.size,fun _=>trivial,fun _ _ _ h=>h.elim,fun _ _ h=>h.elim,fun b o hs=>.inl hs,hI.glob.keep hK⟩,⟨.refl _ _,fun _ h=>h,hK⟩⟩
end
end Go.Eng
namespace Go.Eng
variable {ps:Array Tmp}{fn:Func}{args:List AV}{GO body c:Code}{σ:JT}(cx dY:Cx)
def Wa:Obj->Bool
 |.cells ..=>false
 |.map ..=>false
 |.mapIter ..=>false
 |.loop r=>!Od [] r.body
 |_=>true
structure Xt(n0 x:Nat)(w:World)(g:Gh)(h:Nat->HO)(w' : World)(g' : Gh)(h' : Nat->HO):Prop where
 os:w'.os=w.os
 tape:w'.tape=w.tape
 output:w'.output=w.output
 size:w.heap.size<=w'.heap.size
 frame:∀b,b<n0->b≠x->(∀r,(h r).live->g.own r≠some b)->w'.heap[b]?=w.heap[b]?
 loc:∀r b,(h' r).live->g'.own r=some b->n0<=b\/∃r',(h r').live/\g.own r'=some b
 sg:∀b o,g'.S b o->g.S b o\/n0<=b\/∃r',(h r').live/\g.own r'=some b
 le:Le h g w h' g' w'
section
variable {P:Program}{N:Nat}{ds:List Deferred}{n0 x:Nat}{w w' w1 w2:World}{g g' g1 g2:Gh}{h h' h1 h2:Nat->HO}
theorem Xt.trans(a:Xt n0 x w g h w1 g1 h1)(b:Xt n0 x w1 g1 h1 w2 g2 h2):Xt n0 x w g h w2 g2 h2 where
 os:=b.os.trans a.os
 tape:=b.tape.trans a.tape
 output:=b.output.trans a.output
 size:=AL a.size b.size
 frame c hc hx hn:=(b.frame c hc hx fun r hl e=>by
  rcases a.loc r c hl e with h | ⟨r',h1,h2⟩<;>grind).trans (a.frame c hc hx hn)
 loc r c hl e:=by
  rcases b.loc r c hl e with h | ⟨r',h1,h2⟩
  .omega
  .exact a.loc r' c h1 h2
 sg c o hs:=by
  rcases b.sg c o hs with h | h | ⟨r',h1,h2⟩
  .exact a.sg c o h
  .omega
  .rcases a.loc r' c h1 h2 with h | h<;>simp_all
 le:=a.le.trans b.le
theorem Xt.of_inv(hI:Cv w g h h' g' w')(hL:Le h g w h' g' w')(hn:n0<=w.heap.size):Xt n0 x w g h w' g' h' where
 os:=hI.os
 tape:=hI.tape
 output:=hI.output
 size:=hI.size
 frame c hc _ l6:=hI.frame c aa0 l6
 loc r c hl e:=by
  rcases(hI.loc r c hl e).2 with h | h<;>grind
 sg c o hs:=by
  grind [Cv.sg]
 le:=hL
theorem Cv.base(hI:Cv w g h h' g' w'):Cv w' g' h' h' g' w' where
 os:=rfl
 tape:=rfl
 output:=rfl
 size:=Aq _
 frame _ _ _:=rfl
 slt:=hI.slt
 objs:=hI.objs
 inj:=hI.inj
 loc r b hl e:=⟨(hI.loc r b hl e).1,.inr ⟨r,hl,e⟩⟩
 sg _ _ hs:=.inl hs
 glob:=hI.glob
theorem Cv.of_seg(hI:Cv w' g' h' h' g' w')(s:Xt w.heap.size x w g h w' g' h')(hx:x<w.heap.size->w'.heap[x]?=w.heap[x]?):Cv w g h h' g' w' where
 os:=s.os
 tape:=s.tape
 output:=s.output
 size:=s.size
 frame b hb hn:=by
  grind [Xt.frame]
 slt:=hI.slt
 objs:=hI.objs
 inj:=hI.inj
 loc r b hl e:=⟨(hI.loc r b hl e).1,s.loc r b hl e⟩
 sg:=s.sg
 glob:=hI.glob
theorem OR{U:Nat->Prop}{r b:Nat}{o:HO}{ob:Obj}(ho:DB g w U r o)(hl:o.live)(e:g.own r=some b)(hb:w.heap[b]?=some ob)(hd:Wa ob=true):False:=by
 cases o with
 |free=>exact hl
 |dead=>exact hl
 |ro cs=>exact hl
 |rom sh BN=>exact hl
 |cells cs=>
  obtain⟨_,b',E,vs,h1,_,h3,_⟩:=ho;rw[e]at h1;cases h1;rw[hb]at h3;cases h3;cases hd
 |tok sz n=>
  obtain⟨_,_,a,cap,_,(⟨_,h1⟩ | ⟨_,b',E,vs,off,_,h1,⟨_,h3,_⟩,_⟩)⟩:=ho
  .simp_all
  .rw[e]at h1;cases h1;rw[hb]at h3;cases h3;cases hd
 |vox v=>exact hl
 |hol sz es i c av=>
  obtain⟨_,_,_,b',cap,E,vs,_,h1,_,h3,_⟩:=ho;rw[e]at h1;cases h1;rw[hb]at h3;cases h3;cases hd
 |bld x=>
  obtain⟨_,b',p,v,h1,_,h3,_⟩:=ho;rw[e]at h1;cases h1;rw[hb]at h3;cases h3;cases hd
 |bbf n=>
  obtain⟨_,_,(⟨_,_,h1⟩ | ⟨b',cap,D1,_,h1,_,_,h3,_⟩)⟩:=ho
  .simp_all
  .rw[e]at h1;cases h1;rw[hb]at h3;cases h3;cases hd
 |raw b' cO=>
  obtain⟨_,h1,h2,h3,_⟩:=ho;rw[e]at h1;cases h1;rw[hb]at h2;cases h2;cases ob<;>simp[Wa,td]at hd h3
  simp_all
 |var sz v n=>
  obtain⟨_,_,a,cap,_,(⟨_,h1⟩ | ⟨_,b',E,vs,off,_,h1,⟨_,h3,_⟩,_⟩)⟩:=ho
  .simp_all
  .rw[e]at h1;cases h1;rw[hb]at h3;cases h3;cases hd
 |arr sz es=>
  obtain⟨_,_,_,(⟨_,_,h1⟩ | ⟨b',cap,E,vs,_,h1,_,h3,_⟩)⟩:=ho
  .simp_all
  .rw[e]at h1;cases h1;rw[hb]at h3;cases h3;cases hd
 |map sh BN=>
  obtain⟨_,b',es,ck,h1,_,h3,_⟩:=ho;rw[e]at h1;cases h1;rw[hb]at h3;cases h3;cases hd
 |mapU sh BN=>
  obtain⟨_,b',es,ck,h1,_,h3,_⟩:=ho;rw[e]at h1;cases h1;rw[hb]at h3;cases h3;cases hd
 |iter all rem D1=>
  obtain⟨_,b',mb,JP,seen,st,es,ck,h1,_,h3,_⟩:=ho;rw[e]at h1;cases h1;rw[hb]at h3;cases h3;cases hd
theorem Cv.dullS(hI:Cv w g h h g w)(ho:w'.os=w.os/\w'.tape=w.tape/\w'.output=w.output)(FM:w.heap.size<=w'.heap.size)
  (hb:∀b,b<w.heap.size->w'.heap[b]?=w.heap[b]?\/∃o o',w.heap[b]?=some o/\w'.heap[b]?=some o'/\Wa o=true/\Wa o'=true)
  (hn:∀b,b<n0->b≠x->w'.heap[b]?=w.heap[b]?):Cv w' g h h g w'/\Xt n0 x w g h w' g h:=by
 have hk:ED g w g w':=fun b o hs=>by
  refine⟨hs,?_⟩;rcases hb b (hI.slt b o hs)with e | ⟨ob,cO,e1,e2,d1,d2⟩
  .grind [World.cell?]
  .refine⟨?_,fun es ck he=>?_⟩
   .simp only[World.cell?,e1,e2];cases ob<;>cases cO<;>first | rfl | (cases d1;done) | (cases d2;done)
   .rw[e1]at he;cases he;cases d1
 have MX:∀r b,(h r).live->g.own r=some b->w'.heap[b]?=w.heap[b]?:=fun r b hl e=>by
  rcases hb b (hI.loc r b hl e).1 with e' | ⟨ob,cO,e1,_,d1,_⟩
  .exact e'
  .exact(OR (hI.objs r) hl e e1 d1).elim
 refine⟨⟨rfl,rfl,rfl,Aq _,fun _ _ _=>rfl,fun b o hs=>Hm (hI.slt b o hs) FM,fun r=>?_,hI.inj,fun r b hl e=>⟨Hm (hI.loc r b hl e).1 FM,.inr ⟨r,hl,e⟩⟩,fun _ _ hs=>.inl hs,hI.glob.keep hk⟩,⟨ho.1,ho.2.1,ho.2.2,FM,fun b sF hx _=>hn b sF hx,fun r b hl e=>.inr ⟨r,hl,e⟩,fun _ _ hs=>.inl hs,⟨.refl _ _,fun _ h=>h,hk⟩⟩⟩;exact(hI.objs r).same hk (fun _ h=>h) (.refl _ _) rfl rfl rfl rfl fun b hl e=>⟨MX r b hl e,fun _ h=>h⟩
theorem Cv.put(hI:Cv w g h h g w){l:Nat}{o o' : Obj}(hl:w.heap[l]?=some o)(hd:Wa o=true)(hd' : Wa o'=true)(hx:n0<=l\/l=x) :
  Cv (w.putObj l o') g h h g (w.putObj l o')/\Xt n0 x w g h (w.putObj l o') g h:=by
 grind [World.putObj,Cv.dullS]
theorem Cv.allocS(hI:Cv w g h h g w)(o:Obj)(hn:n0<=w.heap.size):Cv (w.alloc o) g h h g (w.alloc o)/\Xt n0 x w g h (w.alloc o) g h:=by
 refine hI.dullS ⟨rfl,rfl,rfl⟩ (by simp_all) (fun b hb=>.inl (heap_alloc_old _ _ hb)) (fun b hb _=>heap_alloc_old _ _ aa0)
end
abbrev H1(fn:FuncId)(tm:Array Value)(ps:Array Tmp)(GO body:Code)(D:Nat)(s:LoopState):Loop:=
 { state:=s,pending:=none,fn:=fn,tmps:=tm,params:=ps,assign:=GO,body:=body,defers:=D }
def ng:List Nat->List AV->(Nat->AV)->Nat->AV
 |p::ps,v::vs,e=>ng ps vs (Jp e p v)
 |_,_,e=>e
section
variable {P:Program}{N:Nat}{w:World}{g:Gh}
theorem X0{U:Nat->Prop}:∀{ps:List Nat} {args:List AV} {vals:List Value} {tm:Array Value} {env:Nat->AV},vals.length=args.length->args.length=ps.length->(∀p∈ps,p<tm.size) ->
  (∀(i:Nat) (av:AV) (x:Value),args[i]?=some av->vals[i]?=some x->A5 g w U av x)->(∀i,A5 g w U (env i) (tm.getD i undef)) ->
  ((ps.zip vals).foldl (fun t p=>t.setIfInBounds p.1 p.2) tm).size=tm.size/\∀i,A5 g w U (ng ps args env i) (((ps.zip vals).foldl (fun t p=>t.setIfInBounds p.1 p.2) tm).getD i undef)
 | [],args,vals,tm,env,_,h2,_,_,he=>by
  have:args=[]:=Az h2
  subst this;exact⟨rfl,he⟩
 |p::ps,[],vals,tm,env,_,h2,_,_,_=>by cases h2
 |p::ps,a::args,[],tm,env,h1,_,_,_,_=>by cases h1
 |p::ps,a::args,v::vals,tm,env,h1,h2,h3,h4,he=>by
  have hp:=h3 p (Ai ..)
  obtain⟨q1,q2⟩:=X0 (ps:=ps) (args:=args) (vals:=vals) (tm:=tm.setIfInBounds p v) (env:=Jp env p a) (by simp_all) (by simp_all) (fun q hq=>by simp_all)
   (fun i av x e1 e2=>h4 (i+1) av x (by simp_all) (by simp_all)) (fun i=>by
    by_cases e:i=p
    .subst e;have e1:Jp env i a i=a:=by simp[Jp]
     have e2:(tm.setIfInBounds i v).getD i undef=v:=by simp_all
     rw[e1,e2];exact h4 0 a v rfl rfl
    .have e1:Jp env p a i=env i:=by grind [Jp,Ds]
     have e2:(tm.setIfInBounds p v).getD i undef=tm.getD i undef:=by
      simp[Array.getD_eq_getD_getElem?,Array.getElem?_setIfInBounds_ne (Ne.symm e)]
     simp_all)
  exact⟨by simp_all,q2⟩
theorem lV{H:List (Nat×HO)}(hP:cx.P=P)(hT:BY P cx.T)(hm:P.follows .mixedOrders=true)(hx:cx.ext=true)(hσ:(HF σ&&I7 σ H)=true){fn:FuncId}{tm:Array Value}{D l:Nat}{env:Nat->AV}{U:Nat->Prop}{Q:AV->(Nat->HO)->Prop}(hps:args.length=ps.toList.length)(hN:tm.size=N)(hpN:(ps.toList.all fun p=>Nat.blt p N)=true)(zA:Ee N GO=true)(hcb:Ee N body=true)(hU:∀i,U i->used (Ar H Af) i)(hk:Pl cx GO (fun e st=>match e with | .normal=>Pl cx body (fun e st=>match e with | .normal=>Q (.v (.bool true)) (F8 σ (Pz st.h cx.pl.fin)) | _=>False) st | _=>False) ⟨ng ps.toList args env,Ar H Af⟩)(hY:∀l σ g w,cx.yp l σ g w:=by exact fun _ _ _ _=>trivial)(hbk:Od [] body=false:=by kernel_rfl) :
  J7 P (fun g w=>w.heap[l]?=some (.loop (H1 fn tm ps GO body D .ready))/\∀i,A5 g w U (env i) (tm.getD i undef)) l args (Ar H Af) Q:=by
 simp only[Au]at hσ;intro g w vals hs hv hI ⟨hl,NE⟩;have Fp:l<w.heap.size:=(B6.1 hl).1;have QY:∀s,Wa (.loop (H1 fn tm ps GO body D s))=true:=fun s=>by show(!Od [] body)=true;simp_all
 have hE:Lv cx (Ar H Af):=by unfold Lv;rw[hx];exact fun i hi=>⟨(Hw hσ.2 i hi).1,(Hw hσ.2 i hi).2.1⟩
 have SA:∀r,((Ar H Af) r).live->g.own r≠some l:=fun r hr e=>OR (hI.objs r) hr e hl (QY _);have AbW:∀(t0:Array Value),(ps.zip vals).foldl (fun tmps (p:Nat×Value)=>tmps.setIfInBounds p.1 p.2) t0=(ps.toList.zip vals.toList).foldl (fun t p=>t.setIfInBounds p.1 p.2) t0:=fun t0=>by
  grind [Array.toList_zip]
 have hry:=run_yield (P:=P) (args:=vals) hl (by simp_all);refine⟨fn,_,GO,body,hry,roundIn_of_wpIn trivial ?_⟩;obtain⟨z1,z2⟩:=X0 (U:=used (Ar H Af)) (ps:=ps.toList) (args:=args) (vals:=vals.toList) (tm:=tm) (env:=env) aa0 hps (fun p hp=>by
  grind [Nat.blt_eq]) (fun i av x e1 e2=>hv i av x e1 (by simp_all)) (fun i=>(NE i).mono (.refl _ _) hU (.refl _ _))
 have hS0:SR N [] w g (Ar H Af) ⟨ng ps.toList args env,Ar H Af⟩ g { tmps:=(ps.zip vals).foldl (fun tmps (p:Nat×Value)=>tmps.setIfInBounds p.1 p.2) tm,defers:=[] } w:=by
  grind [SR.mk,Le.refl]
 refine Nr hP hT hm hE (fun l σ _ _ w _ _ _=>hY l σ _ w) (some l) GO zA (fun e st1 g1 a1 w1 hq nG=>?_) hS0 hk;cases e with
 |exit _=>simp_all
 |ret=>simp_all
 |normal=>
  have rb:w1.heap[l]?=some (.loop (H1 fn tm ps GO body D .ready)):=(nG.inv.frame l Fp SA).trans hl;refine⟨_,run_beginRound rb rfl,?_⟩;obtain⟨iS,sS⟩:=hI.put (n0:=w.heap.size) (x:=l) (o':=.loop (H1 fn tm ps GO body D .busy)) hl (QY _) (QY _) (.inr rfl);have hlS:(w.putObj l (.loop (H1 fn tm ps GO body D .busy))).heap[l]?=some (.loop (H1 fn tm ps GO body D .busy)):=World.putObj_heap_same Fp;have Aae:(w.putObj l (.loop (H1 fn tm ps GO body D .busy))).heap.size=w.heap.size:=by simp_all
  obtain⟨_,sB⟩:=iS.dullS (w':=w) (n0:=w.heap.size) (x:=l) ⟨rfl,rfl,rfl⟩ aa0 (fun b _=>by
   grind [World.putObj_heap_other]) (fun b _ Fi=>(World.putObj_heap_other Fi).symm)
  obtain⟨i2,s2⟩:=nG.inv.base.put (n0:=w.heap.size) (x:=l) (o':=.loop (H1 fn tm ps GO body D .busy)) rb (QY _) (QY _) (.inr rfl);have S2:=(sB.trans (Xt.of_inv nG.inv nG.le (Aq _))).trans s2;have eZ:(w1.putObj l (.loop (H1 fn tm ps GO body D .busy))).heap[l]?=some (.loop (H1 fn tm ps GO body D .busy)):=World.putObj_heap_same (B6.1 rb).1;have hI2:=i2.of_seg (by rw[Aae];exact S2) (fun _=>eZ.trans hlS.symm);have hS2:SR N [] (w.putObj l (.loop (H1 fn tm ps GO body D .busy))) g (Ar H Af) st1 g1 a1 (w1.putObj l (.loop (H1 fn tm ps GO body D .busy))):=⟨hI2,S2.le,nG.dfs,nG.size,fun i=>(nG.slots i).le s2.le⟩;refine Nr hP hT hm hE (fun l σ _ _ w _ _ _=>hY l σ _ w) (some l) body hcb (fun e st3 g3 a3 w3 hq zj=>?_) hS2 hq;cases e with
  |exit _=>simp_all
  |ret=>simp_all
  |normal=>
   have u9:w3.heap[l]?=some (.loop (H1 fn tm ps GO body D .busy)):=(zj.inv.frame l aa0 SA).trans hlS;refine⟨.bool true,w3.putObj l (.loop (H1 fn tm ps GO body D .ready)),run_endRound none u9,?_⟩;obtain⟨gf,if1,if2⟩:=Oz cx.pl.fin zj.inv;obtain⟨i4,s4⟩:=if1.base.put (n0:=w.heap.size) (x:=l) (o':=.loop (H1 fn tm ps GO body D .ready)) u9 (QY _) (QY _) (.inr rfl);have S4:=(sS.trans (Xt.of_inv if1 (zj.le.trans if2) aa0)).trans s4;have hl4:(w3.putObj l (.loop (H1 fn tm ps GO body D .ready))).heap[l]?=some (.loop (H1 fn tm ps GO body D .ready)):=World.putObj_heap_same (B6.1 u9).1;have hI4:=i4.of_seg S4 (fun _=>hl4.trans hl.symm);obtain⟨_,j1,j2⟩:=Wd hσ.1 hσ.2 hI4 S4.le;exact⟨.bool true,.v (.bool true),_,_,rfl,hq,.v _ _,j1,j2⟩
def Xp(P:Program)(Y:Gh->World->Prop)(σ:JT)(f:Nat)(args:List AV)(h0:Nat->HO)(Q:AV->(Nat->HO)->Prop):Prop:=
 GM P f/\∀(g:Gh) (w:World) (vals:Array Value),vals.size=args.length->(∀(i:Nat) (av:AV) (x:Value),args[i]?=some av->vals[i]?=some x->A5 g w (used h0) av x) ->
  Cv w g h0 h0 g w->(∀h' g' w',Cv w g h0 h' g' w'->Le h0 g w h' g' w'->Y (DE σ g') w') ->
  Calls P f vals w fun e w'=>∃v r h' g',e=.returned v/\Q r h'/\A5 g' w' (used h') r v/\Cv w g h0 h' g' w'/\Le h0 g w h' g' w'
theorem j9{Y:Gh->World->Prop}{l:Nat}{f:Nat}{H0:List (Nat×HO)}{Q:AV->(Nat->HO)->Prop}(σ:JT)(hP:cx.P=P)(hT:BY P cx.T)(hm:P.follows .mixedOrders=true)(hx:cx.ext=true)(hf:P.funcs[f]?=some fn)(hn : (fn.name == "runtime.NumGoroutine") = false)(hb : fn.body = some c)(hN : args.length <= fn.ntmps)(hc : Ee fn.ntmps c = true)(hσ : (HF σ && I7 σ H0) = true)(hy:cx.yp=fun l' σ' g w=>l'=l->σ'=σ->Y g w)(hk:Pl cx c (ne cx fn.results.toList σ Q) ⟨On args,Ar H0 Af⟩):Xp P Y σ f args (Ar H0 Af) Q:=
 ⟨⟨fn,hf,hn,by simp_all⟩,fun g w vals hs hv hI hp=>X9 cx σ hP hT hm hx hf hn hb hN hc hσ hk hs hv hI fun l' σ' h' g' w' _ q1 q2=>by
  grind⟩
theorem vZ{pq s:Nat}{rest:Code}(hP:cx.P=P)(hT:BY P cx.T)(hm:P.follows .mixedOrders=true)(hx:cx.ext=true){H0 Hn:List (Nat×HO)}(hσ:(HF σ&&I7 σ H0)=true)(hσn:I7 σ Hn=true){env:Nat->AV}{gf:Nat}{caps:List AV}(hF:env s=.clo gf caps){Qv:AV->Prop}(hIT:∀(l D:Nat) (f' : FuncId) (tm:Array Value),tm.size=N->Xp P (fun g w=>w.heap[l]?=some (.loop (H1 f' tm ps GO body D .ready))/\∀i,A5 g w (used (Ar H0 Af)) (env i) (tm.getD i undef)) σ gf
   (.v (.func (.yield l) #[] #[])::caps) (Ar H0 Af) fun _ h'=>h'=Ar Hn Af)(hcr:Ee N rest=true)(hbk:Od [] body=false)(vw:Pl cx rest (aj cx fn.results.toList Qv) ⟨env,Ar Hn Af⟩)(hY:∀l σ g w,cx.yp l σ g w){a:Act}(ha:a.defers=[])(hN:a.tmps.size=N)(hI:Cv w g (Ar H0 Af) (Ar H0 Af) g w)(NE:∀i,A5 g w (used (Ar H0 Af)) (env i) (a.tmps.getD i undef)){R:Ending->World->Prop}(hR:∀v r h' g' w',Qv r->A5 g' w' EZ r v->Cv w g (Ar H0 Af) h' g' w'->Le (Ar H0 Af) g w h' g' w'->R (.returned v) w') :
  (Code.block pq (.rangeFunc (.tmp s) ps GO body)).wpIn (Jv none) 0 P (Exit.then (rest.wpIn (Jv none) 0 P (bodyPostM (Jv none) 0 P fn R)) (bodyPostM (Jv none) 0 P fn R)) a w:=by
 simp only[Au]at hσ;have QY:∀f' tm D s,Wa (.loop (H1 f' tm ps GO body D s))=true:=fun _ _ _ _=>by show(!Od [] body)=true;simp_all
 refine wpIn_block (wpIn_rangeFunc fun f' _=>?_);have hs:=NE s;rw[hF]at hs;have pA:a.eval (.tmp s)=a.tmps.getD s undef:=rfl;generalize hfv:a.tmps.getD s undef=fv at hs pA;cases hs with
 |clo _ _ _ lb FM NC=>
 obtain⟨i0,s0⟩:=hI.allocS (n0:=w.heap.size) (x:=w.heap.size) (.deferred (some [])) (Aq _);obtain⟨i1,s1⟩:=i0.allocS (n0:=w.heap.size) (x:=w.heap.size) (.loop (H1 f' a.tmps ps GO body w.heap.size .ready)) (by simp_all);generalize hW:(w.alloc (.deferred (some []))).alloc (.loop (H1 f' a.tmps ps GO body w.heap.size .ready))=W1 at i1 s1;have AfB:W1.heap.size=w.heap.size+2:=by grind [World.size_alloc]
 have hl:W1.heap[w.heap.size+1]?=some (.loop (H1 f' a.tmps ps GO body w.heap.size .ready)):=by
  grind [World.alloc_heap_new]
 have hD:W1.heap[w.heap.size]?=some (.deferred (some [])):=by
  grind [heap_alloc_old,World.alloc_heap_new]
 have SA:∀b ob,W1.heap[b]?=some ob->Wa ob=true->∀r,((Ar H0 Af) r).live->g.own r≠some b:=fun b ob hb hd r hr e=>OR (i1.objs r) hr e hb hd;have S1:=s0.trans s1;have hit:=hIT (w.heap.size+1) w.heap.size f' a.tmps hN
 refine⟨w.heap.size+1,[{ target:=.collected w.heap.size,args:=#[] }],W1,{ target:=.fn (.func gf) lb,args:=#[.func (.yield (w.heap.size+1)) #[] #[]] },W1,gf,
  #[.func (.yield (w.heap.size+1)) #[] #[]]++lb,W1,?_,?_,fun _ _=>trivial,?_,fun e=>(by cases e),?_⟩
 .grind [run_enterLoop_outer]
 .simp only[resolve,pA];simp[go_sem]
 .simp only[invoke];rw[GI hit.1]
 refine callsIn_wide.2 ((hit.2 g W1 _ (by grind) (fun i av x e1 e2=>?_) i1 (fun h' g' w' q1 q2=>?_)).mono ?_)
 .cases i with
  |zero=>
   grind [A5.v]
  |succ i=>
   have e2:lb[i]?=some x:=by grind
   exact(NC i av x (by simp_all) e2).le S1.le
 .obtain⟨_,_,j2⟩:=Wd hσ.1 hσ.2 q1 q2;refine⟨(q1.frame _ aa0 (SA _ _ hl (QY _ _ _ _))).trans hl,fun i=>?_⟩;exact((NE i).le S1.le).mono j2.keeps (fun _ h=>h) j2.gh
 rintro e w2 ⟨v,r,h',g2,rfl,rfl,_,q3,q4⟩
 have eZ:w2.heap[w.heap.size+1]?=some (.loop (H1 f' a.tmps ps GO body w.heap.size .ready)):=(q3.frame _ aa0 (SA _ _ hl (QY _ _ _ _))).trans hl;have y8:w2.heap[w.heap.size]?=some (.deferred (some [])):=(q3.frame _ aa0 (SA _ _ hD rfl)).trans hD;refine⟨none,_,run_endLoop eZ (fun e=>by cases e),?_⟩;obtain⟨i4,s4⟩:=q3.base.put (n0:=w.heap.size) (x:=w.heap.size) (o':=.loop { H1 f' a.tmps ps GO body w.heap.size .ready with state:=.exhausted }) eZ (QY _ _ _ _) (QY f' a.tmps w.heap.size .exhausted) (.inl aa0);have S4:=(S1.trans (Xt.of_inv q3 q4 aa0)).trans s4;generalize hW4:w2.putObj (w.heap.size+1) (.loop { H1 f' a.tmps ps GO body w.heap.size .ready with state:=.exhausted })=w4 at i4 s4 S4;have y9:w4.heap[w.heap.size]?=some (.deferred (some [])):=by grind [World.putObj_heap_other]
 have hE:Lv cx (Ar Hn Af):=by unfold Lv;rw[hx];exact fun i hi=>⟨(Hw hσn i hi).1,(Hw hσn i hi).2.1⟩
 have hS4:SR N [{ target:=.collected w.heap.size,args:=#[] }] w4 g2 (Ar Hn Af) ⟨env,Ar Hn Af⟩ g2 { a with defers:=[{ target:=.collected w.heap.size,args:=#[] }]++a.defers } w4:=
  ⟨i4,.refl _ _ _,by simp_all,hN,fun i=>(NE i).le S4.le⟩
 refine Nr hP hT hm hE (fun l σ _ _ w _ _ _=>hY l σ _ w) none rest hcr (fun e st5 g5 a5 w5 hq lY=>?_) hS4 vw;have fin:fN cx st5 fn.results.toList Qv->LeavesInM (Jv none) 0 P fn a5.tmps R a5.defers .returning w5:=by
  intro hk;have hD5:w5.heap[w.heap.size]?=some (.deferred (some [])):=(lY.inv.frame _ (B6.1 y9).1 (fun r hr e=>OR (i4.objs r) hr e y9 rfl)).trans y9;rw[lY.dfs];refine⟨by simp,.inl ⟨w.heap.size,_,rfl,run_takeDeferred hD5,?_⟩⟩;obtain⟨i6,s6⟩:=lY.inv.base.put (n0:=w.heap.size) (x:=w.heap.size) (o':=.deferred none) hD5 rfl rfl (.inr rfl);have hS6:SR N [{ target:=.collected w.heap.size,args:=#[] }] (w5.putObj w.heap.size (.deferred none)) g5 st5.h st5 g5 a5 (w5.putObj w.heap.size (.deferred none)):=⟨i6,.refl _ _ _,lY.dfs,lY.size,fun i=>(lY.slots i).le s6.le⟩;obtain⟨g7,r,v,h7,k1,k2,k3,k4,k5⟩:=WQ hT hS6 hk;have S7:=((S4.trans (Xt.of_inv lY.inv lY.le (AL (Aq _) S4.size))).trans s6).trans (Xt.of_inv k3 k4 (AL (Aq _) ((S4.trans (Xt.of_inv lY.inv lY.le (AL (Aq _) S4.size))).trans s6).size));exact⟨v,k2,hR v r h7 g7 _ k1 k5 (k3.base.of_seg S7 fun h=>absurd h (Nat.lt_irrefl _)) S7.le⟩
 cases e with
 |normal=>exact fin hq
 |ret=>exact fin hq
 |exit id=>exact hq.elim
end
def mz(cx:Cx):Nat->Code->(Ex->St->Prop)->(Code->Code->St->Prop)->St->Prop
 |0,.seq (.seq a b) d,Q,K,st=>Pl cx a (fun e ES=>match e with |.normal=>K b d ES |e=>Q e ES) st
 |0,.seq b d,_,K,st=>K b d st
 |n+1,.seq a b,Q,K,st=>Pl cx a (fun e ES=>match e with |.normal=>mz cx n b Q K ES |e=>Q e ES) st
 |_,_,_,_,_=>False
section
variable {P:Program}{N:Nat}{ds:List Deferred}{w0:World}{g0:Gh}{h0:Nat->HO}{st:St}{g:Gh}{a:Act}{w:World}
theorem mA{cx:Cx}(hP:cx.P=P)(hT:BY P cx.T)(hm:P.follows .mixedOrders=true)(hE:Lv cx h0)(hY:∀l σ h g w,D3 σ=true->Cv w0 g0 h0 h g w->Le h0 g0 w0 h g w->cx.yp l σ (DE σ g) w)
  {Qa:Ex->St->Prop} {K:Code->Code->St->Prop} {Q:Exit->Act->World->Prop} (hQ:∀e st g a w,e≠.normal->Qa e st->SR N ds w0 g0 h0 st g a w->Q e.real a w)
  (hK:∀b d st g a w,K b d st->SR N ds w0 g0 h0 st g a w->b.wpIn (Jv none) 0 P (Exit.then (d.wpIn (Jv none) 0 P Q) Q) a w) :
  ∀(n:Nat) (c:Code),Ee N c=true->∀{st:St} {g:Gh} {a:Act} {w:World},SR N ds w0 g0 h0 st g a w->mz cx n c Qa K st->c.wpIn (Jv none) 0 P Q a w:=by
 intro n
 induction n with
 |zero=>
  intro c hc st g a w hS hk;cases c with
  |seq y d=>
   simp only[Ee,Au]at hc;cases y with
   |seq x b=>
    have hk:Pl cx x (fun e ES=>match e with | .normal=>K b d ES | e=>Qa e ES) st:=hk;simp only[Ee,Au]at hc;refine wpIn_seq (wpIn_seq (Nr hP hT hm hE hY none x hc.1.1 (Qa:=fun e ES=>match e with | .normal=>K b d ES | e=>Qa e ES) (fun e st g a w q hS=>?_) hS hk));cases e with
    |normal=>exact hK b d _ _ _ _ q hS
    |exit id=>exact hQ (.exit id) _ _ _ _ (fun e=>by cases e) q hS
    |ret=>exact hQ .ret _ _ _ _ (fun e=>by cases e) q hS
   |_=>exact wpIn_seq (hK _ d _ _ _ _ hk hS)
  |_=>exact hk.elim
 |succ n ih=>
  intro c hc st g a w hS hk;cases c with
  |seq x y=>
   simp only[Ee,Au]at hc;refine wpIn_seq (Nr hP hT hm hE hY none x hc.1 (Qa:=fun e ES=>match e with | .normal=>mz cx n y Qa K ES | e=>Qa e ES) (fun e st g a w q hS=>?_) hS hk);cases e with
   |normal=>exact ih y hc.2 hS q
   |exit id=>exact hQ (.exit id) _ _ _ _ (fun e=>by cases e) q hS
   |ret=>exact hQ .ret _ _ _ _ (fun e=>by cases e) q hS
  |_=>exact hk.elim
def strT(h:Nat->HO):AV->AV
 |.tup cs=>.tup (cs.map (str h))
 |a=>str h a
theorem A5.strT{h:Nat->HO}(ho:∀r,DB g w (used h) r (h r)){av:AV}{x:Value}(r:A5 g w (used h) av x):A5 g w EZ (Eng.strT h av) x:=by
 cases av with
 |tup cs=>
  cases r with
  |tup _ _ vs hs hr=>
   exact .tup _ _ vs (by simp_all) fun i av x q1 q2=>by
    grind [A5.str]
 |_=>exact A5.str ho r
def RfK(P:Program)(N:Nat)(fn:Func)(Gz:AV)(b rest:Code)(st:St):Prop:=
 ∃(σF σ:JT) (H0 Hn:List (Nat×HO)) (pq s:Nat) (ps:Array Tmp) (GO body:Code) (gf:Nat) (caps:List AV),
  b=.block pq (.rangeFunc (.tmp s) ps GO body)/\(D3 σF&&DO st.h 0 0&&CI σF 0 0)=true/\F8 σF st.h=Ar H0 Af/\(HF σ&&I7 σ H0)=true/\I7 σ Hn=true /\
  ren (Cp σF) st.h (st.t s)=.clo gf caps /\
  (∀(l D:Nat) (f' : FuncId) (tm:Array Value),tm.size=N->Xp P (fun g w=>w.heap[l]?=some (.loop (H1 f' tm ps GO body D .ready))/\∀i,A5 g w (used (Ar H0 Af)) (ren (Cp σF) st.h (st.t i)) (tm.getD i undef)) σ gf
   (.v (.func (.yield l) #[] #[])::caps) (Ar H0 Af) fun _ h'=>h'=Ar Hn Af) /\
  Ee N rest=true/\Od [] body=false/\Pl dY rest (aj dY fn.results.toList fun r=>DC r Gz) ⟨fun i=>ren (Cp σF) st.h (st.t i),Ar Hn Af⟩
theorem kW {f : Nat}{args : List AV}{Gz : AV}(hP : cx.P = P)(hT : BY P cx.T)(hP2 : dY.P = P)(hT2 : BY P dY.T)(hm : P.follows .mixedOrders = true)(hx : cx.ext = false)(sP : dY.ext = true)(hf : P.funcs[f]? = some fn)(hn : (fn.name == "runtime.NumGoroutine") = false)(hb:fn.body=some c)(hN:args.length<=fn.ntmps)(hc:Ee fn.ntmps c=true)(n:Nat)(aL:∀g h,ren g h Gz=Gz/\strT h Gz=Gz)(hk:mz cx n c (aj cx fn.results.toList fun r=>DC r Gz) (RfK dY P fn.ntmps fn Gz) ⟨On args,Af⟩)(hY:∀l σ g w,cx.yp l σ g w:=by exact fun _ _ _ _=>trivial)(hY2:∀l σ g w,dY.yp l σ g w:=by exact fun _ _ _ _=>trivial):K6 P f args Gz:=by
 refine⟨⟨fn,hf,hn,by simp_all⟩,fun g w vals hs hv hI=>callsIn_wide.1 (callsIn_of_wp_marks (F:=Fence.wide) (n:=0) hf hb trivial ?_ rfl)⟩;have hU:used Af=EZ:=by grind [used,EZ,Af]
 have hS:SR fn.ntmps [] w g Af ⟨On args,Af⟩ g { tmps:=vals++Array.replicate (fn.ntmps-vals.size) undef,defers:=[] } w:=by
  refine⟨hI,.refl _ _ _,rfl,by simp_all,fun i=>?_⟩
  have:=Oo (n:=fn.ntmps-vals.size) (args:=args) (vals:=vals.toList) aa0 (fun i av x q1 q2=>hv i av x q1 (by simp_all)) i
  grind [Array.getD_eq_getD_getElem?,Array.toList_append,Array.toList_replicate]
 refine mA hP hT hm (by unfold Lv;rw[hx];exact fun _=>rfl) (fun l σ _ _ w _ _ _=>hY l σ _ w) (fun e st g' a w' Fi hk hS=>?_) (fun b rest st g' a w' hk hS=>?_) n c hc hS hk
 .have out:fN cx st fn.results.toList (fun r=>DC r Gz)->LeavesInM (Jv none) 0 P fn a.tmps (fun e w'=>∃v r h' g',e=Ending.returned v/\(r=Gz/\h'=Af)/\A5 g' w' (used h') r v/\Cv w g Af h' g' w'/\Le Af g w h' g' w') a.defers .returning w':=by
   intro hk;obtain⟨g2,r,v,h',q1,q2,q3,q4,q5⟩:=WQ hT hS hk;rw[hS.dfs];exact⟨v,q2,v,Gz,Af,g2,rfl,⟨rfl,rfl⟩,by rw[hU];exact q1 _ _ _ _ q5,Cv.toFree (st:=⟨st.t,h'⟩) q3,⟨fun i hi=>absurd rfl hi,fun i hi=>absurd rfl hi,q4.keeps⟩⟩
  cases e with
  |normal=>simp_all
  |ret=>exact out hk
  |exit id=>exact hk.elim
 .obtain⟨σF,σ,H0,Hn,pq,s,ps,GO,body,gf,caps,rfl,k1,k2,k3,k4,k5,k6,k7,k9,k8⟩:=hk;have hσF:D3 σF=true:=by simp_all
  obtain⟨Aet,hI1⟩:=Wk hS.inv hσF;rw[k2]at hI1;have NE:∀i,A5 (DE σF g') w' (used (Ar H0 Af)) (ren (Cp σF) st.h (st.t i)) (a.tmps.getD i undef):=fun i=>by
   grind [A5.ren,SR.slots]
  refine Mo (Q:=fun r h'=>r=Gz) (C:=fun R'=>(∀e dj,R' e dj->(∃v r h' g',e=Ending.returned v/\(r=Gz/\h'=Af)/\A5 g' dj (used h') r v/\Cv w g Af h' g' dj/\Le Af g w h' g' dj)) ->
   (Code.block pq (.rangeFunc (.tmp s) ps GO body)).wpIn (Jv none) 0 P (Exit.then (rest.wpIn (Jv none) 0 P (bodyPostM (Jv none) 0 P fn (fun e dj=>∃v r h' g',e=Ending.returned v/\(r=Gz/\h'=Af)/\A5 g' dj (used h') r v/\Cv w g Af h' g' dj/\Le Af g w h' g' dj))) (bodyPostM (Jv none) 0 P fn (fun e dj=>∃v r h' g',e=Ending.returned v/\(r=Gz/\h'=Af)/\A5 g' dj (used h') r v/\Cv w g Af h' g' dj/\Le Af g w h' g' dj))) a w')
   (fun h k h2=>h fun e w r=>h2 _ _ (k _ _ r)) hS.inv (d:=0) (nn:=0) k1 (fun _ pK=>?_) (fun v r h' g2 w2 q1 q2 q3 q4=>?_) (fun _ _ h=>h)
  .rw[k2]at pK;exact vZ dY hP2 hT2 hm sP k3 k4 k5 k6 k7 k9 k8 hY2 hS.dfs hS.size hI1 NE fun v r h' g5 w5 q1 q2 q3 q4=>pK _ _ ⟨v,Gz,h',g5,rfl,rfl,(q1 _ _ _ _ q2).up _,q3,q4⟩
  .subst q1;rw[(aL _ _).1]at q4;have q5:=A5.strT q2.objs q4;rw[(aL (fun _=>none) _).2]at q5;exact⟨v,r,Af,g2,rfl,⟨rfl,rfl⟩,by simp_all,Cv.toFree (st:=⟨st.t,_⟩) q2,⟨fun i hi=>absurd rfl hi,fun i hi=>absurd rfl hi,(hS.le.trans q3).keeps⟩⟩
end
end Go.Eng
