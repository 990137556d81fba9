/- Lemmas 13. -/
import Derived.Test.YtkmnnpmneamgoaaGreatDoorPA12
import Derived.Below
import Derived.RangeFuncLeaves
import Derived.RangeFuncNested
namespace Go.Eng
open Go.Sort
theorem Ca.append{g:Gh}{w:World}{U:Nat->Prop}{U9 bs:List AV}{xs ys:List Value}(h:Ca g w U U9 xs)(k:Ca g w U bs ys):Ca g w U (U9++bs) (xs++ys):=by
 refine⟨by rw[Ay,Ay,h.1,k.1],fun x hx=>?_,fun i av x q1 q2=>?_⟩
 .rcases Bc.1 hx with hx | hx
  .exact h.2.1 x hx
  .exact k.2.1 x hx
 .have hl:=h.1
  by_cases hi:i<U9.length
  .rw[D1 hi]at q1;rw[D1 aa0]at q2;exact h.2.2 i av x q1 q2
  .rw[BQ aa0]at q1;rw[BQ aa0,hl]at q2;exact k.2.2 _ av x q1 q2
theorem Ca.take{g:Gh}{w:World}{U:Nat->Prop}{U9:List AV}{xs:List Value}(h:Ca g w U U9 xs)(k:Nat):Ca g w U (U9.take k) (xs.take k):=by
 refine⟨by rw[Cy,Cy,h.1],fun x hx=>h.2.1 x (DU hx),fun i av x q1 q2=>?_⟩;rw[List.getElem?_take]at q1 q2;split at q1
 .rename_i hi;rw[AX hi]at q2;exact h.2.2 i av x q1 q2
 simp_all
theorem Ca.drop{g:Gh}{w:World}{U:Nat->Prop}{U9:List AV}{xs:List Value}(h:Ca g w U U9 xs)(k:Nat):Ca g w U (U9.drop k) (xs.drop k):=by
 refine⟨by rw[SD,SD,h.1],fun x hx=>h.2.1 x (Iw hx),fun i av x q1 q2=>?_⟩;rw[F9]at q1 q2;exact h.2.2 _ av x q1 q2
theorem Jb{α:Type}{k:Nat}:∀(es:List (List α)) (i:Nat),(∀e∈es,e.length=k)->es.flatten.take (i*k)=(es.take i).flatten
 | [],i,_=>by simp
 |e::es,0,_=>by simp
 |e::es,i+1,h=>by
  have he:=h e (Ah ..);rw[Cj,List.take_succ_cons,Cj,List.take_append,<-Jb es i fun x hx=>h x (Ai _ hx),Bd (by grind),he,show(i+1)*k-k=i*k by grind]
theorem O8{α:Type}{k:Nat}:∀(es:List (List α)) (i:Nat),(∀e∈es,e.length=k)->es.flatten.drop (i*k)=(es.drop i).flatten
 | [],i,_=>by simp
 |e::es,0,_=>by simp
 |e::es,i+1,h=>by
  have he:=h e (Ah ..);rw[Cj,List.drop_succ_cons,List.drop_append,<-O8 es i fun x hx=>h x (Ai _ hx),D0 (by grind),he,show(i+1)*k-k=i*k by grind,Ek]
section
variable {P:Program}
theorem fo{f:Nat}{es:List (List AV)}{sz:Nat}{rest:List Value}{n' : Nat}{Q:List (List AV)->Prop}(hE:Gr P f)(D8:es≠[])(bM : n'<=es.length)
  (h1:∀(g:Gh) (w:World) (b cap:Nat) (F:Array Value),Ca g w Fs es.flatten F.toList->F.size=es.length*sz->Holds id w b 0 F->b<w.heap.size->es.length<=cap->Calls P f (#[.slice (some ⟨b,0,none⟩) es.length cap]++rest.toArray) w fun e w'=>
   e=.returned (.slice (some ⟨b,0,none⟩) n' cap)/\∃(F' : Array Value) (E7 : List (List AV)) (n:Nat) (os:Array Obj),F'.size=F.size/\Q E7/\E7.length=es.length/\(∀cs∈E7,cs.length=sz) /\
    (∀(g:Gh) (w:World),Ca g w Fs es.flatten F.toList->Ca g w Fs E7.flatten F'.toList)/\w'=grow (putRow id (Sort.ahead w n) b 0 F') os) :
  A6 P f (.msl 1000 es.length::rest.map .v) (Af [(1000,.arr sz es)] Ae) fun r h'=>r=.msl 2000 n'/\∃E7,Q E7/\h'=Af [(1000,.dead),(2000,.arr sz (E7.take n'))] Ae:=by
 refine⟨hE,fun g w us hs hv hI=>?_⟩;have ho:=hI.objs 1000;have he:Af [(1000,HO.arr sz es)] Ae 1000=.arr sz es:=rfl;rw[he]at ho;obtain⟨t1,l1,al,a2⟩:=ho;simp only[BF,BR]at hs;have yc:0<us.size:=by omega
 have jA:=hv 0 (.msl 1000 es.length) us[0] rfl (CK yc);have Oe:us[0]=g.ρ 1000:=by
  grind [cases AY]
 have Mz:us=#[g.ρ 1000]++rest.toArray:=by
  refine Array.ext (by simp_all) fun i h1 h2=>?_;cases i with
  |zero=>simp_all
  |succ i=>
   have hi:i<rest.length:=by omega
   have:=hv (i+1) (.v rest[i]) us[i+1] (by simp_all) (CK h1)
   rw[this.v_eq];simp
 rw[Mz];rcases a2 with ⟨b1,b2,b3⟩ | ⟨b,cap,E,vs,b1,b2,b3,b4,b5,b6,b7⟩
 .simp_all
 .have hl:(Af [(1000,HO.arr sz es)] Ae 1000).live:=trivial;have E1:=(hI.loc 1000 b hl b2).1;have IF:es.length*sz<=vs.size:=by rw[b5];exact Bx _ b3
  have hF:((vs.toList.take (es.length*sz)).toArray).size=es.length*sz:=by simp_all
  have hH:Holds id w b 0 (vs.toList.take (es.length*sz)).toArray:=fun j hj=>by
   grind [World.cell?,World.frozen?]
  rw[b1];refine(h1 g w b cap _ aa0 hF hH E1 b3).mono ?_
  rintro e w' ⟨rfl,F',E7,n,os,f1,f2,f3,f4,f5,rfl⟩
  have th : F'.size=es.length*sz:=f1.trans hF;have vt:=Kn F' vs aa0;have nY : (grow (putRow id (Sort.ahead w n) b 0 F') os).heap[b]?=some (.cells (putCells id 0 F' vs) E (0,0)):=by
   rw[heap_grow_old _ _ (by simp_all)];show(w.heap.modify b (onCells (putCells id 0 F')))[b]?=_;rw[Array.getElem?_modify,AX rfl,b4];rfl
  have tG:∀k,k<w.heap.size->k≠b->(grow (putRow id (Sort.ahead w n) b 0 F') os).heap[k]?=w.heap[k]?:=fun k hk D8=>by
   rw[heap_grow_old _ _ (by simp_all)];simp[putRow,mapBlock,Array.getElem?_modify,Ne.symm D8]
  have FG:w.heap.size<=(grow (putRow id (Sort.ahead w n) b 0 F') os).heap.size:=by simp_all
  obtain⟨k1,k2⟩:=hI.upd 1000 (.arr sz E7) (g.ρ 1000) (g.ln 1000) (g.tk 1000) (g.own 1000) g.S (grow (putRow id (Sort.ahead w n) b 0 F') os) (some b) ⟨rfl,rfl,rfl,FG⟩
   (fun k hk D8=>tG k hk (fun e=>D8 (by rw[e]))) (fun b' e=>by simp_all) (fun _ _ h=>h) (fun _ _ h=>.inl h) (fun b' o e hs=>by simp_all)
   (fun b' _ e=>by grind) aa1 (fun _=>⟨rfl,Ao _,fun _=>rfl,fun _=>rfl⟩) (fun hg hk=>by
    refine⟨by grind [Gh.upd],by grind [Gh.upd],f4,.inr ⟨b,cap,E,_,by grind [Gh.upd],by grind [Gh.upd],by omega,nY,by omega,?_,b7⟩⟩
    have:=f5 g w aa0
    rw[f3,<-th,vt.1];exact this.mono hk (fun _ h=>h) (fun _ h=>h.elim))
  rw[Oc]at k1 k2;generalize lA : g.upd 1000 (g.ρ 1000) (g.ln 1000) (g.tk 1000) (g.own 1000) g.S=g' at k1 k2;have tD : g'.own 1000=some b:=by grind [Gh.upd]
  have lH:=k1.objs 1000;have jx:Af [(1000,HO.arr sz E7)] Ae 1000=.arr sz E7:=rfl;rw[jx]at lH;obtain⟨m1,m2,m3,m4⟩:=lH;have hρ:g'.ρ 1000=.slice (some ⟨b,0,none⟩) es.length cap:=by grind [Gh.upd]
  have Aci : E7≠[]:=fun e=>D8 (Aw (by simp_all));rcases m4 with ⟨m4,_⟩ | ⟨b',Mk,E',fe,c1,c2,c3,c4,c5,c6,c7⟩
  .simp_all
  .rw[hρ]at c1;simp only[Value.slice.injEq,Cm,Addr.mk.injEq,and_true]at c1;obtain⟨c1a,c1b,c1c⟩:=c1;subst c1a;subst c1c;have xP : (E7.take n').length=n':=by grind
   obtain⟨k3,k4⟩:=k1.move 1000 2000 aa2 rfl trivial tD (.arr sz (E7.take n')) (.slice (some ⟨b,0,none⟩) n' cap) n' true aa1 (fun hk=>by
    refine⟨by simp[Gh.upd],by grind [Gh.upd],fun cs hcs=>m3 cs (DU hcs),.inr ⟨b,cap,E',fe,by grind [Gh.upd],by simp[Gh.upd],by omega,c4,c5,?_,c7⟩⟩
    have:=(c6.mono hk (fun _ h=>h) (fun _ h=>h.elim)).take (n'*sz)
    grind [Jb,Nat.mul_le_mul_right])
   have lC:AC (AC (Af [(1000,HO.arr sz E7)] Ae) 1000 .dead) 2000 (.arr sz (E7.take n'))=Af [(1000,.dead),(2000,.arr sz (E7.take n'))] Ae:=by
    funext i
    by_cases e1:i=2000
    .subst e1;rw[AS];rfl
    .rw[BN _ _ _ _ e1]
     by_cases e2:i=1000
     .subst e2;rw[AS];rfl
     grind [BN,Af,CC]
   rw[lC]at k3 k4;exact⟨_,.msl 2000 n',_,_,rfl,⟨rfl,E7,f2,rfl⟩,.msl _ 2000 n' (some ⟨b,0,none⟩) cap (by intro c;cases c) (by simp[Gh.upd]) (by simp[Gh.upd]) (.inr ⟨b,rfl⟩) (fun _=>by simp[Gh.upd]),k3,k2.trans k4⟩
end
end Go.Eng
namespace Go.Eng
variable {h:Nat->HO}{r ty e m:Nat}{cx:Cx}{x:AV}{K:HK}
def ko(a b:FL):Bool:=
 (match a.2 with | some r=>!IS b.1 r | none=>true)&&(match b.2 with | some r=>!IS a.1 r | none=>true)
def PY(ops:Array Oper)(oi:Oper)(fi:FL)(D:List Nat)(k:Nat):List Oper->List FL->Bool
 |o::r,f::fs=>(IS D k||(oi.apart ops o&&ko fi f))&&PY ops oi fi D (k+1) r fs
 | [],[]=>true
 |_,_=>false
def VT(ops:Array Oper)(all:List Oper)(k:Nat):List Oper->List FL->Bool
 |o::r,f::fs=>
  let D:=Qi k [] 0 all
  (o.after.toList.all fun e=>!Region.binds .any e||Nat.blt e.on k)&&UR k D 0 all&&(D.all fun j=>Nat.blt k j&&Nat.blt j all.length)&&PY ops o f D (k+1) r fs&&VT ops all (k+1) r fs
 | [],[]=>true
 |_,_=>false
def du(ops:Array Oper)(fs:List FL):Bool:=Region.noSelect ops&&VT ops ops.toList 0 ops.toList fs
def QQ(f:FL):Prop:=∀r,f.2=some r->r<10000000
def Sy:List FL->Prop
 | []=>True
 |f::r=>QQ f/\Sy r
theorem AJ(l:List Nat):QQ (l,none):=fun _ h=>by cases h
theorem Ee{l:List Nat}(h:r<10000000):QQ (l,some r):=fun _ e=>by simp_all
theorem kp{a b:FL}(ha:QQ a)(hb:QQ b)(h:ko a b=true):Tc a b=true:=by
 obtain⟨a1,a2⟩:=a;obtain⟨b1,b2⟩:=b;unfold ko at h;unfold Tc;rw[Aj]at h⊢;refine⟨?_,?_⟩
 .cases a2 with
  |none=>rfl
  |some r=>
   have h1:(!IS b1 r)=true:=h.1;show ZU b1 r=true;unfold ZU;rw[CC (show r≠WX by have:=ha r rfl;grind [WX]),Gf,h1,show Nat.blt r 10000000=true by rw[Do];exact ha r rfl];rfl
 .cases b2 with
  |none=>rfl
  |some r=>
   have h1:(!IS a1 r)=true:=h.2;show ZU a1 r=true;unfold ZU;rw[CC (show r≠WX by have:=hb r rfl;grind [WX]),Gf,h1,show Nat.blt r 10000000=true by rw[Do];exact hb r rfl];rfl
theorem VB{ops:Array Oper}{oi:Oper}{fi:FL}{D:List Nat}(hi:QQ fi):∀{l:List Oper} {fs:List FL} {k:Nat},Sy fs->PY ops oi fi D k l fs=true->Iy ops oi fi D k l fs=true
 | [],[],_,_,h=>h
 |o::r,f::fs,k,hs,h=>by
  unfold PY at h;unfold Iy;rw[Aj,JM,Aj]at h⊢;exact⟨h.1.imp id (fun q=>⟨q.1,kp hi hs.1 q.2⟩),VB hi hs.2 h.2⟩
 | [],_::_,_,_,h=>by grind [PY]
 |_::_,[],_,_,h=>by grind [PY]
theorem Yz{ops:Array Oper}{all:List Oper}:∀{l:List Oper} {fs:List FL} {k:Nat},Sy fs->VT ops all k l fs=true->Mq ops all k l fs=true
 | [],[],_,_,h=>h
 |o::r,f::fs,k,hs,h=>by
  unfold VT at h;unfold Mq;simp only[Aj]at h⊢;exact⟨⟨h.1.1,VB hs.1 hs.2 h.1.2⟩,Yz hs.2 h.2⟩
 | [],_::_,_,_,h=>by grind [VT]
 |_::_,[],_,_,h=>by grind [VT]
theorem I8{ops:Array Oper}{fs:List FL}(hs:Sy fs)(h:du ops fs=true):Td ops fs=true:=by
 grind [du,Td,Yz]
theorem Ri{d:Option Nat}{es es2:List (List AV)}(hty:(cx.T ty).d=.slice e)(hz:Nat.beq (cx.T e).zc.length (cx.T e).size=true)(FG:(cx.T e).size=m+1)(hx:∀K' : List (List AV)->Prop,K' es2->Li h x K')(hr:h r=.tok (m+1) es.length)(hl:A7 (m+1) es2)(hb:(es.length+es2.length)*(cx.T e).bytes<=140737488355328)(hc:es.length+es2.length<=9223372036854775807)(hk:K (.slice (.id r (m+1)) (es++es2)) (AC h r (.tok (m+1) (es.length+es2.length)))):Iq cx d h ty (.slice (.id r (m+1)) es) x K:=by
 grind [Nat.beq_refl,Iq]
theorem Rh{d:Nat}{es2:List (List AV)}(hty:(cx.T ty).d=.slice e)(hz:Nat.beq (cx.T e).zc.length (cx.T e).size=true)(FG:(cx.T e).size=m+1)(hx:∀K' : List (List AV)->Prop,K' es2->Li h x K')(hr:h (Kk cx d)=.free)(ha:Es cx.pl.arr d=none)(hl:A7 (m+1) es2)(hb:es2.length*(cx.T e).bytes<=140737488355328)(hc:es2.length<=9223372036854775807)(hk:K (.slice (.id (Kk cx d) (m+1)) es2) (AC h (Kk cx d) (.tok (m+1) es2.length))):Iq cx (some d) h ty nzA x K:=by
 grind [Iq,E8]
end Go.Eng
namespace Go.Eng
open Go.RowKit
end Go.Eng
namespace Go.Eng
variable {args:List AV}{fn:Func}{c:Code}{tm:Array Value}{ps:Array Tmp}{Es body:Code}(cx:Cx)(σ σy:HJ)
def Vb:Obj->Bool
 |.cells ..=>false
 |.map ..=>false
 |.mapIter ..=>false
 |.loop r=>!L5 [] r.body
 |_=>true
structure U7(n0 x:Nat)(w:World)(g:Gh)(h:Nat->HO)(w' : World)(g' : Gh)(h' : Nat->HO):Prop where
 os:w'.os=w.os
 tape:w'.tape=w.tape
 output:w'.output=w.output
 size:w.heap.size<=w'.heap.size
 frame:∀b,b<n0->b≠x->(∀r,(h r).live->g.own r≠some b)->w'.heap[b]?=w.heap[b]?
 loc:∀r b,(h' r).live->g'.own r=some b->n0<=b\/∃r',(h r').live/\g.own r'=some b
 sg:∀b o,g'.S b o->g.S b o\/n0<=b\/∃r',(h r').live/\g.own r'=some b
 le:Le h g w h' g' w'
section
variable {P:Program}{N:Nat}{ds:List Deferred}{n0 x:Nat}{w w' w1 w2:World}{g g' g1 g2:Gh}{h h' h1 h2:Nat->HO}
theorem U7.trans(a:U7 n0 x w g h w1 g1 h1)(b:U7 n0 x w1 g1 h1 w2 g2 h2):U7 n0 x w g h w2 g2 h2 where
 os:=b.os.trans a.os
 tape:=b.tape.trans a.tape
 output:=b.output.trans a.output
 size:=Bl a.size b.size
 frame c hc hx hn:=(b.frame c hc hx fun r hl e=>by
  rcases a.loc r c hl e with h | ⟨r',h1,h2⟩<;>grind).trans (a.frame c hc hx hn)
 loc r c hl e:=by
  rcases b.loc r c hl e with h | ⟨r',h1,h2⟩
  .omega
  .exact a.loc r' c h1 h2
 sg c o hs:=by
  rcases b.sg c o hs with h | h | ⟨r',h1,h2⟩
  .exact a.sg c o h
  .omega
  .rcases a.loc r' c h1 h2 with h | h<;>simp_all
 le:=a.le.trans b.le
theorem U7.of_inv(hI:Cw w g h h' g' w')(hL:Le h g w h' g' w')(hn:n0<=w.heap.size):U7 n0 x w g h w' g' h' where
 os:=hI.os
 tape:=hI.tape
 output:=hI.output
 size:=hI.size
 frame c hc _ bM:=hI.frame c aa0 bM
 loc r c hl e:=by
  rcases(hI.loc r c hl e).2 with h | h<;>grind
 sg c o hs:=by
  grind [Cw.sg]
 le:=hL
theorem Cw.base(hI:Cw w g h h' g' w'):Cw w' g' h' h' g' w' where
 os:=rfl
 tape:=rfl
 output:=rfl
 size:=Ao _
 frame _ _ _:=rfl
 slt:=hI.slt
 objs:=hI.objs
 inj:=hI.inj
 loc r b hl e:=⟨(hI.loc r b hl e).1,.inr ⟨r,hl,e⟩⟩
 sg _ _ hs:=.inl hs
 glob:=hI.glob
theorem Cw.of_seg(hI:Cw w' g' h' h' g' w')(s:U7 w.heap.size x w g h w' g' h')(hx:x<w.heap.size->w'.heap[x]?=w.heap[x]?):Cw w g h h' g' w' where
 os:=s.os
 tape:=s.tape
 output:=s.output
 size:=s.size
 frame b hb hn:=by
  grind [U7.frame]
 slt:=hI.slt
 objs:=hI.objs
 inj:=hI.inj
 loc r b hl e:=⟨(hI.loc r b hl e).1,s.loc r b hl e⟩
 sg:=s.sg
 glob:=hI.glob
theorem KR{U:Nat->Prop}{r b:Nat}{o:HO}{ob:Obj}(ho:DO g w U r o)(hl:o.live)(e:g.own r=some b)(hb:w.heap[b]?=some ob)(hd:Vb ob=true):False:=by
 cases o with
 |free=>exact hl
 |dead=>exact hl
 |ro cs=>exact hl
 |rom sh BV=>exact hl
 |cells cs=>
  obtain⟨_,b',E,vs,h1,_,h3,_⟩:=ho;rw[e]at h1;cases h1;rw[hb]at h3;cases h3;cases hd
 |tok sz n=>
  obtain⟨_,_,a,cap,_,(⟨_,h1⟩ | ⟨_,b',E,vs,off,_,h1,⟨_,h3,_⟩,_⟩)⟩:=ho
  .simp_all
  .rw[e]at h1;cases h1;rw[hb]at h3;cases h3;cases hd
 |vox v=>exact hl
 |hol sz es i c av=>
  obtain⟨_,_,_,b',cap,E,vs,_,h1,_,h3,_⟩:=ho;rw[e]at h1;cases h1;rw[hb]at h3;cases h3;cases hd
 |bld x=>
  obtain⟨_,b',p,v,h1,_,h3,_⟩:=ho;rw[e]at h1;cases h1;rw[hb]at h3;cases h3;cases hd
 |bbf n=>
  obtain⟨_,_,(⟨_,_,h1⟩ | ⟨b',cap,Ej,_,h1,_,_,h3,_⟩)⟩:=ho
  .simp_all
  .rw[e]at h1;cases h1;rw[hb]at h3;cases h3;cases hd
 |raw b' ob'=>
  obtain⟨_,h1,h2,h3,_⟩:=ho;rw[e]at h1;cases h1;rw[hb]at h2;cases h2;cases ob<;>simp[Vb,so]at hd h3
  simp_all
 |var sz v n=>
  obtain⟨_,_,a,cap,_,(⟨_,h1⟩ | ⟨_,b',E,vs,off,_,h1,⟨_,h3,_⟩,_⟩)⟩:=ho
  .simp_all
  .rw[e]at h1;cases h1;rw[hb]at h3;cases h3;cases hd
 |arr sz es=>
  obtain⟨_,_,_,(⟨_,_,h1⟩ | ⟨b',cap,E,vs,_,h1,_,h3,_⟩)⟩:=ho
  .simp_all
  .rw[e]at h1;cases h1;rw[hb]at h3;cases h3;cases hd
 |map sh BV=>
  obtain⟨_,b',es,ck,h1,_,h3,_⟩:=ho;rw[e]at h1;cases h1;rw[hb]at h3;cases h3;cases hd
 |mapU sh BV=>
  obtain⟨_,b',es,ck,h1,_,h3,_⟩:=ho;rw[e]at h1;cases h1;rw[hb]at h3;cases h3;cases hd
 |iter all rem Ej=>
  obtain⟨_,b',mb,Ke,seen,st,es,ck,h1,_,h3,_⟩:=ho;rw[e]at h1;cases h1;rw[hb]at h3;cases h3;cases hd
theorem Cw.dullS(hI:Cw w g h h g w)(ho:w'.os=w.os/\w'.tape=w.tape/\w'.output=w.output)(FG:w.heap.size<=w'.heap.size)
  (hb:∀b,b<w.heap.size->w'.heap[b]?=w.heap[b]?\/∃o o',w.heap[b]?=some o/\w'.heap[b]?=some o'/\Vb o=true/\Vb o'=true)
  (hn:∀b,b<n0->b≠x->w'.heap[b]?=w.heap[b]?):Cw w' g h h g w'/\U7 n0 x w g h w' g h:=by
 have hk:E9 g w g w':=fun b o hs=>by
  refine⟨hs,?_⟩;rcases hb b (hI.slt b o hs)with e | ⟨ob,ob',e1,e2,d1,d2⟩
  .grind [World.cell?]
  .refine⟨?_,fun es ck he=>?_⟩
   .simp only[World.cell?,e1,e2];cases ob<;>cases ob'<;>first | rfl | (cases d1;done) | (cases d2;done)
   .rw[e1]at he;cases he;cases d1
 have Xx:∀r b,(h r).live->g.own r=some b->w'.heap[b]?=w.heap[b]?:=fun r b hl e=>by
  rcases hb b (hI.loc r b hl e).1 with e' | ⟨ob,ob',e1,_,d1,_⟩
  .exact e'
  .exact(KR (hI.objs r) hl e e1 d1).elim
 refine⟨⟨rfl,rfl,rfl,Ao _,fun _ _ _=>rfl,fun b o hs=>Cp (hI.slt b o hs) FG,fun r=>?_,hI.inj,fun r b hl e=>⟨Cp (hI.loc r b hl e).1 FG,.inr ⟨r,hl,e⟩⟩,fun _ _ hs=>.inl hs,hI.glob.keep hk⟩,⟨ho.1,ho.2.1,ho.2.2,FG,fun b nY hx _=>hn b nY hx,fun r b hl e=>.inr ⟨r,hl,e⟩,fun _ _ hs=>.inl hs,⟨.refl _ _,fun _ h=>h,hk⟩⟩⟩;exact(hI.objs r).same hk (fun _ h=>h) (.refl _ _) rfl rfl rfl rfl fun b hl e=>⟨Xx r b hl e,fun _ h=>h⟩
theorem Cw.put(hI:Cw w g h h g w){l:Nat}{o o' : Obj}(hl:w.heap[l]?=some o)(hd:Vb o=true)(lx : Vb o'=true)(hx:n0<=l\/l=x) :
  Cw (w.putObj l o') g h h g (w.putObj l o')/\U7 n0 x w g h (w.putObj l o') g h:=by
 grind [World.putObj,Cw.dullS]
theorem Cw.allocS(hI:Cw w g h h g w)(o:Obj)(hn:n0<=w.heap.size):Cw (w.alloc o) g h h g (w.alloc o)/\U7 n0 x w g h (w.alloc o) g h:=by
 refine hI.dullS ⟨rfl,rfl,rfl⟩ (by simp_all) (fun b hb=>.inl (heap_alloc_old _ _ hb)) (fun b hb _=>heap_alloc_old _ _ aa0)
end
abbrev Fv(fn:FuncId)(tm:Array Value)(ps:Array Tmp)(Es body:Code)(D:Nat)(s:LoopState):Loop:=
 { state:=s,pending:=none,fn:=fn,tmps:=tm,params:=ps,assign:=Es,body:=body,defers:=D }
def gl:List Nat->List AV->(Nat->AV)->Nat->AV
 |p::ps,v::vs,e=>gl ps vs (JJ e p v)
 |_,_,e=>e
section
variable {P:Program}{N:Nat}{w:World}{g:Gh}
theorem Ti{U:Nat->Prop}:∀{ps:List Nat} {args:List AV} {vals:List Value} {tm:Array Value} {env:Nat->AV},vals.length=args.length->args.length=ps.length->(∀p∈ps,p<tm.size) ->
  (∀(i:Nat) (av:AV) (x:Value),args[i]?=some av->vals[i]?=some x->AY g w U av x)->(∀i,AY g w U (env i) (tm.getD i undef)) ->
  ((ps.zip vals).foldl (fun t p=>t.setIfInBounds p.1 p.2) tm).size=tm.size/\∀i,AY g w U (gl ps args env i) (((ps.zip vals).foldl (fun t p=>t.setIfInBounds p.1 p.2) tm).getD i undef)
 | [],args,vals,tm,env,_,h2,_,_,he=>by
  have:args=[]:=Aw h2
  subst this;exact⟨rfl,he⟩
 |p::ps,[],vals,tm,env,_,h2,_,_,_=>by cases h2
 |p::ps,a::args,[],tm,env,h1,_,_,_,_=>by cases h1
 |p::ps,a::args,v::vals,tm,env,h1,h2,h3,h4,he=>by
  have hp:=h3 p (Ah ..)
  obtain⟨q1,q2⟩:=Ti (ps:=ps) (args:=args) (vals:=vals) (tm:=tm.setIfInBounds p v) (env:=JJ env p a) (by simp_all) (by simp_all) (fun q hq=>by simp_all)
   (fun i av x e1 e2=>h4 (i+1) av x (by simp_all) (by simp_all)) (fun i=>by
    by_cases e:i=p
    .subst e;have e1:JJ env i a i=a:=by simp[JJ]
     have e2:(tm.setIfInBounds i v).getD i undef=v:=by simp_all
     rw[e1,e2];exact h4 0 a v rfl rfl
    .have e1:JJ env p a i=env i:=by grind [JJ,CC]
     have e2:(tm.setIfInBounds p v).getD i undef=tm.getD i undef:=by
      simp[Array.getD_eq_getD_getElem?,Array.getElem?_setIfInBounds_ne (Ne.symm e)]
     simp_all)
  exact⟨by simp_all,q2⟩
def NA(P:Program)(Y:Gh->World->Prop)(σ:HJ)(f:Nat)(args:List AV)(h0:Nat->HO)(Q:AV->(Nat->HO)->Prop):Prop:=
 Gr P f/\∀(g:Gh) (w:World) (vals:Array Value),vals.size=args.length->(∀(i:Nat) (av:AV) (x:Value),args[i]?=some av->vals[i]?=some x->AY g w (Az h0) av x) ->
  Cw w g h0 h0 g w->(∀h' g' w',Cw w g h0 h' g' w'->Le h0 g w h' g' w'->Y (CF σ g') w') ->
  Calls P f vals w fun e w'=>∃v r h' g',e=.returned v/\Q r h'/\AY g' w' (Az h') r v/\Cw w g h0 h' g' w'/\Le h0 g w h' g' w'
theorem lR{Y:Gh->World->Prop}{l:Nat}{f:Nat}{H0:List (Nat×HO)}{Q:AV->(Nat->HO)->Prop}(hP:cx.P=P)(hT:BY P cx.T)(hm:P.follows .mixedOrders=true)(hx:cx.ext=true)(hf:P.funcs[f]?=some fn)(hn : (fn.name == "runtime.NumGoroutine") = false)(hb : fn.body = some c)(hN : args.length <= fn.ntmps)(hc : Dr fn.ntmps c = true)(hσ : (EU σ && FJ σ H0) = true)(hy:cx.yp=fun l' σ' g w=>l'=l->σ'=σ->Y g w)(hk:M0 cx c (Vc cx fn.results.toList σ Q) ⟨L6 args,Af H0 Ae⟩):NA P Y σ f args (Af H0 Ae) Q:=
 ⟨⟨fn,hf,hn,by simp_all⟩,fun g w vals hs hv hI hp=>Pc cx σ hP hT hm hx hf hn hb hN hc hσ hk hs hv hI fun l' σ' h' g' w' _ q1 q2=>by
  grind⟩
end
def jQ(cx:Cx):Nat->Code->(Ex->St->Prop)->(Code->Code->St->Prop)->St->Prop
 |0,.seq (.seq a b) d,Q,K,st=>M0 cx a (fun e EA=>match e with |.normal=>K b d EA |e=>Q e EA) st
 |0,.seq b d,_,K,st=>K b d st
 |n+1,.seq a b,Q,K,st=>M0 cx a (fun e EA=>match e with |.normal=>jQ cx n b Q K EA |e=>Q e EA) st
 |_,_,_,_,_=>False
section
variable {P:Program}{N:Nat}{ds:List Deferred}{w0:World}{g0:Gh}{h0:Nat->HO}{st:St}{g:Gh}{a:Act}{w:World}
theorem dh{cx:Cx}(hP:cx.P=P)(hT:BY P cx.T)(hm:P.follows .mixedOrders=true)(hE:Iv cx h0)(hY:∀l σ h g w,D7 σ=true->Cw w0 g0 h0 h g w->Le h0 g0 w0 h g w->cx.yp l σ (CF σ g) w)
  {Qa:Ex->St->Prop} {K:Code->Code->St->Prop} {Q:Exit->Act->World->Prop} (hQ:∀e st g a w,e≠.normal->Qa e st->SR N ds w0 g0 h0 st g a w->Q e.real a w)
  (hK:∀b d st g a w,K b d st->SR N ds w0 g0 h0 st g a w->b.wpIn (Ia none) 0 P (Exit.then (d.wpIn (Ia none) 0 P Q) Q) a w) :
  ∀(n:Nat) (c:Code),Dr N c=true->∀{st:St} {g:Gh} {a:Act} {w:World},SR N ds w0 g0 h0 st g a w->jQ cx n c Qa K st->c.wpIn (Ia none) 0 P Q a w:=by
 intro n
 induction n with
 |zero=>
  intro c hc st g a w hS hk;cases c with
  |seq y d=>
   simp only[Dr,Aj]at hc;cases y with
   |seq x b=>
    have hk:M0 cx x (fun e EA=>match e with | .normal=>K b d EA | e=>Qa e EA) st:=hk;simp only[Dr,Aj]at hc;refine wpIn_seq (wpIn_seq (Kh hP hT hm hE hY none x hc.1.1 (Qa:=fun e EA=>match e with | .normal=>K b d EA | e=>Qa e EA) (fun e st g a w q hS=>?_) hS hk));cases e with
    |normal=>exact hK b d _ _ _ _ q hS
    |exit id=>exact hQ (.exit id) _ _ _ _ (fun e=>by cases e) q hS
    |ret=>exact hQ .ret _ _ _ _ (fun e=>by cases e) q hS
   |_=>exact wpIn_seq (hK _ d _ _ _ _ hk hS)
  |_=>exact hk.elim
 |succ n ih=>
  intro c hc st g a w hS hk;cases c with
  |seq x y=>
   simp only[Dr,Aj]at hc;refine wpIn_seq (Kh hP hT hm hE hY none x hc.1 (Qa:=fun e EA=>match e with | .normal=>jQ cx n y Qa K EA | e=>Qa e EA) (fun e st g a w q hS=>?_) hS hk);cases e with
   |normal=>exact ih y hc.2 hS q
   |exit id=>exact hQ (.exit id) _ _ _ _ (fun e=>by cases e) q hS
   |ret=>exact hQ .ret _ _ _ _ (fun e=>by cases e) q hS
  |_=>exact hk.elim
def strT(h:Nat->HO):AV->AV
 |.tup cs=>.tup (cs.map (str h))
 |a=>str h a
theorem AY.strT{h:Nat->HO}(ho:∀r,DO g w (Az h) r (h r)){av:AV}{x:Value}(r:AY g w (Az h) av x):AY g w Fs (Eng.strT h av) x:=by
 cases av with
 |tup cs=>
  cases r with
  |tup _ _ vs hs hr=>
   exact .tup _ _ vs (by simp_all) fun i av x q1 q2=>by
    grind [AY.str]
 |_=>exact AY.str ho r
end
section
variable {P:Program}{N:Nat}{ds:List Deferred}{w0:World}{g0:Gh}{h0:Nat->HO}{st:St}{g:Gh}{a:Act}{w:World}
theorem SR.rebase{w1:World}{g1:Gh}{h1:Nat->HO}(hS:SR N ds w0 g0 h0 st g a w)(hI:Cw w1 g1 h1 st.h g w)(hL:Le h1 g1 w1 st.h g w):SR N ds w1 g1 h1 st g a w:=⟨hI,hL,hS.dfs,hS.size,hS.slots⟩
theorem eD{cx:Cx}(hT:BY P cx.T){H0:List (Nat×HO)}{σ:HJ}(hσ:EU σ=true)(tW:FJ σ H0=true){Q:AV->(Nat->HO)->Prop}(hS:SR N ds w0 g0 (Af H0 Ae) st g a w)(hk:iE cx st fn.results.toList σ Q) :
  ∃v,(results fn a.tmps).run P w=.ok v w/\∃r h' g',Q r h'/\AY g' w (Az h') r v/\Cw w0 g0 (Af H0 Ae) h' g' w/\Le (Af H0 Ae) g0 w0 h' g' w:=by
 obtain⟨g2,i1,i2⟩:=J3 cx.pl.fin hS.inv;have TF : SR N ds w0 g0 (Af H0 Ae) ⟨st.t,Nw st.h cx.pl.fin⟩ g2 a w:=⟨i1,hS.le.trans i2,hS.dfs,hS.size,fun i=>(hS.slots i).le i2⟩;obtain⟨l,vs,h1,h2,h3,h4,h5⟩:=Sv hT TF _ hk;obtain⟨hR,j1,j2⟩:=I9 hσ tW i1 TF.le;have Ct:(results fn a.tmps).run P w=.ok (if h:vs.toArray.size=1 then vs.toArray[0]else .tuple vs.toArray) w:=by
  rw[Ox,show fn.results=fn.results.toList.toArray by simp,List.mapM_toArray];simp_all
 match l,vs,h1,h3,h5,Ct with
 | [v],[x],h1,h3,h5,Ct=>exact⟨x,by simp_all,_,_,_,h1,(h5 0 v x rfl rfl).ren hR,j1,j2⟩
 | [],vs,h1,h3,h5,Ct=>
  have:vs=[]:=Aw h3
  subst this;exact⟨.tuple #[],by simp_all,_,_,_,h1,AY.ren hR (.tup _ [] _ rfl fun i av x q=>by simp_all),j1,j2⟩
 |v::v' :: l,vs,h1,h3,h5,Ct=>
  refine⟨.tuple vs.toArray,?_,_,_,_,h1,AY.ren hR (.tup _ _ _ aa0 fun i av x q1 q2=>h5 i av x q1 (by simp_all)),j1,j2⟩;simp_all
theorem ux{PQ s:Nat}{rest:Code}(hP:cx.P=P)(hT:BY P cx.T)(hm:P.follows .mixedOrders=true)(hx:cx.ext=true){σ:HJ}{H0 Hn:List (Nat×HO)}(hσ:(EU σ&&FJ σ H0)=true)(yd:FJ σ Hn=true){env:Nat->AV}{gf:Nat}{caps:List AV}(hF:env s=.clo gf caps){Qv:AV->(Nat->HO)->Prop}(hIT:∀(l D:Nat) (f' : FuncId) (tm:Array Value),tm.size=N->NA P (fun g w=>w.heap[l]?=some (.loop (Fv f' tm ps Es body D .ready))/\∀i,AY g w (Az (Af H0 Ae)) (env i) (tm.getD i undef)) σ gf
   (.v (.func (.yield l) #[] #[])::caps) (Af H0 Ae) fun _ h'=>h'=Af Hn Ae)(hcr:Dr N rest=true)(pF:L5 [] body=false)(V2:M0 cx rest (Vc cx fn.results.toList σ Qv) ⟨env,Af Hn Ae⟩)(hY:∀l σ g w,cx.yp l σ g w){a:Act}(ha:a.defers=[])(hN:a.tmps.size=N)(hI:Cw w g (Af H0 Ae) (Af H0 Ae) g w)(GU:∀i,AY g w (Az (Af H0 Ae)) (env i) (a.tmps.getD i undef)){R:Ending->World->Prop}(hR:∀v r h' g' w',Qv r h'->AY g' w' (Az h') r v->Cw w g (Af H0 Ae) h' g' w'->Le (Af H0 Ae) g w h' g' w'->R (.returned v) w') :
  (Code.block PQ (.rangeFunc (.tmp s) ps Es body)).wpIn (Ia none) 0 P (Exit.then (rest.wpIn (Ia none) 0 P (bodyPostM (Ia none) 0 P fn R)) (bodyPostM (Ia none) 0 P fn R)) a w:=by
 simp only[Aj]at hσ;have hdl:∀f' tm D s,Vb (.loop (Fv f' tm ps Es body D s))=true:=fun _ _ _ _=>by show(!L5 [] body)=true;simp_all
 refine wpIn_block (wpIn_rangeFunc fun f' _=>?_);have hs:=GU s;rw[hF]at hs;have YZ:a.eval (.tmp s)=a.tmps.getD s undef:=rfl;generalize hfv:a.tmps.getD s undef=fv at hs YZ;cases hs with
 |clo _ _ _ lb FG KH=>
 obtain⟨i0,s0⟩:=hI.allocS (n0:=w.heap.size) (x:=w.heap.size) (.deferred (some [])) (Ao _);obtain⟨i1,s1⟩:=i0.allocS (n0:=w.heap.size) (x:=w.heap.size) (.loop (Fv f' a.tmps ps Es body w.heap.size .ready)) (by simp_all);generalize hW:(w.alloc (.deferred (some []))).alloc (.loop (Fv f' a.tmps ps Es body w.heap.size .ready))=W1 at i1 s1;have AcI:W1.heap.size=w.heap.size+2:=by grind [World.size_alloc]
 have hl:W1.heap[w.heap.size+1]?=some (.loop (Fv f' a.tmps ps Es body w.heap.size .ready)):=by
  grind [World.alloc_heap_new]
 have hD:W1.heap[w.heap.size]?=some (.deferred (some [])):=by
  grind [heap_alloc_old,World.alloc_heap_new]
 have Me:∀b ob,W1.heap[b]?=some ob->Vb ob=true->∀r,((Af H0 Ae) r).live->g.own r≠some b:=fun b ob hb hd r hr e=>KR (i1.objs r) hr e hb hd;have S1:=s0.trans s1;have hit:=hIT (w.heap.size+1) w.heap.size f' a.tmps hN
 refine⟨w.heap.size+1,[{ target:=.collected w.heap.size,args:=#[] }],W1,{ target:=.fn (.func gf) lb,args:=#[.func (.yield (w.heap.size+1)) #[] #[]] },W1,gf,
  #[.func (.yield (w.heap.size+1)) #[] #[]]++lb,W1,?_,?_,fun _ _=>trivial,?_,fun e=>(by cases e),?_⟩
 .grind [run_enterLoop_outer]
 .simp only[resolve,YZ];simp[go_sem]
 .simp only[invoke];rw[F5 hit.1]
 refine callsIn_wide.2 ((hit.2 g W1 _ (by grind) (fun i av x e1 e2=>?_) i1 (fun h' g' w' q1 q2=>?_)).mono ?_)
 .cases i with
  |zero=>
   grind [AY.v]
  |succ i=>
   grind [AY.le,U7.le]
 .obtain⟨_,_,j2⟩:=I9 hσ.1 hσ.2 q1 q2;refine⟨(q1.frame _ aa0 (Me _ _ hl (hdl _ _ _ _))).trans hl,fun i=>?_⟩;exact((GU i).le S1.le).mono j2.keeps (fun _ h=>h) j2.gh
 rintro e w2 ⟨v,r,h',g2,rfl,rfl,_,q3,q4⟩
 have bK:w2.heap[w.heap.size+1]?=some (.loop (Fv f' a.tmps ps Es body w.heap.size .ready)):=(q3.frame _ aa0 (Me _ _ hl (hdl _ _ _ _))).trans hl;have zp:w2.heap[w.heap.size]?=some (.deferred (some [])):=(q3.frame _ aa0 (Me _ _ hD rfl)).trans hD;refine⟨none,_,run_endLoop bK (fun e=>by cases e),?_⟩;obtain⟨i4,s4⟩:=q3.base.put (n0:=w.heap.size) (x:=w.heap.size) (o':=.loop { Fv f' a.tmps ps Es body w.heap.size .ready with state:=.exhausted }) bK (hdl _ _ _ _) (hdl f' a.tmps w.heap.size .exhausted) (.inl aa0);have S4:=(S1.trans (U7.of_inv q3 q4 aa0)).trans s4;generalize hW4:w2.putObj (w.heap.size+1) (.loop { Fv f' a.tmps ps Es body w.heap.size .ready with state:=.exhausted })=w4 at i4 s4 S4;have tg:w4.heap[w.heap.size]?=some (.deferred (some [])):=by grind [World.putObj_heap_other]
 have hE:Iv cx (Af Hn Ae):=by unfold Iv;rw[hx];exact fun i hi=>⟨(Fa yd i hi).1,(Fa yd i hi).2.1⟩
 have hS4:SR N [{ target:=.collected w.heap.size,args:=#[] }] w4 g2 (Af Hn Ae) ⟨env,Af Hn Ae⟩ g2 { a with defers:=[{ target:=.collected w.heap.size,args:=#[] }]++a.defers } w4:=
  ⟨i4,.refl _ _ _,by simp_all,hN,fun i=>(GU i).le S4.le⟩
 refine Kh hP hT hm hE (fun l σ _ _ w _ _ _=>hY l σ _ w) none rest hcr (fun e uI g5 a5 w5 hq Xt=>?_) hS4 V2;have fin:iE cx uI fn.results.toList σ Qv->LeavesInM (Ia none) 0 P fn a5.tmps R a5.defers .returning w5:=by
  intro hk;have wZ:w5.heap[w.heap.size]?=some (.deferred (some [])):=(Xt.inv.frame _ (BZ.1 tg).1 (fun r hr e=>KR (i4.objs r) hr e tg rfl)).trans tg;rw[Xt.dfs];refine⟨by simp,.inl ⟨w.heap.size,_,rfl,run_takeDeferred wZ,?_⟩⟩;obtain⟨i6,s6⟩:=Xt.inv.base.put (n0:=w.heap.size) (x:=w.heap.size) (o':=.deferred none) wZ rfl rfl (.inr rfl);have hS6:SR N [{ target:=.collected w.heap.size,args:=#[] }] (w5.putObj w.heap.size (.deferred none)) g5 uI.h uI g5 a5 (w5.putObj w.heap.size (.deferred none)):=⟨i6,.refl _ _ _,Xt.dfs,Xt.size,fun i=>(Xt.slots i).le s6.le⟩;have S6:=(S4.trans (U7.of_inv Xt.inv Xt.le (Bl (Ao _) S4.size))).trans s6;obtain⟨v,k2,r,h7,g7,k1,k5,k3,k4⟩:=eD (H0:=H0) hT hσ.1 hσ.2 (SR.rebase hS6 (i6.of_seg S6 fun h=>absurd h (Nat.lt_irrefl _)) S6.le) hk;exact⟨v,k2,hR v r h7 g7 _ k1 k5 k3 k4⟩
 cases e with
 |normal=>exact fin hq
 |ret=>exact fin hq
 |exit id=>exact hq.elim
end
section
variable {P:Program}{N:Nat}{w:World}{g:Gh}
theorem jp(o k r:Nat){H:List (Nat×HO)}(cx:Cx)(hP:cx.P=P)(hT:BY P cx.T)(hm:P.follows .mixedOrders=true)(hx:cx.ext=true){σ:HJ}(hσ:(EU σ&&FJ σ H)=true){fn:FuncId}{D l:Nat}{env:Nat->AV}{U:Nat->Prop}{Q:AV->(Nat->HO)->Prop}(tM:args.length=ps.toList.length)(hN:tm.size=N)(hpN:(ps.toList.all fun p=>Nat.blt p N)=true)(hca:Dr N Es=true)(xw:Dr N body=true)(hU:∀i,U i->Az (Af H Ae) i)(hk:M0 cx Es (fun e st=>match e with | .normal=>M0 cx body (fun e st=>match e with | .normal=>zN st.h o k r fun h'=>Q (.v (.bool true)) (Fo σ (Nw h' cx.pl.fin)) | _=>False) st | _=>False) ⟨gl ps.toList args env,Af H Ae⟩)(hY:∀l σ g w,cx.yp l σ g w:=by exact fun _ _ _ _=>trivial)(pF:L5 [] body=false:=by kernel_rfl) :
  G6 P (fun g w=>w.heap[l]?=some (.loop (Fv fn tm ps Es body D .ready))/\∀i,AY g w U (env i) (tm.getD i undef)) l args (Af H Ae) Q:=by
 simp only[Aj]at hσ;intro g w vals hs hv hI ⟨hl,GU⟩;have E1:l<w.heap.size:=(BZ.1 hl).1;have hdl:∀s,Vb (.loop (Fv fn tm ps Es body D s))=true:=fun s=>by show(!L5 [] body)=true;simp_all
 have hE:Iv cx (Af H Ae):=by unfold Iv;rw[hx];exact fun i hi=>⟨(Fa hσ.2 i hi).1,(Fa hσ.2 i hi).2.1⟩
 have Me:∀r,((Af H Ae) r).live->g.own r≠some l:=fun r hr e=>KR (hI.objs r) hr e hl (hdl _);have xE:∀(t0:Array Value),(ps.zip vals).foldl (fun tmps (p:Nat×Value)=>tmps.setIfInBounds p.1 p.2) t0=(ps.toList.zip vals.toList).foldl (fun t p=>t.setIfInBounds p.1 p.2) t0:=fun t0=>by
  grind [Array.toList_zip]
 have hry:=run_yield (P:=P) (args:=vals) hl (by simp_all);refine⟨fn,_,Es,body,hry,roundIn_of_wpIn trivial ?_⟩;obtain⟨z1,z2⟩:=Ti (U:=Az (Af H Ae)) (ps:=ps.toList) (args:=args) (vals:=vals.toList) (tm:=tm) (env:=env) aa0 tM (fun p hp=>by
  grind [Nat.blt_eq]) (fun i av x e1 e2=>hv i av x e1 (by simp_all)) (fun i=>(GU i).mono (.refl _ _) hU (.refl _ _))
 have hS0:SR N [] w g (Af H Ae) ⟨gl ps.toList args env,Af H Ae⟩ g { tmps:=(ps.zip vals).foldl (fun tmps (p:Nat×Value)=>tmps.setIfInBounds p.1 p.2) tm,defers:=[] } w:=by
  grind [SR.mk,Le.refl]
 refine Kh hP hT hm hE (fun l σ _ _ w _ _ _=>hY l σ _ w) (some l) Es hca (fun e st1 g1 a1 w1 hq aB=>?_) hS0 hk;cases e with
 |exit _=>simp_all
 |ret=>simp_all
 |normal=>
  have hl1:w1.heap[l]?=some (.loop (Fv fn tm ps Es body D .ready)):=(aB.inv.frame l E1 Me).trans hl;refine⟨_,run_beginRound hl1 rfl,?_⟩;obtain⟨iS,sS⟩:=hI.put (n0:=w.heap.size) (x:=l) (o':=.loop (Fv fn tm ps Es body D .busy)) hl (hdl _) (hdl _) (.inr rfl);have hlS:(w.putObj l (.loop (Fv fn tm ps Es body D .busy))).heap[l]?=some (.loop (Fv fn tm ps Es body D .busy)):=World.putObj_heap_same E1;have AcJ:(w.putObj l (.loop (Fv fn tm ps Es body D .busy))).heap.size=w.heap.size:=by simp_all
  obtain⟨_,sB⟩:=iS.dullS (w':=w) (n0:=w.heap.size) (x:=l) ⟨rfl,rfl,rfl⟩ aa0 (fun b _=>by
   grind [World.putObj_heap_other]) (fun b _ D8=>(World.putObj_heap_other D8).symm)
  obtain⟨i2,s2⟩:=aB.inv.base.put (n0:=w.heap.size) (x:=l) (o':=.loop (Fv fn tm ps Es body D .busy)) hl1 (hdl _) (hdl _) (.inr rfl);have S2:=(sB.trans (U7.of_inv aB.inv aB.le (Ao _))).trans s2;have bK:(w1.putObj l (.loop (Fv fn tm ps Es body D .busy))).heap[l]?=some (.loop (Fv fn tm ps Es body D .busy)):=World.putObj_heap_same (BZ.1 hl1).1;have hI2:=i2.of_seg (by rw[AcJ];exact S2) (fun _=>bK.trans hlS.symm);have hS2:SR N [] (w.putObj l (.loop (Fv fn tm ps Es body D .busy))) g (Af H Ae) st1 g1 a1 (w1.putObj l (.loop (Fv fn tm ps Es body D .busy))):=⟨hI2,S2.le,aB.dfs,aB.size,fun i=>(aB.slots i).le s2.le⟩;refine Kh hP hT hm hE (fun l σ _ _ w _ _ _=>hY l σ _ w) (some l) body xw (fun e st3 g3 a3 w3 hq jv=>?_) hS2 hq;cases e with
  |exit _=>simp_all
  |ret=>simp_all
  |normal=>
   obtain⟨h3,g3',jv,hq⟩:=nv jv hq;have xM:w3.heap[l]?=some (.loop (Fv fn tm ps Es body D .busy)):=(jv.inv.frame l aa0 Me).trans hlS;refine⟨.bool true,w3.putObj l (.loop (Fv fn tm ps Es body D .ready)),run_endRound none xM,?_⟩;obtain⟨gf,vC,ye⟩:=J3 cx.pl.fin jv.inv;obtain⟨i4,s4⟩:=vC.base.put (n0:=w.heap.size) (x:=l) (o':=.loop (Fv fn tm ps Es body D .ready)) xM (hdl _) (hdl _) (.inr rfl);have S4:=(sS.trans (U7.of_inv vC (jv.le.trans ye) aa0)).trans s4;have hl4:(w3.putObj l (.loop (Fv fn tm ps Es body D .ready))).heap[l]?=some (.loop (Fv fn tm ps Es body D .ready)):=World.putObj_heap_same (BZ.1 xM).1;have hI4:=i4.of_seg S4 (fun _=>hl4.trans hl.symm);obtain⟨_,j1,j2⟩:=I9 hσ.1 hσ.2 hI4 S4.le;exact⟨.bool true,.v (.bool true),_,_,rfl,hq,.v _ _,j1,j2⟩
end
def vE(h:Nat->HO)(o k r sz:Nat)(K:(Nat->HO)->Prop):Prop:=
 match h o with
 |.cells cs=>match JB cs k with
  |.v (.slice none 0 0)=>match h r with
   |.free=>K (AC (AC h r (.var sz 0 0)) o (.cells (EO cs k (.slice (.ver r sz 0) []))))
   |_=>False
  |_=>False
 |_=>False
section
variable {P:Program}{N:Nat}{ds:List Deferred}{w0:World}{g0:Gh}{h0:Nat->HO}{st:St}{g:Gh}{a:Act}{w:World}
theorem uk(hS:SR N ds w0 g0 h0 st g a w){o k r sz:Nat}{K:(Nat->HO)->Prop}(hk:vE st.h o k r sz K):∃h' g',SR N ds w0 g0 h0 ⟨st.t,h'⟩ g' a w/\K h':=by
 unfold vE at hk;split at hk
 .rename_i cs e0;split at hk
  .rename_i e1;split at hk
   .rename_i hf;have vr:o≠r:=fun e=>by simp_all
    have V1:=Jk cs k _ e1 aa1
    obtain⟨m1,m2⟩:=hS.inv.upd r (.var sz 0 0) (.slice none 0 0) 0 true none g.S w none ⟨rfl,rfl,rfl,Ao _⟩ (fun _ _ _=>rfl) (fun b e=>by cases e) (fun _ _ h=>h) (fun _ _ h=>.inl h) (fun b o e=>by cases e) (fun b hh e=>by simp_all) aa1
     (fun hu=>absurd hf hu) (fun _ _=>by
      obtain⟨u1,u2,u3,u4⟩:=Bh g r (.slice none 0 0) 0 true none g.S;exact⟨u3,u2,none,0,u1,.inl ⟨rfl,u4⟩⟩)
    generalize dQ:g.upd r (.slice none 0 0) 0 true none g.S=g1 at m1 m2;have gr:g1.tk r=true/\g1.ln r=0/\g1.ρ r=.slice none 0 0:=by grind [Gh.upd]
    have sY : (AC st.h r (.var sz 0 0)) o=.cells cs:=by grind [BN]
    obtain⟨g3,p1,p2⟩:=OU m1 sY V1 (new:=.slice (.ver r sz 0) []) (fun y hy=>by
     grind [Az,AS,cases AY,AY.ver,AY.snil])
    exact⟨_,g3,⟨p1,hS.le.trans (m2.trans p2),hS.dfs,hS.size,fun i=>(hS.slots i).le (m2.trans p2)⟩,hk⟩
   simp_all
  simp_all
 simp_all
def zU(o k r sz:Nat)(Qh:Cx)(P:Program)(N:Nat)(fn:Func)(σ:HJ)(Q:AV->(Nat->HO)->Prop)(b rest:Code)(st:St):Prop:=
 vE st.h o k r sz fun h1=>
  ∃(σF σr:HJ) (H0 Hn:List (Nat×HO)) (PQ s:Nat) (ps:Array Tmp) (Es body:Code) (gf:Nat) (caps:List AV),
  b=.block PQ (.rangeFunc (.tmp s) ps Es body)/\(D7 σF&&DL h1 0 0&&CI σF 0 0)=true/\Fo σF h1=Af H0 Ae/\(EU σr&&FJ σr H0)=true/\FJ σr Hn=true /\
  ren (Cf σF) h1 (st.t s)=.clo gf caps /\
  (∀(l D:Nat) (f' : FuncId) (tm:Array Value),tm.size=N->NA P (fun g w=>w.heap[l]?=some (.loop (Fv f' tm ps Es body D .ready))/\∀i,AY g w (Az (Af H0 Ae)) (ren (Cf σF) h1 (st.t i)) (tm.getD i undef)) σr gf
   (.v (.func (.yield l) #[] #[])::caps) (Af H0 Ae) fun _ h'=>h'=Af Hn Ae) /\
  Dr N rest=true/\L5 [] body=false/\M0 Qh rest (Vc Qh fn.results.toList σr fun r h'=>Q (ren (Cf σ) (Ec σF 0 0 h1 h') (ren (Ft σF 0 0) h' r)) (Fo σ (Ec σF 0 0 h1 h')))
   ⟨fun i=>ren (Cf σF) h1 (st.t i),Af Hn Ae⟩
theorem fp (o k r sz : Nat){f : Nat}{args : List AV}{H : List (Nat × HO)}{Q : AV -> (Nat -> HO) -> Prop}(cx Qh : Cx)(σ : HJ)(hP : cx.P = P)(hT : BY P cx.T)(hP2 : Qh.P = P)(hT2 : BY P Qh.T)(hm : P.follows .mixedOrders = true)(hx : cx.ext = true)(vA : Qh.ext = true)(hf : P.funcs[f]? = some fn)(hn : (fn.name == "runtime.NumGoroutine") = false)(hb:fn.body=some c)(hN:args.length<=fn.ntmps)(hc:Dr fn.ntmps c=true)(hσ:(EU σ&&FJ σ H)=true)(n:Nat)(hk:jQ cx n c (Vc cx fn.results.toList σ fun r h'=>∃r',Ea r r'/\Q r' h') (zU o k r sz Qh P fn.ntmps fn σ fun r h'=>∃r',Ea r r'/\Q r' h') ⟨L6 args,Af H Ae⟩)(hY:∀l σ g w,cx.yp l σ g w:=by exact fun _ _ _ _=>trivial)(hY2:∀l σ g w,Qh.yp l σ g w:=by exact fun _ _ _ _=>trivial):A6 P f args (Af H Ae) Q:=by
 refine A6.mono (Q:=fun r h'=>∃r',Ea r r'/\Q r' h') ?_ fun _ _ ⟨r',s,q⟩=>⟨r',s,q⟩;simp only[Aj]at hσ;refine⟨⟨fn,hf,hn,by simp_all⟩,fun g w vals hs hv hI=>callsIn_wide.1 (callsIn_of_wp_marks (F:=Fence.wide) (n:=0) hf hb trivial ?_ rfl)⟩;have hE:Iv cx (Af H Ae):=by unfold Iv;rw[hx];exact fun i hi=>⟨(Fa hσ.2 i hi).1,(Fa hσ.2 i hi).2.1⟩
 have hS:SR fn.ntmps [] w g (Af H Ae) ⟨L6 args,Af H Ae⟩ g { tmps:=vals++Array.replicate (fn.ntmps-vals.size) undef,defers:=[] } w:=by
  refine⟨hI,.refl _ _ _,rfl,by simp_all,fun i=>?_⟩
  have:=Mr (n:=fn.ntmps-vals.size) (args:=args) (vals:=vals.toList) aa0 (fun i av x q1 q2=>hv i av x q1 (by simp_all)) i
  grind [Array.getD_eq_getD_getElem?,Array.toList_append,Array.toList_replicate]
 refine dh hP hT hm hE (fun l σ _ _ w _ _ _=>hY l σ _ w) (fun e st g' a w' D8 hk hS=>?_) (fun b rest st g' a w' hk hS=>?_) n c hc hS hk
 .have out:iE cx st fn.results.toList σ (fun r h'=>∃r',Ea r r'/\Q r' h')->LeavesInM (Ia none) 0 P fn a.tmps (fun e w'=>∃v r h' g',e=Ending.returned v/\(∃r',Ea r r'/\Q r' h')/\AY g' w' (Az h') r v/\Cw w g (Af H Ae) h' g' w'/\Le (Af H Ae) g w h' g' w') a.defers .returning w':=by
   intro hk;obtain⟨v,q2,r,h',g2,q1,q3,q4,q5⟩:=eD hT hσ.1 hσ.2 hS hk;rw[hS.dfs];exact⟨v,q2,v,r,h',g2,rfl,q1,q3,q4,q5⟩
  cases e with
  |normal=>simp_all
  |ret=>exact out hk
  |exit id=>exact hk.elim
 .obtain⟨h1,g',hS,hk⟩:=uk hS hk;obtain⟨σF,σr,H0,Hn,PQ,s,ps,Es,body,gf,caps,rfl,k1,k2,k3,k4,k5,k6,k7,k9,k8⟩:=hk;have hσF:D7 σF=true:=by simp_all
  obtain⟨w7,w6⟩:=TB hS.inv hσF;rw[k2]at w6;have GU:∀i,AY (CF σF g') w' (Az (Af H0 Ae)) (ren (Cf σF) h1 (st.t i)) (a.tmps.getD i undef):=fun i=>by
   have:=(hS.slots i).ren w7
   simp_all
  refine Kx (Q:=fun r h'=>∃r',Ea (ren (Cf σ) (Ec σF 0 0 h1 h') (ren (Ft σF 0 0) h' r)) r'/\Q r' (Fo σ (Ec σF 0 0 h1 h'))) (C:=fun R'=>(∀e Ra,R' e Ra->(∃v r h' g',e=Ending.returned v/\(∃r',Ea r r'/\Q r' h')/\AY g' Ra (Az h') r v/\Cw w g (Af H Ae) h' g' Ra/\Le (Af H Ae) g w h' g' Ra)) ->
   (Code.block PQ (.rangeFunc (.tmp s) ps Es body)).wpIn (Ia none) 0 P (Exit.then (rest.wpIn (Ia none) 0 P (bodyPostM (Ia none) 0 P fn (fun e Ra=>∃v r h' g',e=Ending.returned v/\(∃r',Ea r r'/\Q r' h')/\AY g' Ra (Az h') r v/\Cw w g (Af H Ae) h' g' Ra/\Le (Af H Ae) g w h' g' Ra))) (bodyPostM (Ia none) 0 P fn (fun e Ra=>∃v r h' g',e=Ending.returned v/\(∃r',Ea r r'/\Q r' h')/\AY g' Ra (Az h') r v/\Cw w g (Af H Ae) h' g' Ra/\Le (Af H Ae) g w h' g' Ra))) a w')
   (fun h k h2=>h fun e w r=>h2 _ _ (k _ _ r)) hS.inv (d:=0) (nn:=0) k1 (fun _ Y8=>?_) (fun v r h' g2 w2 q1 q2 q3 q4=>?_) (fun _ _ h=>h)
  .rw[k2]at Y8;exact ux Qh hP2 hT2 hm vA k3 k4 k5 k6 k7 k9 k8 hY2 hS.dfs hS.size w6 GU fun v r h' g5 w5 q1 q2 q3 q4=>Y8 _ _ ⟨v,r,h',g5,rfl,q1,q2,q3,q4⟩
  .obtain⟨hR,j1,j2⟩:=I9 hσ.1 hσ.2 q2 (hS.le.trans q3);exact⟨v,_,_,_,rfl,q1,q4.ren hR,j1,j2⟩
end
section
variable {P:Program}{N:Nat}{w:World}{g:Gh}
theorem PX{Y:Gh->World->Prop}{l:Nat}{f:Nat}{H0:List (Nat×HO)}{Q:AV->(Nat->HO)->Prop}(hP:cx.P=P)(hT:BY P cx.T)(hm:P.follows .mixedOrders=true)(hx:cx.ext=true)(hf:P.funcs[f]?=some fn)(hn : (fn.name == "runtime.NumGoroutine") = false)(hb : fn.body = some c)(hN : args.length <= fn.ntmps)(hc : Dr fn.ntmps c = true)(hσ : (EU σ && FJ σ H0) = true)(hy:cx.yp=fun l' σ' g w=>l'=l->σ'=σy->Y g w)(Gw:∀g w h' g' w',Cw w g (Af H0 Ae) (Af H0 Ae) g w->Cw w g (Af H0 Ae) h' g' w'->Le (Af H0 Ae) g w h' g' w'->Y g w->Y (CF σy g') w')(hk:M0 cx c (Vc cx fn.results.toList σ Q) ⟨L6 args,Af H0 Ae⟩):FZ P Y f args (Af H0 Ae) Q:=
 ⟨⟨fn,hf,hn,by simp_all⟩,fun g w vals hs hv hI hY=>Pc cx σ hP hT hm hx hf hn hb hN hc hσ hk hs hv hI fun l' σ' h' g' w' _ q1 q2=>by
  grind⟩
theorem FZ.imp{Y:Gh->World->Prop}{f:Nat}{h0:Nat->HO}{Q Q' : AV->(Nat->HO)->Prop}(h:FZ P Y f args h0 Q)(hq:∀r h',Q r h'->Q' r h'):FZ P Y f args h0 Q':=
 ⟨h.1,fun g w vals a b c d=>(h.2 g w vals a b c d).mono fun _ _ ⟨v,r,h',g',e,q,k⟩=>⟨v,r,h',g',e,hq r h' q,k⟩⟩
theorem FZ.pre{Y Y' : Gh->World->Prop}{f:Nat}{h0:Nat->HO}{Q:AV->(Nat->HO)->Prop}(h:FZ P Y f args h0 Q)(hp:∀g w,Y' g w->Y g w):FZ P Y' f args h0 Q:=
 ⟨h.1,fun g w vals a b c d=>h.2 g w vals a b c (hp g w d)⟩
theorem gQ{Y0 Y:Gh->World->Prop}{l:Nat}{f:Nat}{H0:List (Nat×HO)}{Q:AV->(Nat->HO)->Prop}(hP:cx.P=P)(hT:BY P cx.T)(hm:P.follows .mixedOrders=true)(hx:cx.ext=true)(hf:P.funcs[f]?=some fn)(hn : (fn.name == "runtime.NumGoroutine") = false)(hb : fn.body = some c)(hN : args.length <= fn.ntmps)(hc : Dr fn.ntmps c = true)(hσ : (EU σ && FJ σ H0) = true)(hy:cx.yp=fun l' σ' g w=>l'=l->σ'=σy->Y g w)(tr:∀g w,Y0 (CF σ g) w->Y (CF σy g) w)(hk:M0 cx c (Vc cx fn.results.toList σ Q) ⟨L6 args,Af H0 Ae⟩):NA P Y0 σ f args (Af H0 Ae) Q:=
 ⟨⟨fn,hf,hn,by simp_all⟩,fun g w vals hs hv hI hp=>Pc cx σ hP hT hm hx hf hn hb hN hc hσ hk hs hv hI fun l' σ' h' g' w' _ q1 q2=>by
  grind⟩
theorem qJ{σ σ' : HJ}{U:Nat->Prop}(h:∀i,U i->G3 σ' i=G3 σ i){R:World->Prop}{env:Nat->AV} :
  ∀g w,(R w/\∀i,AY (CF σ g) w U (env i) (tm.getD i undef))->(R w/\∀i,AY (CF σ' g) w U (env i) (tm.getD i undef)):=fun g w ⟨h1,h2⟩=>
 ⟨h1,fun i=>(h2 i).mono (show E9 (CF σ g) w (CF σ' g) w from fun b o hs=>⟨hs,rfl,fun _ _ e=>e⟩) (fun _ h=>h) fun j hj=>by
  grind [CF]⟩
end
end Go.Eng
namespace Go.Eng
open Go.Sort
section
variable {P:Program}
theorem aO{f fF:Nat}{caps:List AV}{es:List (List AV)}{sz:Nat}{n' : Nat}{Q:List (List AV)->Prop}(hE:Gr P f)(D8:es≠[])(bM : n'<=es.length)
  (h1:∀(g:Gh) (w:World) (b cap:Nat) (F lb:Array Value),Ca g w Fs es.flatten F.toList->F.size=es.length*sz->Holds id w b 0 F->b<w.heap.size->es.length<=cap->(∀o,¬g.S b o)->(∀b' o,g.S b' o->b' < w.heap.size)->lb.size=caps.length ->
   (∀(i:Nat) (av:AV) (x:Value),caps[i]?=some av->lb[i]?=some x->AY g w (Az (Af [(1000,.arr sz es)] Ae)) av x)->Calls P f #[.slice (some ⟨b,0,none⟩) es.length cap,.func (.func fF) #[] lb] w fun e w'=>
   e=.returned (.slice (some ⟨b,0,none⟩) n' cap)/\∃(F' : Array Value) (E7 : List (List AV)) (n:Nat) (os:Array Obj),F'.size=F.size/\Q E7/\E7.length=es.length/\(∀cs∈E7,cs.length=sz) /\
    (∀(g:Gh) (w:World),Ca g w Fs es.flatten F.toList->Ca g w Fs E7.flatten F'.toList)/\w'=grow (putRow id (Sort.ahead w n) b 0 F') os) :
  A6 P f [.msl 1000 es.length,.clo fF caps] (Af [(1000,.arr sz es)] Ae) fun r h'=>r=.msl 2000 n'/\∃E7,Q E7/\h'=Af [(1000,.dead),(2000,.arr sz (E7.take n'))] Ae:=by
 refine⟨hE,fun g w us hs hv hI=>?_⟩;have ho:=hI.objs 1000;have he:Af [(1000,HO.arr sz es)] Ae 1000=.arr sz es:=rfl;rw[he]at ho;obtain⟨t1,l1,al,a2⟩:=ho;simp only[BF,BX]at hs;have yc:0<us.size:=by omega
 have jA:=hv 0 (.msl 1000 es.length) us[0] rfl (CK yc);have Oe:us[0]=g.ρ 1000:=by
  generalize us[0]=x at jA
  grind [cases AY]
 have hu1:1<us.size:=by omega
 have Za:=hv 1 (.clo fF caps) us[1] rfl (CK hu1);obtain⟨lb,hlb,bL,rN⟩:∃lb:Array Value,us[1]=.func (.func fF) #[] lb/\lb.size=caps.length/\∀(i:Nat) (av:AV) (x:Value),caps[i]?=some av->lb[i]?=some x->AY g w (Az (Af [(1000,.arr sz es)] Ae)) av x:=by
  generalize us[1]=x at Za;cases Za with
  |clo _ _ _ lb FG KH=>grind
 have Mz:us=#[g.ρ 1000,.func (.func fF) #[] lb]:=by
  grind
 rw[Mz];rcases a2 with ⟨b1,b2,b3⟩ | ⟨b,cap,E,vs,b1,b2,b3,b4,b5,b6,b7⟩
 .simp_all
 .have hl:(Af [(1000,HO.arr sz es)] Ae 1000).live:=trivial;have E1:=(hI.loc 1000 b hl b2).1;have IF:es.length*sz<=vs.size:=by rw[b5];exact Bx _ b3
  have hF:((vs.toList.take (es.length*sz)).toArray).size=es.length*sz:=by simp_all
  have hH:Holds id w b 0 (vs.toList.take (es.length*sz)).toArray:=fun j hj=>by
   have hj:j<es.length*sz:=by omega
   refine⟨?_,?_⟩
   all_goals grind [World.cell?,World.frozen?]
  rw[b1];refine(h1 g w b cap _ lb aa0 hF hH E1 b3 b7 hI.slt bL rN).mono ?_
  rintro e w' ⟨rfl,F',E7,n,os,f1,f2,f3,f4,f5,rfl⟩
  have th : F'.size=es.length*sz:=f1.trans hF;have vt:=Kn F' vs aa0;have nY : (grow (putRow id (Sort.ahead w n) b 0 F') os).heap[b]?=some (.cells (putCells id 0 F' vs) E (0,0)):=by
   rw[heap_grow_old _ _ (by simp_all)];show(w.heap.modify b (onCells (putCells id 0 F')))[b]?=_;rw[Array.getElem?_modify,AX rfl,b4];rfl
  have tG:∀k,k<w.heap.size->k≠b->(grow (putRow id (Sort.ahead w n) b 0 F') os).heap[k]?=w.heap[k]?:=fun k hk D8=>by
   rw[heap_grow_old _ _ (by rw[size_putRow];exact hk)];simp[putRow,mapBlock,Array.getElem?_modify,Ne.symm D8]
  have FG:w.heap.size<=(grow (putRow id (Sort.ahead w n) b 0 F') os).heap.size:=by simp_all
  obtain⟨k1,k2⟩:=hI.upd 1000 (.arr sz E7) (g.ρ 1000) (g.ln 1000) (g.tk 1000) (g.own 1000) g.S (grow (putRow id (Sort.ahead w n) b 0 F') os) (some b) ⟨rfl,rfl,rfl,FG⟩
   (fun k hk D8=>tG k hk (fun e=>D8 (by rw[e]))) (fun b' e=>by simp_all) (fun _ _ h=>h) (fun _ _ h=>.inl h) (fun b' o e hs=>by simp_all)
   (fun b' _ e=>by grind) aa1 (fun _=>⟨rfl,Ao _,fun _=>rfl,fun _=>rfl⟩) (fun hg hk=>by
    refine⟨by grind [Gh.upd],by simp[Gh.upd,l1,f3],f4,.inr ⟨b,cap,E,_,by simp[Gh.upd,b1,f3],by simp[Gh.upd,b2],by omega,nY,by omega,?_,b7⟩⟩
    have:=f5 g w aa0
    rw[f3,<-th,vt.1];exact this.mono hk (fun _ h=>h) (fun _ h=>h.elim))
  rw[Oc]at k1 k2;generalize lA : g.upd 1000 (g.ρ 1000) (g.ln 1000) (g.tk 1000) (g.own 1000) g.S=g' at k1 k2;have tD : g'.own 1000=some b:=by rw[<-lA];simp[Gh.upd,b2]
  have lH:=k1.objs 1000;have jx:Af [(1000,HO.arr sz E7)] Ae 1000=.arr sz E7:=rfl;rw[jx]at lH;obtain⟨m1,m2,m3,m4⟩:=lH;have hρ:g'.ρ 1000=.slice (some ⟨b,0,none⟩) es.length cap:=by rw[<-lA];simp[Gh.upd,b1]
  have Aci : E7≠[]:=fun e=>D8 (Aw (by grind));rcases m4 with ⟨m4,_⟩ | ⟨b',Mk,E',fe,c1,c2,c3,c4,c5,c6,c7⟩
  .simp_all
  .rw[hρ]at c1;simp only[Value.slice.injEq,Cm,Addr.mk.injEq,and_true]at c1;obtain⟨c1a,c1b,c1c⟩:=c1;subst c1a;subst c1c;have xP : (E7.take n').length=n':=by grind
   obtain⟨k3,k4⟩:=k1.move 1000 2000 aa2 rfl trivial tD (.arr sz (E7.take n')) (.slice (some ⟨b,0,none⟩) n' cap) n' true aa1 (fun hk=>by
    refine⟨by simp[Gh.upd],by grind [Gh.upd],fun cs hcs=>m3 cs (DU hcs),.inr ⟨b,cap,E',fe,by grind [Gh.upd],by simp[Gh.upd],by omega,c4,c5,?_,c7⟩⟩
    have:=(c6.mono hk (fun _ h=>h) (fun _ h=>h.elim)).take (n'*sz)
    grind [Jb,Nat.mul_le_mul_right])
   have lC:AC (AC (Af [(1000,HO.arr sz E7)] Ae) 1000 .dead) 2000 (.arr sz (E7.take n'))=Af [(1000,.dead),(2000,.arr sz (E7.take n'))] Ae:=by
    funext i
    by_cases e1:i=2000
    .subst e1;rw[AS];rfl
    .rw[BN _ _ _ _ e1]
     by_cases e2:i=1000
     .subst e2;rw[AS];rfl
     grind [BN,Af,CC]
   rw[lC]at k3 k4;exact⟨_,.msl 2000 n',_,_,rfl,⟨rfl,E7,f2,rfl⟩,.msl _ 2000 n' (some ⟨b,0,none⟩) cap (by intro c;cases c) (by simp[Gh.upd]) (by simp[Gh.upd]) (.inr ⟨b,rfl⟩) (fun _=>by simp[Gh.upd]),k3,k2.trans k4⟩
end
end Go.Eng
