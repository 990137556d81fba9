/- Lemmas 13. -/
import Derived.Test.YtkjhcikodmiceaaGreatDoorVA12
import Derived.Below
import Derived.RangeFuncLeaves
import Derived.RangeFuncNested
namespace Go.Eng
open Go.Sort
theorem Cg.append{g:Gh}{w:World}{U:Nat->Prop}{VB bs:List AV}{xs ys:List Value}(h:Cg g w U VB xs)(k:Cg g w U bs ys):Cg g w U (VB++bs) (xs++ys):=by
 refine⟨by rw[AD,AD,h.1,k.1],fun x hx=>?_,fun i av x q1 q2=>?_⟩
 .rcases Bi.1 hx with hx | hx
  .exact h.2.1 x hx
  .exact k.2.1 x hx
 .have hl:=h.1
  by_cases hi:i<VB.length
  .rw[D0 hi]at q1;rw[D0 Wk]at q2;exact h.2.2 i av x q1 q2
  .rw[BQ Wk]at q1;rw[BQ Wk,hl]at q2;exact k.2.2 _ av x q1 q2
theorem Cg.take{g:Gh}{w:World}{U:Nat->Prop}{VB:List AV}{xs:List Value}(h:Cg g w U VB xs)(k:Nat):Cg g w U (VB.take k) (xs.take k):=by
 refine⟨by rw[BW,BW,h.1],fun x hx=>h.2.1 x (Ew hx),fun i av x q1 q2=>?_⟩;rw[List.getElem?_take]at q1 q2;split at q1
 .rename_i hi;rw[A3 hi]at q2;exact h.2.2 i av x q1 q2
 simp_all
theorem Cg.drop{g:Gh}{w:World}{U:Nat->Prop}{VB:List AV}{xs:List Value}(h:Cg g w U VB xs)(k:Nat):Cg g w U (VB.drop k) (xs.drop k):=by
 refine⟨by rw[Td,Td,h.1],fun x hx=>h.2.1 x (IF hx),fun i av x q1 q2=>?_⟩;rw[F8]at q1 q2;exact h.2.2 _ av x q1 q2
theorem Ln{α:Type}{k:Nat}:∀(es:List (List α)) (i:Nat),(∀e∈es,e.length=k)->es.flatten.take (i*k)=(es.take i).flatten
 | [],i,_=>by simp
 |e::es,0,_=>by simp
 |e::es,i+1,h=>by
  have he:=h e (Ag ..);rw[Ck,List.take_succ_cons,Ck,List.take_append,<-Ln es i fun x hx=>h x (Aj _ hx),A5 (by grind),he,show(i+1)*k-k=i*k by grind]
theorem Pz{α:Type}{k:Nat}:∀(es:List (List α)) (i:Nat),(∀e∈es,e.length=k)->es.flatten.drop (i*k)=(es.drop i).flatten
 | [],i,_=>by simp
 |e::es,0,_=>by simp
 |e::es,i+1,h=>by
  have he:=h e (Ag ..);rw[Ck,List.drop_succ_cons,List.drop_append,<-Pz es i fun x hx=>h x (Aj _ hx),DY (by grind),he,show(i+1)*k-k=i*k by grind,GD]
section
variable {P:Program}
theorem V3{f:Nat}{es:C0}{sz:Nat}{rest:List Value}{n' : Nat}{Q:C0->Prop}(hE:Gl P f)(EG:es≠[])(kj : n'<=es.length)
  (h1:∀(g:Gh) (w:World) (b cap:Nat) (F:Array Value),Cg g w FN es.flatten F.toList->F.size=es.length*sz->Holds id w b 0 F->b<w.heap.size->es.length<=cap->Calls P f (#[.slice (some ⟨b,0,none⟩) es.length cap]++rest.toArray) w fun e w'=>
   e=.returned (.slice (some ⟨b,0,none⟩) n' cap)/\∃(F' : Array Value) (FU : C0) (n:Nat) (os:Array Obj),F'.size=F.size/\Q FU/\FU.length=es.length/\(∀cs∈FU,cs.length=sz) /\
    (∀(g:Gh) (w:World),Cg g w FN es.flatten F.toList->Cg g w FN FU.flatten F'.toList)/\w'=grow (putRow id (Sort.ahead w n) b 0 F') os) :
  Bg P f (.msl 1000 es.length::rest.map .v) (Ai [(1000,.arr sz es)] Af) fun r h'=>r=.msl 2000 n'/\∃FU,Q FU/\h'=Ai [(1000,.dead),(2000,.arr sz (FU.take n'))] Af:=by
 refine⟨hE,fun g w us hs hv hI=>?_⟩;have ho:=hI.objs 1000;have he:Ai [(1000,HO.arr sz es)] Af 1000=.arr sz es:=rfl;rw[he]at ho;obtain⟨t1,l1,al,a2⟩:=ho;simp only[DZ,BJ]at hs;have hu0:0<us.size:=by omega
 have wx:=hv 0 (.msl 1000 es.length) us[0] rfl (Ds hu0);have hval:us[0]=g.ρ 1000:=by
  grind [cases Bc]
 have NN:us=#[g.ρ 1000]++rest.toArray:=by
  refine Array.ext (by simp_all) fun i h1 h2=>?_;cases i with
  |zero=>simp_all
  |succ i=>
   have hi:i<rest.length:=by omega
   have:=hv (i+1) (.v rest[i]) us[i+1] (by simp_all) (Ds h1)
   rw[this.v_eq];simp
 rw[NN];rcases a2 with ⟨b1,b2,b3⟩ | ⟨b,cap,E,vs,b1,b2,b3,b4,b5,b6,b7⟩
 .simp_all
 .have hl:(Ai [(1000,HO.arr sz es)] Af 1000).live:=trivial;have ET:=(hI.loc 1000 b hl b2).1;have Js:es.length*sz<=vs.size:=by rw[b5];exact BD _ b3
  have hF:((vs.toList.take (es.length*sz)).toArray).size=es.length*sz:=by simp_all
  have hH:Holds id w b 0 (vs.toList.take (es.length*sz)).toArray:=fun j hj=>by
   grind [World.cell?,World.frozen?]
  rw[b1];refine(h1 g w b cap _ Wk hF hH ET b3).mono ?_
  rintro e w' ⟨rfl,F',FU,n,os,f1,f2,f3,f4,f5,rfl⟩
  have xR : F'.size=es.length*sz:=f1.trans hF;have hpt:=N4 F' vs Wk;have uq : (grow (putRow id (Sort.ahead w n) b 0 F') os).heap[b]?=some (.cells (putCells id 0 F' vs) E (0,0)):=by
   rw[heap_grow_old _ _ (by simp_all)];show(w.heap.modify b (onCells (putCells id 0 F')))[b]?=_;rw[Array.getElem?_modify,A3 rfl,b4];rfl
  have yP:∀k,k<w.heap.size->k≠b->(grow (putRow id (Sort.ahead w n) b 0 F') os).heap[k]?=w.heap[k]?:=fun k hk EG=>by
   rw[heap_grow_old _ _ (by simp_all)];simp[putRow,mapBlock,Array.getElem?_modify,Ne.symm EG]
  have FI:w.heap.size<=(grow (putRow id (Sort.ahead w n) b 0 F') os).heap.size:=by simp_all
  obtain⟨k1,k2⟩:=hI.upd 1000 (.arr sz FU) (g.ρ 1000) (g.ln 1000) (g.tk 1000) (g.own 1000) g.S (grow (putRow id (Sort.ahead w n) b 0 F') os) (some b) ⟨rfl,rfl,rfl,FI⟩
   (fun k hk EG=>yP k hk (fun e=>EG (by rw[e]))) (fun b' e=>by simp_all) (fun _ _ h=>h) (fun _ _ h=>.inl h) (fun b' o e hs=>by simp_all)
   (fun b' _ e=>by grind) aa0 (fun _=>⟨rfl,Ap _,fun _=>rfl,fun _=>rfl⟩) (fun hg hk=>by
    refine⟨by grind [Gh.upd],by grind [Gh.upd],f4,.inr ⟨b,cap,E,_,by grind [Gh.upd],by grind [Gh.upd],by omega,uq,by omega,?_,b7⟩⟩
    have:=f5 g w Wk
    rw[f3,<-xR,hpt.1];exact this.mono hk (fun _ h=>h) (fun _ h=>h.elim))
  rw[Ue]at k1 k2;generalize yx : g.upd 1000 (g.ρ 1000) (g.ln 1000) (g.tk 1000) (g.own 1000) g.S=g' at k1 k2;have yO : g'.own 1000=some b:=by grind [Gh.upd]
  have yQ:=k1.objs 1000;have oN:Ai [(1000,HO.arr sz FU)] Af 1000=.arr sz FU:=rfl;rw[oN]at yQ;obtain⟨m1,m2,m3,m4⟩:=yQ;have hρ:g'.ρ 1000=.slice (some ⟨b,0,none⟩) es.length cap:=by grind [Gh.upd]
  have AiA : FU≠[]:=fun e=>EG (Ay (by simp_all));rcases m4 with ⟨m4,_⟩ | ⟨b',NL,E',km,c1,c2,c3,c4,c5,c6,c7⟩
  .simp_all
  .rw[hρ]at c1;simp only[Value.slice.injEq,CV,Addr.mk.injEq,and_true]at c1;obtain⟨c1a,c1b,c1c⟩:=c1;subst c1a;subst c1c;have Ad1 : (FU.take n').length=n':=by grind
   obtain⟨k3,k4⟩:=k1.move 1000 2000 aa1 rfl trivial yO (.arr sz (FU.take n')) (.slice (some ⟨b,0,none⟩) n' cap) n' true aa0 (fun hk=>by
    refine⟨by simp[Gh.upd],by grind [Gh.upd],fun cs hcs=>m3 cs (Ew hcs),.inr ⟨b,cap,E',km,by grind [Gh.upd],by simp[Gh.upd],by omega,c4,c5,?_,c7⟩⟩
    have:=(c6.mono hk (fun _ h=>h) (fun _ h=>h.elim)).take (n'*sz)
    grind [Ln,Nat.mul_le_mul_right])
   have yA:AK (AK (Ai [(1000,HO.arr sz FU)] Af) 1000 .dead) 2000 (.arr sz (FU.take n'))=Ai [(1000,.dead),(2000,.arr sz (FU.take n'))] Af:=by
    funext i
    by_cases e1:i=2000
    .subst e1;rw[A2];rfl
    .rw[BT _ _ _ _ e1]
     by_cases e2:i=1000
     .subst e2;rw[A2];rfl
     grind [BT,Ai,DH]
   rw[yA]at k3 k4;exact⟨_,.msl 2000 n',_,_,rfl,⟨rfl,FU,f2,rfl⟩,.msl _ 2000 n' (some ⟨b,0,none⟩) cap (by intro c;cases c) (by simp[Gh.upd]) (by simp[Gh.upd]) (.inr ⟨b,rfl⟩) (fun _=>by simp[Gh.upd]),k3,k2.trans k4⟩
end
end Go.Eng
namespace Go.Eng
variable {h:Nat->HO}{r ty e m:Nat}{cx:Cx}{x:AV}{K:HK}
def lk(a b:FF):Bool:=
 (match a.2 with | some r=>!I1 b.1 r | none=>true)&&(match b.2 with | some r=>!I1 a.1 r | none=>true)
def QC(ops:Array Oper)(oi:Oper)(fi:FF)(D:List Nat)(k:Nat):List Oper->List FF->Bool
 |o::r,f::fs=>(I1 D k||(oi.apart ops o&&lk fi f))&&QC ops oi fi D (k+1) r fs
 | [],[]=>true
 |_,_=>false
def Wq(ops:Array Oper)(all:List Oper)(k:Nat):List Oper->List FF->Bool
 |o::r,f::fs=>
  let D:=QK k [] 0 all
  (o.after.toList.all fun e=>!Region.binds .any e||Nat.blt e.on k)&&Vk k D 0 all&&(D.all fun j=>Nat.blt k j&&Nat.blt j all.length)&&QC ops o f D (k+1) r fs&&Wq ops all (k+1) r fs
 | [],[]=>true
 |_,_=>false
def eD(ops:Array Oper)(fs:List FF):Bool:=Region.noSelect ops&&Wq ops ops.toList 0 ops.toList fs
def Rp(f:FF):Prop:=∀r,f.2=some r->r<10000000
def S7:List FF->Prop
 | []=>True
 |f::r=>Rp f/\S7 r
theorem AO(l:List Nat):Rp (l,none):=fun _ h=>by cases h
theorem Ec{l:List Nat}(h:r<10000000):Rp (l,some r):=fun _ e=>by simp_all
theorem ll{a b:FF}(ha:Rp a)(hb:Rp b)(h:lk a b=true):TF a b=true:=by
 obtain⟨a1,a2⟩:=a;obtain⟨b1,b2⟩:=b;unfold lk at h;unfold TF;rw[Ak]at h⊢;refine⟨?_,?_⟩
 .cases a2 with
  |none=>rfl
  |some r=>
   have h1:(!I1 b1 r)=true:=h.1;show aQ b1 r=true;unfold aQ;rw[DH (show r≠Xt by have:=ha r rfl;grind [Xt]),GX,h1,show Nat.blt r 10000000=true by rw[Dt];exact ha r rfl];rfl
 .cases b2 with
  |none=>rfl
  |some r=>
   have h1:(!I1 a1 r)=true:=h.2;show aQ a1 r=true;unfold aQ;rw[DH (show r≠Xt by have:=hb r rfl;grind [Xt]),GX,h1,show Nat.blt r 10000000=true by rw[Dt];exact hb r rfl];rfl
theorem V6{ops:Array Oper}{oi:Oper}{fi:FF}{D:List Nat}(hi:Rp fi):∀{l:List Oper} {fs:List FF} {k:Nat},S7 fs->QC ops oi fi D k l fs=true->IH ops oi fi D k l fs=true
 | [],[],_,_,h=>h
 |o::r,f::fs,k,hs,h=>by
  unfold QC at h;unfold IH;rw[Ak,HU,Ak]at h⊢;exact⟨h.1.imp id (fun q=>⟨q.1,ll hi hs.1 q.2⟩),V6 hi hs.2 h.2⟩
 | [],_::_,_,_,h=>by grind [QC]
 |_::_,[],_,_,h=>by grind [QC]
theorem Zl{ops:Array Oper}{all:List Oper}:∀{l:List Oper} {fs:List FF} {k:Nat},S7 fs->Wq ops all k l fs=true->Mr ops all k l fs=true
 | [],[],_,_,h=>h
 |o::r,f::fs,k,hs,h=>by
  unfold Wq at h;unfold Mr;simp only[Ak]at h⊢;exact⟨⟨h.1.1,V6 hs.1 hs.2 h.1.2⟩,Zl hs.2 h.2⟩
 | [],_::_,_,_,h=>by grind [Wq]
 |_::_,[],_,_,h=>by grind [Wq]
theorem Jp{ops:Array Oper}{fs:List FF}(hs:S7 fs)(h:eD ops fs=true):TG ops fs=true:=by
 grind [eD,TG,Zl]
theorem RG{d:Option Nat}{es es2:C0}(hty:(cx.T ty).d=.slice e)(hz:Nat.beq (cx.T e).zc.length (cx.T e).size=true)(FI:(cx.T e).size=m+1)(hx:∀K' : C0->Prop,K' es2->Lh h x K')(hr:h r=.tok (m+1) es.length)(hl:Bh (m+1) es2)(hb:(es.length+es2.length)*(cx.T e).bytes<=140737488355328)(hc:es.length+es2.length<=9223372036854775807)(hk:K (.slice (.id r (m+1)) (es++es2)) (AK h r (.tok (m+1) (es.length+es2.length)))):Ix cx d h ty (.slice (.id r (m+1)) es) x K:=by
 grind [Nat.beq_refl,Ix]
theorem RF{d:Nat}{es2:C0}(hty:(cx.T ty).d=.slice e)(hz:Nat.beq (cx.T e).zc.length (cx.T e).size=true)(FI:(cx.T e).size=m+1)(hx:∀K' : C0->Prop,K' es2->Lh h x K')(hr:h (Kq cx d)=.free)(ha:G7 cx.pl.arr d=none)(hl:Bh (m+1) es2)(hb:es2.length*(cx.T e).bytes<=140737488355328)(hc:es2.length<=9223372036854775807)(hk:K (.slice (.id (Kq cx d) (m+1)) es2) (AK h (Kq cx d) (.tok (m+1) es2.length))):Ix cx (some d) h ty nzA x K:=by
 grind [Ix,E8]
end Go.Eng
namespace Go.Eng
open Go.RowKit
end Go.Eng
namespace Go.Eng
variable {fn:Func}{ps:Array Tmp}{args:List AV}{c G7 body:Code}(cx:Cx)(σ:Jj)
def XL:Obj->Bool
 |.cells ..=>false
 |.map ..=>false
 |.mapIter ..=>false
 |.loop r=>!Pf [] r.body
 |_=>true
structure bB(n0 x:Nat)(w:World)(g:Gh)(h:Nat->HO)(w' : World)(g' : Gh)(h' : Nat->HO):Prop where
 os:w'.os=w.os
 tape:w'.tape=w.tape
 output:w'.output=w.output
 size:w.heap.size<=w'.heap.size
 frame:∀b,b<n0->b≠x->(∀r,(h r).live->g.own r≠some b)->w'.heap[b]?=w.heap[b]?
 loc:∀r b,(h' r).live->g'.own r=some b->n0<=b\/∃r',(h r').live/\g.own r'=some b
 sg:∀b o,g'.S b o->g.S b o\/n0<=b\/∃r',(h r').live/\g.own r'=some b
 le:Le h g w h' g' w'
section
variable {P:Program}{N:Nat}{ds:List Deferred}{n0 x:Nat}{w w' w1 w2:World}{g g' g1 g2:Gh}{h h' h1 h2:Nat->HO}
theorem bB.trans(a:bB n0 x w g h w1 g1 h1)(b:bB n0 x w1 g1 h1 w2 g2 h2):bB n0 x w g h w2 g2 h2 where
 os:=b.os.trans a.os
 tape:=b.tape.trans a.tape
 output:=b.output.trans a.output
 size:=AS a.size b.size
 frame c hc hx hn:=(b.frame c hc hx fun r hl e=>by
  rcases a.loc r c hl e with h | ⟨r',h1,h2⟩<;>grind).trans (a.frame c hc hx hn)
 loc r c hl e:=by
  rcases b.loc r c hl e with h | ⟨r',h1,h2⟩
  .omega
  .exact a.loc r' c h1 h2
 sg c o hs:=by
  rcases b.sg c o hs with h | h | ⟨r',h1,h2⟩
  .exact a.sg c o h
  .omega
  .rcases a.loc r' c h1 h2 with h | h<;>simp_all
 le:=a.le.trans b.le
theorem bB.of_inv(hI:CT w g h h' g' w')(hL:Le h g w h' g' w')(hn:n0<=w.heap.size):bB n0 x w g h w' g' h' where
 os:=hI.os
 tape:=hI.tape
 output:=hI.output
 size:=hI.size
 frame c hc _ kj:=hI.frame c Wk kj
 loc r c hl e:=by
  rcases(hI.loc r c hl e).2 with h | h<;>grind
 sg c o hs:=by
  grind [CT.sg]
 le:=hL
theorem CT.base(hI:CT w g h h' g' w'):CT w' g' h' h' g' w' where
 os:=rfl
 tape:=rfl
 output:=rfl
 size:=Ap _
 frame _ _ _:=rfl
 slt:=hI.slt
 objs:=hI.objs
 inj:=hI.inj
 loc r b hl e:=⟨(hI.loc r b hl e).1,.inr ⟨r,hl,e⟩⟩
 sg _ _ hs:=.inl hs
 glob:=hI.glob
theorem CT.of_seg(hI:CT w' g' h' h' g' w')(s:bB w.heap.size x w g h w' g' h')(hx:x<w.heap.size->w'.heap[x]?=w.heap[x]?):CT w g h h' g' w' where
 os:=s.os
 tape:=s.tape
 output:=s.output
 size:=s.size
 frame b hb hn:=by
  grind [bB.frame]
 slt:=hI.slt
 objs:=hI.objs
 inj:=hI.inj
 loc r b hl e:=⟨(hI.loc r b hl e).1,s.loc r b hl e⟩
 sg:=s.sg
 glob:=hI.glob
theorem PX{U:Nat->Prop}{r b:Nat}{o:HO}{ob:Obj}(ho:DV g w U r o)(hl:o.live)(e:g.own r=some b)(hb:w.heap[b]?=some ob)(hd:XL ob=true):False:=by
 cases o with
 |free=>exact hl
 |dead=>exact hl
 |ro cs=>exact hl
 |rom sh BY=>exact hl
 |cells cs=>
  obtain⟨_,b',E,vs,h1,_,h3,_⟩:=ho;rw[e]at h1;cases h1;rw[hb]at h3;cases h3;cases hd
 |tok sz n=>
  obtain⟨_,_,a,cap,_,(⟨_,h1⟩ | ⟨_,b',E,vs,off,_,h1,⟨_,h3,_⟩,_⟩)⟩:=ho
  .simp_all
  .rw[e]at h1;cases h1;rw[hb]at h3;cases h3;cases hd
 |vox v=>exact hl
 |hol sz es i c av=>
  obtain⟨_,_,_,b',cap,E,vs,_,h1,_,h3,_⟩:=ho;rw[e]at h1;cases h1;rw[hb]at h3;cases h3;cases hd
 |bld x=>
  obtain⟨_,b',p,v,h1,_,h3,_⟩:=ho;rw[e]at h1;cases h1;rw[hb]at h3;cases h3;cases hd
 |bbf n=>
  obtain⟨_,_,(⟨_,_,h1⟩ | ⟨b',cap,Ef,_,h1,_,_,h3,_⟩)⟩:=ho
  .simp_all
  .rw[e]at h1;cases h1;rw[hb]at h3;cases h3;cases hd
 |raw b' fO=>
  obtain⟨_,h1,h2,h3,_⟩:=ho;rw[e]at h1;cases h1;rw[hb]at h2;cases h2;cases ob<;>simp[XL,wU]at hd h3
  simp_all
 |var sz v n=>
  obtain⟨_,_,a,cap,_,(⟨_,h1⟩ | ⟨_,b',E,vs,off,_,h1,⟨_,h3,_⟩,_⟩)⟩:=ho
  .simp_all
  .rw[e]at h1;cases h1;rw[hb]at h3;cases h3;cases hd
 |arr sz es=>
  obtain⟨_,_,_,(⟨_,_,h1⟩ | ⟨b',cap,E,vs,_,h1,_,h3,_⟩)⟩:=ho
  .simp_all
  .rw[e]at h1;cases h1;rw[hb]at h3;cases h3;cases hd
 |map sh BY=>
  obtain⟨_,b',es,ck,h1,_,h3,_⟩:=ho;rw[e]at h1;cases h1;rw[hb]at h3;cases h3;cases hd
 |mapU sh BY=>
  obtain⟨_,b',es,ck,h1,_,h3,_⟩:=ho;rw[e]at h1;cases h1;rw[hb]at h3;cases h3;cases hd
 |iter all rem Ef=>
  obtain⟨_,b',mb,Kl,seen,st,es,ck,h1,_,h3,_⟩:=ho;rw[e]at h1;cases h1;rw[hb]at h3;cases h3;cases hd
theorem CT.dullS(hI:CT w g h h g w)(ho:w'.os=w.os/\w'.tape=w.tape/\w'.output=w.output)(FI:w.heap.size<=w'.heap.size)
  (hb:∀b,b<w.heap.size->w'.heap[b]?=w.heap[b]?\/∃o o',w.heap[b]?=some o/\w'.heap[b]?=some o'/\XL o=true/\XL o'=true)
  (hn:∀b,b<n0->b≠x->w'.heap[b]?=w.heap[b]?):CT w' g h h g w'/\bB n0 x w g h w' g h:=by
 have hk:Fa g w g w':=fun b o hs=>by
  refine⟨hs,?_⟩;rcases hb b (hI.slt b o hs)with e | ⟨ob,fO,e1,e2,d1,d2⟩
  .grind [World.cell?]
  .refine⟨?_,fun es ck he=>?_⟩
   .simp only[World.cell?,e1,e2];cases ob<;>cases fO<;>first | rfl | (cases d1;done) | (cases d2;done)
   .rw[e1]at he;cases he;cases d1
 have X6:∀r b,(h r).live->g.own r=some b->w'.heap[b]?=w.heap[b]?:=fun r b hl e=>by
  rcases hb b (hI.loc r b hl e).1 with e' | ⟨ob,fO,e1,_,d1,_⟩
  .exact e'
  .exact(PX (hI.objs r) hl e e1 d1).elim
 refine⟨⟨rfl,rfl,rfl,Ap _,fun _ _ _=>rfl,fun b o hs=>AM (hI.slt b o hs) FI,fun r=>?_,hI.inj,fun r b hl e=>⟨AM (hI.loc r b hl e).1 FI,.inr ⟨r,hl,e⟩⟩,fun _ _ hs=>.inl hs,hI.glob.keep hk⟩,⟨ho.1,ho.2.1,ho.2.2,FI,fun b uq hx _=>hn b uq hx,fun r b hl e=>.inr ⟨r,hl,e⟩,fun _ _ hs=>.inl hs,⟨.refl _ _,fun _ h=>h,hk⟩⟩⟩;exact(hI.objs r).same hk (fun _ h=>h) (.refl _ _) rfl rfl rfl rfl fun b hl e=>⟨X6 r b hl e,fun _ h=>h⟩
theorem CT.put(hI:CT w g h h g w){l:Nat}{o o' : Obj}(hl:w.heap[l]?=some o)(hd:XL o=true)(oM : XL o'=true)(hx:n0<=l\/l=x) :
  CT (w.putObj l o') g h h g (w.putObj l o')/\bB n0 x w g h (w.putObj l o') g h:=by
 grind [World.putObj,CT.dullS]
theorem CT.allocS(hI:CT w g h h g w)(o:Obj)(hn:n0<=w.heap.size):CT (w.alloc o) g h h g (w.alloc o)/\bB n0 x w g h (w.alloc o) g h:=by
 refine hI.dullS ⟨rfl,rfl,rfl⟩ (by simp_all) (fun b hb=>.inl (heap_alloc_old _ _ hb)) (fun b hb _=>heap_alloc_old _ _ Wk)
end
abbrev Iu(fn:FuncId)(tm:Array Value)(ps:Array Tmp)(G7 body:Code)(D:Nat)(s:LoopState):Loop:=
 { state:=s,pending:=none,fn:=fn,tmps:=tm,params:=ps,assign:=G7,body:=body,defers:=D }
def pU:List Nat->List AV->(Nat->AV)->Nat->AV
 |p::ps,v::vs,e=>pU ps vs (JY e p v)
 |_,_,e=>e
section
variable {P:Program}{N:Nat}{w:World}{g:Gh}
theorem Zs{U:Nat->Prop}:∀{ps:List Nat} {args:List AV} {vals:List Value} {tm:Array Value} {env:Nat->AV},vals.length=args.length->args.length=ps.length->(∀p∈ps,p<tm.size) ->
  (∀(i:Nat) (av:AV) (x:Value),args[i]?=some av->vals[i]?=some x->Bc g w U av x)->(∀i,Bc g w U (env i) (tm.getD i undef)) ->
  ((ps.zip vals).foldl (fun t p=>t.setIfInBounds p.1 p.2) tm).size=tm.size/\∀i,Bc g w U (pU ps args env i) (((ps.zip vals).foldl (fun t p=>t.setIfInBounds p.1 p.2) tm).getD i undef)
 | [],args,vals,tm,env,_,h2,_,_,he=>by
  have:args=[]:=Ay h2
  subst this;exact⟨rfl,he⟩
 |p::ps,[],vals,tm,env,_,h2,_,_,_=>by cases h2
 |p::ps,a::args,[],tm,env,h1,_,_,_,_=>by cases h1
 |p::ps,a::args,v::vals,tm,env,h1,h2,h3,h4,he=>by
  have hp:=h3 p (Ag ..)
  obtain⟨q1,q2⟩:=Zs (ps:=ps) (args:=args) (vals:=vals) (tm:=tm.setIfInBounds p v) (env:=JY env p a) (by simp_all) (by simp_all) (fun q hq=>by simp_all)
   (fun i av x e1 e2=>h4 (i+1) av x (by simp_all) (by simp_all)) (fun i=>by
    by_cases e:i=p
    .subst e;have e1:JY env i a i=a:=by simp[JY]
     have e2:(tm.setIfInBounds i v).getD i undef=v:=by simp_all
     rw[e1,e2];exact h4 0 a v rfl rfl
    .have e1:JY env p a i=env i:=by grind [JY,DH]
     have e2:(tm.setIfInBounds p v).getD i undef=tm.getD i undef:=by
      simp[Array.getD_eq_getD_getElem?,Array.getElem?_setIfInBounds_ne (Ne.symm e)]
     simp_all)
  exact⟨by simp_all,q2⟩
def YJ(P:Program)(Y:Gh->World->Prop)(σ:Jj)(f:Nat)(args:List AV)(h0:Nat->HO)(Q:AV->(Nat->HO)->Prop):Prop:=
 Gl P f/\∀(g:Gh) (w:World) (vals:Array Value),vals.size=args.length->(∀(i:Nat) (av:AV) (x:Value),args[i]?=some av->vals[i]?=some x->Bc g w (AC h0) av x) ->
  CT w g h0 h0 g w->(∀h' g' w',CT w g h0 h' g' w'->Le h0 g w h' g' w'->Y (DT σ g') w') ->
  Calls P f vals w fun e w'=>∃v r h' g',e=.returned v/\Q r h'/\Bc g' w' (AC h') r v/\CT w g h0 h' g' w'/\Le h0 g w h' g' w'
theorem mE{Y:Gh->World->Prop}{l:Nat}{f:Nat}{H0:List (Nat×HO)}{Q:AV->(Nat->HO)->Prop}(hP:cx.P=P)(hT:B8 P cx.T)(hm:P.follows .mixedOrders=true)(hx:cx.ext=true)(hf:P.funcs[f]?=some fn)(hn : (fn.name == "runtime.NumGoroutine") = false)(hb : fn.body = some c)(hN : args.length <= fn.ntmps)(hc : EA fn.ntmps c = true)(hσ : (Hc σ && IK σ H0) = true)(hy:cx.yp=fun l' σ' g w=>l'=l->σ'=σ->Y g w)(hk:QD cx c (Zo cx fn.results.toList σ Q) ⟨Pt args,Ai H0 Af⟩):YJ P Y σ f args (Ai H0 Af) Q:=
 ⟨⟨fn,hf,hn,by simp_all⟩,fun g w vals hs hv hI hp=>ZG cx σ hP hT hm hx hf hn hb hN hc hσ hk hs hv hI fun l' σ' h' g' w' _ q1 q2=>by
  grind⟩
end
def pf(cx:Cx):Nat->Code->(Ex->St->Prop)->(Code->Code->St->Prop)->St->Prop
 |0,.seq (.seq a b) d,Q,K,st=>QD cx a (fun e EF=>match e with |.normal=>K b d EF |e=>Q e EF) st
 |0,.seq b d,_,K,st=>K b d st
 |n+1,.seq a b,Q,K,st=>QD cx a (fun e EF=>match e with |.normal=>pf cx n b Q K EF |e=>Q e EF) st
 |_,_,_,_,_=>False
section
variable {P:Program}{N:Nat}{ds:List Deferred}{w0:World}{g0:Gh}{h0:Nat->HO}{st:St}{g:Gh}{a:Act}{w:World}
theorem pg{cx:Cx}(hP:cx.P=P)(hT:B8 P cx.T)(hm:P.follows .mixedOrders=true)(hE:LR cx h0)(hY:∀l σ h g w,Er σ=true->CT w0 g0 h0 h g w->Le h0 g0 w0 h g w->cx.yp l σ (DT σ g) w)
  {Qa:Ex->St->Prop} {K:Code->Code->St->Prop} {Q:Exit->Act->World->Prop} (hQ:∀e st g a w,e≠.normal->Qa e st->SR N ds w0 g0 h0 st g a w->Q e.real a w)
  (hK:∀b d st g a w,K b d st->SR N ds w0 g0 h0 st g a w->b.wpIn (J6 none) 0 P (Exit.then (d.wpIn (J6 none) 0 P Q) Q) a w) :
  ∀(n:Nat) (c:Code),EA N c=true->∀{st:St} {g:Gh} {a:Act} {w:World},SR N ds w0 g0 h0 st g a w->pf cx n c Qa K st->c.wpIn (J6 none) 0 P Q a w:=by
 intro n
 induction n with
 |zero=>
  intro c hc st g a w hS hk;cases c with
  |seq y d=>
   simp only[EA,Ak]at hc;cases y with
   |seq x b=>
    have hk:QD cx x (fun e EF=>match e with | .normal=>K b d EF | e=>Qa e EF) st:=hk;simp only[EA,Ak]at hc;refine wpIn_seq (wpIn_seq (Oc hP hT hm hE hY none x hc.1.1 (Qa:=fun e EF=>match e with | .normal=>K b d EF | e=>Qa e EF) (fun e st g a w q hS=>?_) hS hk));cases e with
    |normal=>exact hK b d _ _ _ _ q hS
    |exit id=>exact hQ (.exit id) _ _ _ _ (fun e=>by cases e) q hS
    |ret=>exact hQ .ret _ _ _ _ (fun e=>by cases e) q hS
   |_=>exact wpIn_seq (hK _ d _ _ _ _ hk hS)
  |_=>exact hk.elim
 |succ n ih=>
  intro c hc st g a w hS hk;cases c with
  |seq x y=>
   simp only[EA,Ak]at hc;refine wpIn_seq (Oc hP hT hm hE hY none x hc.1 (Qa:=fun e EF=>match e with | .normal=>pf cx n y Qa K EF | e=>Qa e EF) (fun e st g a w q hS=>?_) hS hk);cases e with
   |normal=>exact ih y hc.2 hS q
   |exit id=>exact hQ (.exit id) _ _ _ _ (fun e=>by cases e) q hS
   |ret=>exact hQ .ret _ _ _ _ (fun e=>by cases e) q hS
  |_=>exact hk.elim
end
section
variable {P:Program}{N:Nat}{ds:List Deferred}{w0:World}{g0:Gh}{h0:Nat->HO}{st:St}{g:Gh}{a:Act}{w:World}
theorem SR.rebase{w1:World}{g1:Gh}{h1:Nat->HO}(hS:SR N ds w0 g0 h0 st g a w)(hI:CT w1 g1 h1 st.h g w)(hL:Le h1 g1 w1 st.h g w):SR N ds w1 g1 h1 st g a w:=⟨hI,hL,hS.dfs,hS.size,hS.slots⟩
theorem fQ{cx:Cx}(hT:B8 P cx.T){H0:List (Nat×HO)}{σ:Jj}(hσ:Hc σ=true)(uO:IK σ H0=true){Q:AV->(Nat->HO)->Prop}(hS:SR N ds w0 g0 (Ai H0 Af) st g a w)(hk:jv cx st fn.results.toList σ Q) :
  ∃v,(results fn a.tmps).run P w=.ok v w/\∃r h' g',Q r h'/\Bc g' w (AC h') r v/\CT w0 g0 (Ai H0 Af) h' g' w/\Le (Ai H0 Af) g0 w0 h' g' w:=by
 obtain⟨g2,i1,i2⟩:=Nh cx.pl.fin hS.inv;have T4 : SR N ds w0 g0 (Ai H0 Af) ⟨st.t,PF st.h cx.pl.fin⟩ g2 a w:=⟨i1,hS.le.trans i2,hS.dfs,hS.size,fun i=>(hS.slots i).le i2⟩;obtain⟨l,vs,h1,h2,h3,h4,h5⟩:=SY hT T4 _ hk;obtain⟨hR,j1,j2⟩:=Pv hσ uO i1 T4.le;have CE:(results fn a.tmps).run P w=.ok (if h:vs.toArray.size=1 then vs.toArray[0]else .tuple vs.toArray) w:=by
  rw[OL,show fn.results=fn.results.toList.toArray by simp,List.mapM_toArray];simp_all
 match l,vs,h1,h3,h5,CE with
 | [v],[x],h1,h3,h5,CE=>exact⟨x,by simp_all,_,_,_,h1,(h5 0 v x rfl rfl).ren hR,j1,j2⟩
 | [],vs,h1,h3,h5,CE=>
  have:vs=[]:=Ay h3
  subst this;exact⟨.tuple #[],by simp_all,_,_,_,h1,Bc.ren hR (.tup _ [] _ rfl fun i av x q=>by simp_all),j1,j2⟩
 |v::v' :: l,vs,h1,h3,h5,CE=>
  refine⟨.tuple vs.toArray,?_,_,_,_,h1,Bc.ren hR (.tup _ _ _ Wk fun i av x q1 q2=>h5 i av x q1 (by simp_all)),j1,j2⟩;simp_all
theorem vE{sa s:Nat}{rest:Code}(hP:cx.P=P)(hT:B8 P cx.T)(hm:P.follows .mixedOrders=true)(hx:cx.ext=true){σ:Jj}{H0 Hn:List (Nat×HO)}(hσ:(Hc σ&&IK σ H0)=true)(hσn:IK σ Hn=true){env:Nat->AV}{gf:Nat}{caps:List AV}(hF:env s=.clo gf caps){Qv:AV->(Nat->HO)->Prop}(hIT:∀(l D:Nat) (f' : FuncId) (tm:Array Value),tm.size=N->YJ P (fun g w=>w.heap[l]?=some (.loop (Iu f' tm ps G7 body D .ready))/\∀i,Bc g w (AC (Ai H0 Af)) (env i) (tm.getD i undef)) σ gf
   (.v (.func (.yield l) #[] #[])::caps) (Ai H0 Af) fun _ h'=>h'=Ai Hn Af)(hcr:EA N rest=true)(hbk:Pf [] body=false)(fw:QD cx rest (Zo cx fn.results.toList σ Qv) ⟨env,Ai Hn Af⟩)(hY:∀l σ g w,cx.yp l σ g w){a:Act}(ha:a.defers=[])(hN:a.tmps.size=N)(hI:CT w g (Ai H0 Af) (Ai H0 Af) g w)(Ou:∀i,Bc g w (AC (Ai H0 Af)) (env i) (a.tmps.getD i undef)){R:Ending->World->Prop}(hR:∀v r h' g' w',Qv r h'->Bc g' w' (AC h') r v->CT w g (Ai H0 Af) h' g' w'->Le (Ai H0 Af) g w h' g' w'->R (.returned v) w') :
  (Code.block sa (.rangeFunc (.tmp s) ps G7 body)).wpIn (J6 none) 0 P (Exit.then (rest.wpIn (J6 none) 0 P (bodyPostM (J6 none) 0 P fn R)) (bodyPostM (J6 none) 0 P fn R)) a w:=by
 simp only[Ak]at hσ;have hdl:∀f' tm D s,XL (.loop (Iu f' tm ps G7 body D s))=true:=fun _ _ _ _=>by show(!Pf [] body)=true;simp_all
 refine wpIn_block (wpIn_rangeFunc fun f' _=>?_);have hs:=Ou s;rw[hF]at hs;have sv:a.eval (.tmp s)=a.tmps.getD s undef:=rfl;generalize hfv:a.tmps.getD s undef=fv at hs sv;cases hs with
 |clo _ _ _ lb FI MB=>
 obtain⟨i0,s0⟩:=hI.allocS (n0:=w.heap.size) (x:=w.heap.size) (.deferred (some [])) (Ap _);obtain⟨i1,s1⟩:=i0.allocS (n0:=w.heap.size) (x:=w.heap.size) (.loop (Iu f' a.tmps ps G7 body w.heap.size .ready)) (by simp_all);generalize hW:(w.alloc (.deferred (some []))).alloc (.loop (Iu f' a.tmps ps G7 body w.heap.size .ready))=W1 at i1 s1;have AiO:W1.heap.size=w.heap.size+2:=by grind [World.size_alloc]
 have hl:W1.heap[w.heap.size+1]?=some (.loop (Iu f' a.tmps ps G7 body w.heap.size .ready)):=by
  grind [World.alloc_heap_new]
 have hD:W1.heap[w.heap.size]?=some (.deferred (some [])):=by
  grind [heap_alloc_old,World.alloc_heap_new]
 have PK:∀b ob,W1.heap[b]?=some ob->XL ob=true->∀r,((Ai H0 Af) r).live->g.own r≠some b:=fun b ob hb hd r hr e=>PX (i1.objs r) hr e hb hd;have S1:=s0.trans s1;have hit:=hIT (w.heap.size+1) w.heap.size f' a.tmps hN
 refine⟨w.heap.size+1,[{ target:=.collected w.heap.size,args:=#[] }],W1,{ target:=.fn (.func gf) lb,args:=#[.func (.yield (w.heap.size+1)) #[] #[]] },W1,gf,
  #[.func (.yield (w.heap.size+1)) #[] #[]]++lb,W1,?_,?_,fun _ _=>trivial,?_,fun e=>(by cases e),?_⟩
 .grind [run_enterLoop_outer]
 .simp only[resolve,sv];simp[go_sem]
 .simp only[invoke];rw[G1 hit.1]
 refine callsIn_wide.2 ((hit.2 g W1 _ (by grind) (fun i av x e1 e2=>?_) i1 (fun h' g' w' q1 q2=>?_)).mono ?_)
 .cases i with
  |zero=>
   grind [Bc.v]
  |succ i=>
   grind [Bc.le,bB.le]
 .obtain⟨_,_,j2⟩:=Pv hσ.1 hσ.2 q1 q2;refine⟨(q1.frame _ Wk (PK _ _ hl (hdl _ _ _ _))).trans hl,fun i=>?_⟩;exact((Ou i).le S1.le).mono j2.keeps (fun _ h=>h) j2.gh
 rintro e w2 ⟨v,r,h',g2,rfl,rfl,_,q3,q4⟩
 have iG:w2.heap[w.heap.size+1]?=some (.loop (Iu f' a.tmps ps G7 body w.heap.size .ready)):=(q3.frame _ Wk (PK _ _ hl (hdl _ _ _ _))).trans hl;have hD2:w2.heap[w.heap.size]?=some (.deferred (some [])):=(q3.frame _ Wk (PK _ _ hD rfl)).trans hD;refine⟨none,_,run_endLoop iG (fun e=>by cases e),?_⟩;obtain⟨i4,s4⟩:=q3.base.put (n0:=w.heap.size) (x:=w.heap.size) (o':=.loop { Iu f' a.tmps ps G7 body w.heap.size .ready with state:=.exhausted }) iG (hdl _ _ _ _) (hdl f' a.tmps w.heap.size .exhausted) (.inl Wk);have S4:=(S1.trans (bB.of_inv q3 q4 Wk)).trans s4;generalize hW4:w2.putObj (w.heap.size+1) (.loop { Iu f' a.tmps ps G7 body w.heap.size .ready with state:=.exhausted })=w4 at i4 s4 S4;have hD4:w4.heap[w.heap.size]?=some (.deferred (some [])):=by grind [World.putObj_heap_other]
 have hE:LR cx (Ai Hn Af):=by unfold LR;rw[hx];exact fun i hi=>⟨(GO hσn i hi).1,(GO hσn i hi).2.1⟩
 have hS4:SR N [{ target:=.collected w.heap.size,args:=#[] }] w4 g2 (Ai Hn Af) ⟨env,Ai Hn Af⟩ g2 { a with defers:=[{ target:=.collected w.heap.size,args:=#[] }]++a.defers } w4:=
  ⟨i4,.refl _ _ _,by simp_all,hN,fun i=>(Ou i).le S4.le⟩
 refine Oc hP hT hm hE (fun l σ _ _ w _ _ _=>hY l σ _ w) none rest hcr (fun e st5 g5 a5 w5 hq sm=>?_) hS4 fw;have fin:jv cx st5 fn.results.toList σ Qv->LeavesInM (J6 none) 0 P fn a5.tmps R a5.defers .returning w5:=by
  intro hk;have hD5:w5.heap[w.heap.size]?=some (.deferred (some [])):=(sm.inv.frame _ (BZ.1 hD4).1 (fun r hr e=>PX (i4.objs r) hr e hD4 rfl)).trans hD4;rw[sm.dfs];refine⟨by simp,.inl ⟨w.heap.size,_,rfl,run_takeDeferred hD5,?_⟩⟩;obtain⟨i6,s6⟩:=sm.inv.base.put (n0:=w.heap.size) (x:=w.heap.size) (o':=.deferred none) hD5 rfl rfl (.inr rfl);have hS6:SR N [{ target:=.collected w.heap.size,args:=#[] }] (w5.putObj w.heap.size (.deferred none)) g5 st5.h st5 g5 a5 (w5.putObj w.heap.size (.deferred none)):=⟨i6,.refl _ _ _,sm.dfs,sm.size,fun i=>(sm.slots i).le s6.le⟩;have S6:=(S4.trans (bB.of_inv sm.inv sm.le (AS (Ap _) S4.size))).trans s6;obtain⟨v,k2,r,h7,g7,k1,k5,k3,k4⟩:=fQ (H0:=H0) hT hσ.1 hσ.2 (SR.rebase hS6 (i6.of_seg S6 fun h=>absurd h (Nat.lt_irrefl _)) S6.le) hk;exact⟨v,k2,hR v r h7 g7 _ k1 k5 k3 k4⟩
 cases e with
 |normal=>exact fin hq
 |ret=>exact fin hq
 |exit id=>exact hq.elim
end
section
variable {P:Program}{N:Nat}{w:World}{g:Gh}
theorem j9(o k r:Nat){H:List (Nat×HO)}(cx:Cx)(hP:cx.P=P)(hT:B8 P cx.T)(hm:P.follows .mixedOrders=true)(hx:cx.ext=true){σ:Jj}(hσ:(Hc σ&&IK σ H)=true){fn:FuncId}{tm:Array Value}{D l:Nat}{env:Nat->AV}{U:Nat->Prop}{Q:AV->(Nat->HO)->Prop}(hps:args.length=ps.toList.length)(hN:tm.size=N)(hpN:(ps.toList.all fun p=>Nat.blt p N)=true)(hca:EA N G7=true)(hcb:EA N body=true)(hU:∀i,U i->AC (Ai H Af) i)(hk:QD cx G7 (fun e st=>match e with | .normal=>QD cx body (fun e st=>match e with | .normal=>rvK st.h o k r fun h'=>Q (.v (.bool true)) (FJ σ (PF h' cx.pl.fin)) | _=>False) st | _=>False) ⟨pU ps.toList args env,Ai H Af⟩)(hY:∀l σ g w,cx.yp l σ g w:=by exact fun _ _ _ _=>trivial)(hbk:Pf [] body=false:=by kernel_rfl) :
  I6 P (fun g w=>w.heap[l]?=some (.loop (Iu fn tm ps G7 body D .ready))/\∀i,Bc g w U (env i) (tm.getD i undef)) l args (Ai H Af) Q:=by
 simp only[Ak]at hσ;intro g w vals hs hv hI ⟨hl,Ou⟩;have ET:l<w.heap.size:=(BZ.1 hl).1;have hdl:∀s,XL (.loop (Iu fn tm ps G7 body D s))=true:=fun s=>by show(!Pf [] body)=true;simp_all
 have hE:LR cx (Ai H Af):=by unfold LR;rw[hx];exact fun i hi=>⟨(GO hσ.2 i hi).1,(GO hσ.2 i hi).2.1⟩
 have PK:∀r,((Ai H Af) r).live->g.own r≠some l:=fun r hr e=>PX (hI.objs r) hr e hl (hdl _);have Afy:∀(t0:Array Value),(ps.zip vals).foldl (fun tmps (p:Nat×Value)=>tmps.setIfInBounds p.1 p.2) t0=(ps.toList.zip vals.toList).foldl (fun t p=>t.setIfInBounds p.1 p.2) t0:=fun t0=>by
  grind [Array.toList_zip]
 have hry:=run_yield (P:=P) (args:=vals) hl (by simp_all);refine⟨fn,_,G7,body,hry,roundIn_of_wpIn trivial ?_⟩;obtain⟨z1,z2⟩:=Zs (U:=AC (Ai H Af)) (ps:=ps.toList) (args:=args) (vals:=vals.toList) (tm:=tm) (env:=env) Wk hps (fun p hp=>by
  grind [Nat.blt_eq]) (fun i av x e1 e2=>hv i av x e1 (by simp_all)) (fun i=>(Ou i).mono (.refl _ _) hU (.refl _ _))
 have hS0:SR N [] w g (Ai H Af) ⟨pU ps.toList args env,Ai H Af⟩ g { tmps:=(ps.zip vals).foldl (fun tmps (p:Nat×Value)=>tmps.setIfInBounds p.1 p.2) tm,defers:=[] } w:=by
  grind [SR.mk,Le.refl]
 refine Oc hP hT hm hE (fun l σ _ _ w _ _ _=>hY l σ _ w) (some l) G7 hca (fun e st1 g1 a1 w1 hq qd=>?_) hS0 hk;cases e with
 |exit _=>simp_all
 |ret=>simp_all
 |normal=>
  have hl1:w1.heap[l]?=some (.loop (Iu fn tm ps G7 body D .ready)):=(qd.inv.frame l ET PK).trans hl;refine⟨_,run_beginRound hl1 rfl,?_⟩;obtain⟨iS,sS⟩:=hI.put (n0:=w.heap.size) (x:=l) (o':=.loop (Iu fn tm ps G7 body D .busy)) hl (hdl _) (hdl _) (.inr rfl);have hlS:(w.putObj l (.loop (Iu fn tm ps G7 body D .busy))).heap[l]?=some (.loop (Iu fn tm ps G7 body D .busy)):=World.putObj_heap_same ET;have Adw:(w.putObj l (.loop (Iu fn tm ps G7 body D .busy))).heap.size=w.heap.size:=by simp_all
  obtain⟨_,sB⟩:=iS.dullS (w':=w) (n0:=w.heap.size) (x:=l) ⟨rfl,rfl,rfl⟩ Wk (fun b _=>by
   grind [World.putObj_heap_other]) (fun b _ EG=>(World.putObj_heap_other EG).symm)
  obtain⟨i2,s2⟩:=qd.inv.base.put (n0:=w.heap.size) (x:=l) (o':=.loop (Iu fn tm ps G7 body D .busy)) hl1 (hdl _) (hdl _) (.inr rfl);have S2:=(sB.trans (bB.of_inv qd.inv qd.le (Ap _))).trans s2;have iG:(w1.putObj l (.loop (Iu fn tm ps G7 body D .busy))).heap[l]?=some (.loop (Iu fn tm ps G7 body D .busy)):=World.putObj_heap_same (BZ.1 hl1).1;have hI2:=i2.of_seg (by rw[Adw];exact S2) (fun _=>iG.trans hlS.symm);have hS2:SR N [] (w.putObj l (.loop (Iu fn tm ps G7 body D .busy))) g (Ai H Af) st1 g1 a1 (w1.putObj l (.loop (Iu fn tm ps G7 body D .busy))):=⟨hI2,S2.le,qd.dfs,qd.size,fun i=>(qd.slots i).le s2.le⟩;refine Oc hP hT hm hE (fun l σ _ _ w _ _ _=>hY l σ _ w) (some l) body hcb (fun e st3 g3 a3 w3 hq xT=>?_) hS2 hq;cases e with
  |exit _=>simp_all
  |ret=>simp_all
  |normal=>
   obtain⟨h3,g3',xT,hq⟩:=nZ xT hq;have yF:w3.heap[l]?=some (.loop (Iu fn tm ps G7 body D .busy)):=(xT.inv.frame l Wk PK).trans hlS;refine⟨.bool true,w3.putObj l (.loop (Iu fn tm ps G7 body D .ready)),run_endRound none yF,?_⟩;obtain⟨gf,if1,if2⟩:=Nh cx.pl.fin xT.inv;obtain⟨i4,s4⟩:=if1.base.put (n0:=w.heap.size) (x:=l) (o':=.loop (Iu fn tm ps G7 body D .ready)) yF (hdl _) (hdl _) (.inr rfl);have S4:=(sS.trans (bB.of_inv if1 (xT.le.trans if2) Wk)).trans s4;have hl4:(w3.putObj l (.loop (Iu fn tm ps G7 body D .ready))).heap[l]?=some (.loop (Iu fn tm ps G7 body D .ready)):=World.putObj_heap_same (BZ.1 yF).1;have hI4:=i4.of_seg S4 (fun _=>hl4.trans hl.symm);obtain⟨_,j1,j2⟩:=Pv hσ.1 hσ.2 hI4 S4.le;exact⟨.bool true,.v (.bool true),_,_,rfl,hq,.v _ _,j1,j2⟩
end
def wG(h:Nat->HO)(o k r sz:Nat)(K:(Nat->HO)->Prop):Prop:=
 match h o with
 |.cells cs=>match JR cs k with
  |.v (.slice none 0 0)=>match h r with
   |.free=>K (AK (AK h r (.var sz 0 0)) o (.cells (EW cs k (.slice (.ver r sz 0) []))))
   |_=>False
  |_=>False
 |_=>False
section
variable {P:Program}{N:Nat}{ds:List Deferred}{w0:World}{g0:Gh}{h0:Nat->HO}{st:St}{g:Gh}{a:Act}{w:World}
theorem vl(hS:SR N ds w0 g0 h0 st g a w){o k r sz:Nat}{K:(Nat->HO)->Prop}(hk:wG st.h o k r sz K):∃h' g',SR N ds w0 g0 h0 ⟨st.t,h'⟩ g' a w/\K h':=by
 unfold wG at hk;split at hk
 .rename_i cs e0;split at hk
  .rename_i e1;split at hk
   .rename_i hf;have ww:o≠r:=fun e=>by simp_all
    have WB:=JB cs k _ e1 aa0
    obtain⟨m1,m2⟩:=hS.inv.upd r (.var sz 0 0) (.slice none 0 0) 0 true none g.S w none ⟨rfl,rfl,rfl,Ap _⟩ (fun _ _ _=>rfl) (fun b e=>by cases e) (fun _ _ h=>h) (fun _ _ h=>.inl h) (fun b o e=>by cases e) (fun b hh e=>by simp_all) aa0
     (fun hu=>absurd hf hu) (fun _ _=>by
      obtain⟨u1,u2,u3,u4⟩:=Bm g r (.slice none 0 0) 0 true none g.S;exact⟨u3,u2,none,0,u1,.inl ⟨rfl,u4⟩⟩)
    generalize fp:g.upd r (.slice none 0 0) 0 true none g.S=g1 at m1 m2;have gr:g1.tk r=true/\g1.ln r=0/\g1.ρ r=.slice none 0 0:=by grind [Gh.upd]
    have ub : (AK st.h r (.var sz 0 0)) o=.cells cs:=by grind [BT]
    obtain⟨g3,p1,p2⟩:=Ph m1 ub WB (new:=.slice (.ver r sz 0) []) (fun y hy=>by
     grind [AC,A2,cases Bc,Bc.ver,Bc.snil])
    exact⟨_,g3,⟨p1,hS.le.trans (m2.trans p2),hS.dfs,hS.size,fun i=>(hS.slots i).le (m2.trans p2)⟩,hk⟩
   simp_all
  simp_all
 simp_all
def RfV(o k r sz:Nat)(hJ:Cx)(P:Program)(N:Nat)(fn:Func)(σ:Jj)(Q:AV->(Nat->HO)->Prop)(b rest:Code)(st:St):Prop:=
 wG st.h o k r sz fun h1=>
  ∃(σF σr:Jj) (H0 Hn:List (Nat×HO)) (sa s:Nat) (ps:Array Tmp) (G7 body:Code) (gf:Nat) (caps:List AV),
  b=.block sa (.rangeFunc (.tmp s) ps G7 body)/\(Er σF&&D6 h1 0 0&&Dc σF 0 0)=true/\FJ σF h1=Ai H0 Af/\(Hc σr&&IK σr H0)=true/\IK σr Hn=true /\
  ren (Cq σF) h1 (st.t s)=.clo gf caps /\
  (∀(l D:Nat) (f' : FuncId) (tm:Array Value),tm.size=N->YJ P (fun g w=>w.heap[l]?=some (.loop (Iu f' tm ps G7 body D .ready))/\∀i,Bc g w (AC (Ai H0 Af)) (ren (Cq σF) h1 (st.t i)) (tm.getD i undef)) σr gf
   (.v (.func (.yield l) #[] #[])::caps) (Ai H0 Af) fun _ h'=>h'=Ai Hn Af) /\
  EA N rest=true/\Pf [] body=false/\QD hJ rest (Zo hJ fn.results.toList σr fun r h'=>Q (ren (Cq σ) (Eb σF 0 0 h1 h') (ren (Fr σF 0 0) h' r)) (FJ σ (Eb σF 0 0 h1 h')))
   ⟨fun i=>ren (Cq σF) h1 (st.t i),Ai Hn Af⟩
theorem gy (o k r sz : Nat){f : Nat}{args : List AV}{H : List (Nat × HO)}{Q : AV -> (Nat -> HO) -> Prop}(cx hJ : Cx)(σ : Jj)(hP : cx.P = P)(hT : B8 P cx.T)(hP2 : hJ.P = P)(hT2 : B8 P hJ.T)(hm : P.follows .mixedOrders = true)(hx : cx.ext = true)(y8 : hJ.ext = true)(hf : P.funcs[f]? = some fn)(hn : (fn.name == "runtime.NumGoroutine") = false)(hb:fn.body=some c)(hN:args.length<=fn.ntmps)(hc:EA fn.ntmps c=true)(hσ:(Hc σ&&IK σ H)=true)(n:Nat)(hk:pf cx n c (Zo cx fn.results.toList σ fun r h'=>∃r',Cj r r'/\Q r' h') (RfV o k r sz hJ P fn.ntmps fn σ fun r h'=>∃r',Cj r r'/\Q r' h') ⟨Pt args,Ai H Af⟩)(hY:∀l σ g w,cx.yp l σ g w:=by exact fun _ _ _ _=>trivial)(hY2:∀l σ g w,hJ.yp l σ g w:=by exact fun _ _ _ _=>trivial):Bg P f args (Ai H Af) Q:=by
 refine Bg.mono (Q:=fun r h'=>∃r',Cj r r'/\Q r' h') ?_ fun _ _ ⟨r',s,q⟩=>⟨r',s,q⟩;simp only[Ak]at hσ;refine⟨⟨fn,hf,hn,by simp_all⟩,fun g w vals hs hv hI=>callsIn_wide.1 (callsIn_of_wp_marks (F:=Fence.wide) (n:=0) hf hb trivial ?_ rfl)⟩;have hE:LR cx (Ai H Af):=by unfold LR;rw[hx];exact fun i hi=>⟨(GO hσ.2 i hi).1,(GO hσ.2 i hi).2.1⟩
 have hS:SR fn.ntmps [] w g (Ai H Af) ⟨Pt args,Ai H Af⟩ g { tmps:=vals++Array.replicate (fn.ntmps-vals.size) undef,defers:=[] } w:=by
  refine⟨hI,.refl _ _ _,rfl,by simp_all,fun i=>?_⟩
  have:=Pu (n:=fn.ntmps-vals.size) (args:=args) (vals:=vals.toList) Wk (fun i av x q1 q2=>hv i av x q1 (by simp_all)) i
  grind [Array.getD_eq_getD_getElem?,Array.toList_append,Array.toList_replicate]
 refine pg hP hT hm hE (fun l σ _ _ w _ _ _=>hY l σ _ w) (fun e st g' a w' EG hk hS=>?_) (fun b rest st g' a w' hk hS=>?_) n c hc hS hk
 .have out:jv cx st fn.results.toList σ (fun r h'=>∃r',Cj r r'/\Q r' h')->LeavesInM (J6 none) 0 P fn a.tmps (fun e w'=>∃v r h' g',e=Ending.returned v/\(∃r',Cj r r'/\Q r' h')/\Bc g' w' (AC h') r v/\CT w g (Ai H Af) h' g' w'/\Le (Ai H Af) g w h' g' w') a.defers .returning w':=by
   intro hk;obtain⟨v,q2,r,h',g2,q1,q3,q4,q5⟩:=fQ hT hσ.1 hσ.2 hS hk;rw[hS.dfs];exact⟨v,q2,v,r,h',g2,rfl,q1,q3,q4,q5⟩
  cases e with
  |normal=>simp_all
  |ret=>exact out hk
  |exit id=>exact hk.elim
 .obtain⟨h1,g',hS,hk⟩:=vl hS hk;obtain⟨σF,σr,H0,Hn,sa,s,ps,G7,body,gf,caps,rfl,k1,k2,k3,k4,k5,k6,k7,k9,k8⟩:=hk;have hσF:Er σF=true:=by simp_all
  obtain⟨Acp,hI1⟩:=XW hS.inv hσF;rw[k2]at hI1;have Ou:∀i,Bc (DT σF g') w' (AC (Ai H0 Af)) (ren (Cq σF) h1 (st.t i)) (a.tmps.getD i undef):=fun i=>by
   have:=(hS.slots i).ren Acp
   simp_all
  refine M9 (Q:=fun r h'=>∃r',Cj (ren (Cq σ) (Eb σF 0 0 h1 h') (ren (Fr σF 0 0) h' r)) r'/\Q r' (FJ σ (Eb σF 0 0 h1 h'))) (C:=fun R'=>(∀e gq,R' e gq->(∃v r h' g',e=Ending.returned v/\(∃r',Cj r r'/\Q r' h')/\Bc g' gq (AC h') r v/\CT w g (Ai H Af) h' g' gq/\Le (Ai H Af) g w h' g' gq)) ->
   (Code.block sa (.rangeFunc (.tmp s) ps G7 body)).wpIn (J6 none) 0 P (Exit.then (rest.wpIn (J6 none) 0 P (bodyPostM (J6 none) 0 P fn (fun e gq=>∃v r h' g',e=Ending.returned v/\(∃r',Cj r r'/\Q r' h')/\Bc g' gq (AC h') r v/\CT w g (Ai H Af) h' g' gq/\Le (Ai H Af) g w h' g' gq))) (bodyPostM (J6 none) 0 P fn (fun e gq=>∃v r h' g',e=Ending.returned v/\(∃r',Cj r r'/\Q r' h')/\Bc g' gq (AC h') r v/\CT w g (Ai H Af) h' g' gq/\Le (Ai H Af) g w h' g' gq))) a w')
   (fun h k h2=>h fun e w r=>h2 _ _ (k _ _ r)) hS.inv (d:=0) (nn:=0) k1 (fun _ sI=>?_) (fun v r h' g2 w2 q1 q2 q3 q4=>?_) (fun _ _ h=>h)
  .rw[k2]at sI;exact vE hJ hP2 hT2 hm y8 k3 k4 k5 k6 k7 k9 k8 hY2 hS.dfs hS.size hI1 Ou fun v r h' g5 w5 q1 q2 q3 q4=>sI _ _ ⟨v,r,h',g5,rfl,q1,q2,q3,q4⟩
  .obtain⟨hR,j1,j2⟩:=Pv hσ.1 hσ.2 q2 (hS.le.trans q3);exact⟨v,_,_,_,rfl,q1,q4.ren hR,j1,j2⟩
end
end Go.Eng
namespace Go.Eng
open Go.Sort
end Go.Eng
namespace Go.Eng
end Go.Eng
