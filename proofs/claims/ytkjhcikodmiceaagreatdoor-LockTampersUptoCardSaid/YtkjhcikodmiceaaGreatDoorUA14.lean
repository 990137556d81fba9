/- Lemmas 14. -/
import Derived.Test.YtkjhcikodmiceaaGreatDoorUA13
import Derived.Below
import Derived.RangeFuncLeaves
import Derived.RangeFuncNested
namespace Go.Eng
section
variable {P:Program}
theorem A7{f:Nat}{fn:Func}{c:Code}{args:List AV}{H0:List (Nat×HO)}{Q:AV->(Nat->HO)->Prop}(cx:Cx)(σ:Ia)(hP:cx.P=P)(hT:BQ P cx.T)(hm:P.follows .mixedOrders=true)(hx:cx.ext=true)(hf:P.funcs[f]?=some fn)
  (hn : (fn.name == "runtime.NumGoroutine") = false) (hb : fn.body = some c) (hN : args.length <= fn.ntmps) (hc : DS fn.ntmps c = true) (hσ : (Gk σ && HC σ H0) = true)
  (hk:Qj cx c (Wy cx fn.results.toList σ fun r h'=>∃r',DC r r'/\Q r' h') ⟨NH args,Ae H0 Ab⟩) (hY:∀l σ g w,cx.yp l σ g w:=by exact fun _ _ _ _=>trivial):AW P f args (Ae H0 Ab) Q:=
 (fU cx σ hP hT hm hx hf hn hb hN hc hσ hk hY).mono fun _ _ ⟨r',s,q⟩=>⟨r',s,q⟩
end
end Go.Eng
namespace Go.Eng
open Go.Sort
theorem BR.append{g:Gh}{w:World}{U:Nat->Prop}{Ti bs:List AV}{xs ys:List Value}(h:BR g w U Ti xs)(k:BR g w U bs ys):BR g w U (Ti++bs) (xs++ys):=by
 refine⟨by rw[Au,Au,h.1,k.1],fun x hx=>?_,fun i av x q1 q2=>?_⟩
 .rcases Bc.1 hx with hx | hx
  .exact h.2.1 x hx
  .exact k.2.1 x hx
 .have hl:=h.1
  by_cases hi:i<Ti.length
  .rw[BZ hi]at q1;rw[BZ ch]at q2;exact h.2.2 i av x q1 q2
  .rw[Bp ch]at q1;rw[Bp ch,hl]at q2;exact k.2.2 _ av x q1 q2
theorem BR.take{g:Gh}{w:World}{U:Nat->Prop}{Ti:List AV}{xs:List Value}(h:BR g w U Ti xs)(k:Nat):BR g w U (Ti.take k) (xs.take k):=by
 refine⟨by rw[CB,CB,h.1],fun x hx=>h.2.1 x (EI hx),fun i av x q1 q2=>?_⟩;rw[Nj]at q1 q2;split at q1
 .rename_i hi;rw[A1 hi]at q2;exact h.2.2 i av x q1 q2
 simp_all
theorem BR.drop{g:Gh}{w:World}{U:Nat->Prop}{Ti:List AV}{xs:List Value}(h:BR g w U Ti xs)(k:Nat):BR g w U (Ti.drop k) (xs.drop k):=by
 refine⟨by rw[QO,QO,h.1],fun x hx=>h.2.1 x (FK hx),fun i av x q1 q2=>?_⟩;rw[Ew]at q1 q2;exact h.2.2 _ av x q1 q2
theorem Ih{α:Type}{k:Nat}:∀(es:List (List α)) (i:Nat),(∀e∈es,e.length=k)->es.flatten.take (i*k)=(es.take i).flatten
 | [],i,_=>by simp
 |e::es,0,_=>by simp
 |e::es,i+1,h=>by
  have he:=h e (Ad ..);rw[BW,List.take_succ_cons,BW,List.take_append,<-Ih es i fun x hx=>h x (Af _ hx),Bd (by grind),he,show(i+1)*k-k=i*k by grind]
theorem J5{α:Type}{k:Nat}:∀(es:List (List α)) (i:Nat),(∀e∈es,e.length=k)->es.flatten.drop (i*k)=(es.drop i).flatten
 | [],i,_=>by simp
 |e::es,0,_=>by simp
 |e::es,i+1,h=>by
  have he:=h e (Ad ..);rw[BW,List.drop_succ_cons,List.drop_append,<-J5 es i fun x hx=>h x (Af _ hx),Ji (by grind),he,show(i+1)*k-k=i*k by grind,FF]
section
variable {P:Program}
theorem OB{f:Nat}{es:List (List AV)}{sz:Nat}{rest:List Value}{n' : Nat}{Q:List (List AV)->Prop}(hE:Fb P f)(DT:es≠[])(au : n'<=es.length)
  (h1:∀(g:Gh) (w:World) (b cap:Nat) (F:Array Value),BR g w ES es.flatten F.toList->F.size=es.length*sz->Holds id w b 0 F->b<w.heap.size->es.length<=cap->Calls P f (#[.slice (some ⟨b,0,none⟩) es.length cap]++rest.toArray) w fun e w'=>
   e=.returned (.slice (some ⟨b,0,none⟩) n' cap)/\∃(F' : Array Value) (EZ : List (List AV)) (n:Nat) (os:Array Obj),F'.size=F.size/\Q EZ/\EZ.length=es.length/\(∀cs∈EZ,cs.length=sz) /\
    (∀(g:Gh) (w:World),BR g w ES es.flatten F.toList->BR g w ES EZ.flatten F'.toList)/\w'=grow (putRow id (Sort.ahead w n) b 0 F') os) :
  AW P f (.msl 1000 es.length::rest.map .v) (Ae [(1000,.arr sz es)] Ab) fun r h'=>r=.msl 2000 n'/\∃EZ,Q EZ/\h'=Ae [(1000,.dead),(2000,.arr sz (EZ.take n'))] Ab:=by
 refine⟨hE,fun g w us hs hv hI=>?_⟩;have ho:=hI.objs 1000;have he:Ae [(1000,HO.arr sz es)] Ab 1000=.arr sz es:=rfl;rw[he]at ho;obtain⟨t1,l1,al,a2⟩:=ho;simp only[Dp,A2]at hs;have xm:0<us.size:=by omega
 have zU:=hv 0 (.msl 1000 es.length) us[0] rfl (Cg xm);have hval:us[0]=g.ρ 1000:=by
  grind [cases AT]
 have Mf:us=#[g.ρ 1000]++rest.toArray:=by
  refine Array.ext (by simp_all) fun i h1 h2=>?_;cases i with
  |zero=>simp_all
  |succ i=>
   have hi:i<rest.length:=by omega
   have:=hv (i+1) (.v rest[i]) us[i+1] (by simp_all) (Cg h1)
   rw[this.v_eq];simp
 rw[Mf];rcases a2 with ⟨b1,b2,b3⟩ | ⟨b,cap,E,vs,b1,b2,b3,b4,b5,b6,b7⟩
 .simp_all
 .have hl:(Ae [(1000,HO.arr sz es)] Ab 1000).live:=trivial;have Ez:=(hI.loc 1000 b hl b2).1;have Il:es.length*sz<=vs.size:=by rw[b5];exact Bq _ b3
  have hF:((vs.toList.take (es.length*sz)).toArray).size=es.length*sz:=by simp_all
  have hH:Holds id w b 0 (vs.toList.take (es.length*sz)).toArray:=fun j hj=>by
   grind [World.cell?,World.frozen?]
  rw[b1];refine(h1 g w b cap _ ch hF hH Ez b3).mono ?_
  rintro e w' ⟨rfl,F',EZ,n,os,f1,f2,f3,f4,f5,rfl⟩
  have qX : F'.size=es.length*sz:=f1.trans hF;have t6:=My F' vs ch;have oh : (grow (putRow id (Sort.ahead w n) b 0 F') os).heap[b]?=some (.cells (putCells id 0 F' vs) E (0,0)):=by
   rw[heap_grow_old _ _ (by simp_all)];show(w.heap.modify b (onCells (putCells id 0 F')))[b]?=_;rw[Array.getElem?_modify,A1 rfl,b4];rfl
  have rM:∀k,k<w.heap.size->k≠b->(grow (putRow id (Sort.ahead w n) b 0 F') os).heap[k]?=w.heap[k]?:=fun k hk DT=>by
   rw[heap_grow_old _ _ (by simp_all)];simp[putRow,mapBlock,Array.getElem?_modify,Ne.symm DT]
  have Fi:w.heap.size<=(grow (putRow id (Sort.ahead w n) b 0 F') os).heap.size:=by simp_all
  obtain⟨k1,k2⟩:=hI.upd 1000 (.arr sz EZ) (g.ρ 1000) (g.ln 1000) (g.tk 1000) (g.own 1000) g.S (grow (putRow id (Sort.ahead w n) b 0 F') os) (some b) ⟨rfl,rfl,rfl,Fi⟩
   (fun k hk DT=>rM k hk (fun e=>DT (by rw[e]))) (fun b' e=>by simp_all) (fun _ _ h=>h) (fun _ _ h=>.inl h) (fun b' o e hs=>by simp_all)
   (fun b' _ e=>by grind) B0 (fun _=>⟨rfl,Ai _,fun _=>rfl,fun _=>rfl⟩) (fun hg hk=>by
    refine⟨by grind [Gh.upd],by grind [Gh.upd],f4,.inr ⟨b,cap,E,_,by grind [Gh.upd],by grind [Gh.upd],by omega,oh,by omega,?_,b7⟩⟩
    have:=f5 g w ch
    rw[f3,<-qX,t6.1];exact this.mono hk (fun _ h=>h) (fun _ h=>h.elim))
  rw[RN]at k1 k2;generalize wC : g.upd 1000 (g.ρ 1000) (g.ln 1000) (g.tk 1000) (g.own 1000) g.S=g' at k1 k2;have rL : g'.own 1000=some b:=by grind [Gh.upd]
  have rN:=k1.objs 1000;have js:Ae [(1000,HO.arr sz EZ)] Ab 1000=.arr sz EZ:=rfl;rw[js]at rN;obtain⟨m1,m2,m3,m4⟩:=rN;have hρ:g'.ρ 1000=.slice (some ⟨b,0,none⟩) es.length cap:=by grind [Gh.upd]
  have Ac9 : EZ≠[]:=fun e=>DT (AI (by simp_all));rcases m4 with ⟨m4,_⟩ | ⟨b',Md,E',d8,c1,c2,c3,c4,c5,c6,c7⟩
  .simp_all
  .rw[hρ]at c1;simp only[Value.slice.injEq,Cn,Addr.mk.injEq,and_true]at c1;obtain⟨c1a,c1b,c1c⟩:=c1;subst c1a;subst c1c;have wM : (EZ.take n').length=n':=by grind
   obtain⟨k3,k4⟩:=k1.move 1000 2000 Wk rfl trivial rL (.arr sz (EZ.take n')) (.slice (some ⟨b,0,none⟩) n' cap) n' true B0 (fun hk=>by
    refine⟨by simp[Gh.upd],by grind [Gh.upd],fun cs hcs=>m3 cs (EI hcs),.inr ⟨b,cap,E',d8,by grind [Gh.upd],by simp[Gh.upd],by omega,c4,c5,?_,c7⟩⟩
    have:=(c6.mono hk (fun _ h=>h) (fun _ h=>h.elim)).take (n'*sz)
    grind [Ih,Nat.mul_le_mul_right])
   have ry:Az (Az (Ae [(1000,HO.arr sz EZ)] Ab) 1000 .dead) 2000 (.arr sz (EZ.take n'))=Ae [(1000,.dead),(2000,.arr sz (EZ.take n'))] Ab:=by
    funext i
    by_cases e1:i=2000
    .subst e1;rw[AM];rfl
    .rw[BB _ _ _ _ e1]
     by_cases e2:i=1000
     .subst e2;rw[AM];rfl
     grind [BB,Ae,CX]
   rw[ry]at k3 k4;exact⟨_,.msl 2000 n',_,_,rfl,⟨rfl,EZ,f2,rfl⟩,.msl _ 2000 n' (some ⟨b,0,none⟩) cap (by intro c;cases c) (by simp[Gh.upd]) (by simp[Gh.upd]) (.inr ⟨b,rfl⟩) (fun _=>by simp[Gh.upd]),k3,k2.trans k4⟩
end
end Go.Eng
namespace Go.Eng
variable {h:Nat->HO}{r ty e m:Nat}{cx:Cx}{x:AV}{K:HK}
def fB(a b:ET):Bool:=
 (match a.2 with | some r=>!HR b.1 r | none=>true)&&(match b.2 with | some r=>!HR a.1 r | none=>true)
def OE(ops:Array Oper)(oi:Oper)(fi:ET)(D:List Nat)(k:Nat):List Oper->List ET->Bool
 |o::r,f::fs=>(HR D k||(oi.apart ops o&&fB fi f))&&OE ops oi fi D (k+1) r fs
 | [],[]=>true
 |_,_=>false
def T5(ops:Array Oper)(all:List Oper)(k:Nat):List Oper->List ET->Bool
 |o::r,f::fs=>
  let D:=OK k [] 0 all
  (o.after.toList.all fun e=>!Region.binds .any e||Nat.blt e.on k)&&SV k D 0 all&&(D.all fun j=>Nat.blt k j&&Nat.blt j all.length)&&OE ops o f D (k+1) r fs&&T5 ops all (k+1) r fs
 | [],[]=>true
 |_,_=>false
def ZU(ops:Array Oper)(fs:List ET):Bool:=Region.noSelect ops&&T5 ops ops.toList 0 ops.toList fs
def Po(f:ET):Prop:=∀r,f.2=some r->r<10000000
def QL:List ET->Prop
 | []=>True
 |f::r=>Po f/\QL r
theorem AD(l:List Nat):Po (l,none):=fun _ h=>by cases h
theorem Dz{l:List Nat}(h:r<10000000):Po (l,some r):=fun _ e=>by simp_all
theorem fC{a b:ET}(ha:Po a)(hb:Po b)(h:fB a b=true):Rm a b=true:=by
 obtain⟨a1,a2⟩:=a;obtain⟨b1,b2⟩:=b;unfold fB at h;unfold Rm;rw[Ag]at h⊢;refine⟨?_,?_⟩
 .cases a2 with
  |none=>rfl
  |some r=>
   have h1:(!HR b1 r)=true:=h.1;show XD b1 r=true;unfold XD;rw[CX (show r≠UW by have:=ha r rfl;grind [UW]),F0,h1,show Nat.blt r 10000000=true by rw[CJ];exact ha r rfl];rfl
 .cases b2 with
  |none=>rfl
  |some r=>
   have h1:(!HR a1 r)=true:=h.2;show XD a1 r=true;unfold XD;rw[CX (show r≠UW by have:=hb r rfl;grind [UW]),F0,h1,show Nat.blt r 10000000=true by rw[CJ];exact hb r rfl];rfl
theorem TM{ops:Array Oper}{oi:Oper}{fi:ET}{D:List Nat}(hi:Po fi):∀{l:List Oper} {fs:List ET} {k:Nat},QL fs->OE ops oi fi D k l fs=true->HA ops oi fi D k l fs=true
 | [],[],_,_,h=>h
 |o::r,f::fs,k,hs,h=>by
  unfold OE at h;unfold HA;rw[Ag,IH,Ag]at h⊢;exact⟨h.1.imp id (fun q=>⟨q.1,fC hi hs.1 q.2⟩),TM hi hs.2 h.2⟩
 | [],_::_,_,_,h=>by grind [OE]
 |_::_,[],_,_,h=>by grind [OE]
theorem Wv{ops:Array Oper}{all:List Oper}:∀{l:List Oper} {fs:List ET} {k:Nat},QL fs->T5 ops all k l fs=true->KW ops all k l fs=true
 | [],[],_,_,h=>h
 |o::r,f::fs,k,hs,h=>by
  unfold T5 at h;unfold KW;simp only[Ag]at h⊢;exact⟨⟨h.1.1,TM hs.1 hs.2 h.1.2⟩,Wv hs.2 h.2⟩
 | [],_::_,_,_,h=>by grind [T5]
 |_::_,[],_,_,h=>by grind [T5]
theorem Ie{ops:Array Oper}{fs:List ET}(hs:QL fs)(h:ZU ops fs=true):Rn ops fs=true:=by
 grind [ZU,Rn,Wv]
theorem PG{d:Option Nat}{es es2:List (List AV)}(hty:(cx.T ty).d=.slice e)(hz:Nat.beq (cx.T e).zc.length (cx.T e).size=true)(Fi:(cx.T e).size=m+1)(hx:∀K' : List (List AV)->Prop,K' es2->JZ h x K')(hr:h r=.tok (m+1) es.length)(hl:BJ (m+1) es2)(hb:(es.length+es2.length)*(cx.T e).bytes<=140737488355328)(hc:es.length+es2.length<=9223372036854775807)(hk:K (.slice (.id r (m+1)) (es++es2)) (Az h r (.tok (m+1) (es.length+es2.length)))):Hs cx d h ty (.slice (.id r (m+1)) es) x K:=by
 grind [Nat.beq_refl,Hs]
theorem PF{d:Nat}{es2:List (List AV)}(hty:(cx.T ty).d=.slice e)(hz:Nat.beq (cx.T e).zc.length (cx.T e).size=true)(Fi:(cx.T e).size=m+1)(hx:∀K' : List (List AV)->Prop,K' es2->JZ h x K')(hr:h (I8 cx d)=.free)(ha:Gf cx.pl.arr d=none)(hl:BJ (m+1) es2)(hb:es2.length*(cx.T e).bytes<=140737488355328)(hc:es2.length<=9223372036854775807)(hk:K (.slice (.id (I8 cx d) (m+1)) es2) (Az h (I8 cx d) (.tok (m+1) es2.length))):Hs cx (some d) h ty nzA x K:=by
 grind [Hs,Ek]
end Go.Eng
namespace Go.Eng
open Go.RowKit
end Go.Eng
namespace Go.Eng
variable {fn:Func}{ps:Array Tmp}{args:List AV}{c Gf body:Code}(cx:Cx)(σ:Ia)
def Vb:Obj->Bool
 |.cells ..=>false
 |.map ..=>false
 |.mapIter ..=>false
 |.loop r=>!Nu [] r.body
 |_=>true
structure X0(n0 x:Nat)(w:World)(g:Gh)(h:Nat->HO)(w' : World)(g' : Gh)(h' : Nat->HO):Prop where
 os:w'.os=w.os
 tape:w'.tape=w.tape
 output:w'.output=w.output
 size:w.heap.size<=w'.heap.size
 frame:∀b,b<n0->b≠x->(∀r,(h r).live->g.own r≠some b)->w'.heap[b]?=w.heap[b]?
 loc:∀r b,(h' r).live->g'.own r=some b->n0<=b\/∃r',(h r').live/\g.own r'=some b
 sg:∀b o,g'.S b o->g.S b o\/n0<=b\/∃r',(h r').live/\g.own r'=some b
 le:Le h g w h' g' w'
section
variable {P:Program}{N:Nat}{ds:List Deferred}{n0 x:Nat}{w w' w1 w2:World}{g g' g1 g2:Gh}{h h' h1 h2:Nat->HO}
theorem X0.trans(a:X0 n0 x w g h w1 g1 h1)(b:X0 n0 x w1 g1 h1 w2 g2 h2):X0 n0 x w g h w2 g2 h2 where
 os:=b.os.trans a.os
 tape:=b.tape.trans a.tape
 output:=b.output.trans a.output
 size:=AH a.size b.size
 frame c hc hx hn:=(b.frame c hc hx fun r hl e=>by
  rcases a.loc r c hl e with h | ⟨r',h1,h2⟩<;>grind).trans (a.frame c hc hx hn)
 loc r c hl e:=by
  rcases b.loc r c hl e with h | ⟨r',h1,h2⟩
  .omega
  .exact a.loc r' c h1 h2
 sg c o hs:=by
  rcases b.sg c o hs with h | h | ⟨r',h1,h2⟩
  .exact a.sg c o h
  .omega
  .rcases a.loc r' c h1 h2 with h | h<;>simp_all
 le:=a.le.trans b.le
theorem X0.of_inv(hI:Cm w g h h' g' w')(hL:Le h g w h' g' w')(hn:n0<=w.heap.size):X0 n0 x w g h w' g' h' where
 os:=hI.os
 tape:=hI.tape
 output:=hI.output
 size:=hI.size
 frame c hc _ au:=hI.frame c ch au
 loc r c hl e:=by
  rcases(hI.loc r c hl e).2 with h | h<;>grind
 sg c o hs:=by
  grind [Cm.sg]
 le:=hL
theorem Cm.base(hI:Cm w g h h' g' w'):Cm w' g' h' h' g' w' where
 os:=rfl
 tape:=rfl
 output:=rfl
 size:=Ai _
 frame _ _ _:=rfl
 slt:=hI.slt
 objs:=hI.objs
 inj:=hI.inj
 loc r b hl e:=⟨(hI.loc r b hl e).1,.inr ⟨r,hl,e⟩⟩
 sg _ _ hs:=.inl hs
 glob:=hI.glob
theorem Cm.of_seg(hI:Cm w' g' h' h' g' w')(s:X0 w.heap.size x w g h w' g' h')(hx:x<w.heap.size->w'.heap[x]?=w.heap[x]?):Cm w g h h' g' w' where
 os:=s.os
 tape:=s.tape
 output:=s.output
 size:=s.size
 frame b hb hn:=by
  grind [X0.frame]
 slt:=hI.slt
 objs:=hI.objs
 inj:=hI.inj
 loc r b hl e:=⟨(hI.loc r b hl e).1,s.loc r b hl e⟩
 sg:=s.sg
 glob:=hI.glob
theorem N8{U:Nat->Prop}{r b:Nat}{o:HO}{ob:Obj}(ho:Do g w U r o)(hl:o.live)(e:g.own r=some b)(hb:w.heap[b]?=some ob)(hd:Vb ob=true):False:=by
 cases o with
 |free=>exact hl
 |dead=>exact hl
 |ro cs=>exact hl
 |rom sh BF=>exact hl
 |cells cs=>
  obtain⟨_,b',E,vs,h1,_,h3,_⟩:=ho;rw[e]at h1;cases h1;rw[hb]at h3;cases h3;cases hd
 |tok sz n=>
  obtain⟨_,_,a,cap,_,(⟨_,h1⟩ | ⟨_,b',E,vs,off,_,h1,⟨_,h3,_⟩,_⟩)⟩:=ho
  .simp_all
  .rw[e]at h1;cases h1;rw[hb]at h3;cases h3;cases hd
 |vox v=>exact hl
 |hol sz es i c av=>
  obtain⟨_,_,_,b',cap,E,vs,_,h1,_,h3,_⟩:=ho;rw[e]at h1;cases h1;rw[hb]at h3;cases h3;cases hd
 |bld x=>
  obtain⟨_,b',p,v,h1,_,h3,_⟩:=ho;rw[e]at h1;cases h1;rw[hb]at h3;cases h3;cases hd
 |bbf n=>
  obtain⟨_,_,(⟨_,_,h1⟩ | ⟨b',cap,DD,_,h1,_,_,h3,_⟩)⟩:=ho
  .simp_all
  .rw[e]at h1;cases h1;rw[hb]at h3;cases h3;cases hd
 |raw b' aM=>
  obtain⟨_,h1,h2,h3,_⟩:=ho;rw[e]at h1;cases h1;rw[hb]at h2;cases h2;cases ob<;>simp[Vb,qj]at hd h3
  simp_all
 |var sz v n=>
  obtain⟨_,_,a,cap,_,(⟨_,h1⟩ | ⟨_,b',E,vs,off,_,h1,⟨_,h3,_⟩,_⟩)⟩:=ho
  .simp_all
  .rw[e]at h1;cases h1;rw[hb]at h3;cases h3;cases hd
 |arr sz es=>
  obtain⟨_,_,_,(⟨_,_,h1⟩ | ⟨b',cap,E,vs,_,h1,_,h3,_⟩)⟩:=ho
  .simp_all
  .rw[e]at h1;cases h1;rw[hb]at h3;cases h3;cases hd
 |map sh BF=>
  obtain⟨_,b',es,ck,h1,_,h3,_⟩:=ho;rw[e]at h1;cases h1;rw[hb]at h3;cases h3;cases hd
 |mapU sh BF=>
  obtain⟨_,b',es,ck,h1,_,h3,_⟩:=ho;rw[e]at h1;cases h1;rw[hb]at h3;cases h3;cases hd
 |iter all rem DD=>
  obtain⟨_,b',mb,I2,seen,st,es,ck,h1,_,h3,_⟩:=ho;rw[e]at h1;cases h1;rw[hb]at h3;cases h3;cases hd
theorem Cm.dullS(hI:Cm w g h h g w)(ho:w'.os=w.os/\w'.tape=w.tape/\w'.output=w.output)(Fi:w.heap.size<=w'.heap.size)
  (hb:∀b,b<w.heap.size->w'.heap[b]?=w.heap[b]?\/∃o o',w.heap[b]?=some o/\w'.heap[b]?=some o'/\Vb o=true/\Vb o'=true)
  (hn:∀b,b<n0->b≠x->w'.heap[b]?=w.heap[b]?):Cm w' g h h g w'/\X0 n0 x w g h w' g h:=by
 have hk:En g w g w':=fun b o hs=>by
  refine⟨hs,?_⟩;rcases hb b (hI.slt b o hs)with e | ⟨ob,aM,e1,e2,d1,d2⟩
  .grind [World.cell?]
  .refine⟨?_,fun es ck he=>?_⟩
   .simp only[World.cell?,e1,e2];cases ob<;>cases aM<;>first | rfl | (cases d1;done) | (cases d2;done)
   .rw[e1]at he;cases he;cases d1
 have Vq:∀r b,(h r).live->g.own r=some b->w'.heap[b]?=w.heap[b]?:=fun r b hl e=>by
  rcases hb b (hI.loc r b hl e).1 with e' | ⟨ob,aM,e1,_,d1,_⟩
  .exact e'
  .exact(N8 (hI.objs r) hl e e1 d1).elim
 refine⟨⟨rfl,rfl,rfl,Ai _,fun _ _ _=>rfl,fun b o hs=>AR (hI.slt b o hs) Fi,fun r=>?_,hI.inj,fun r b hl e=>⟨AR (hI.loc r b hl e).1 Fi,.inr ⟨r,hl,e⟩⟩,fun _ _ hs=>.inl hs,hI.glob.keep hk⟩,⟨ho.1,ho.2.1,ho.2.2,Fi,fun b oh hx _=>hn b oh hx,fun r b hl e=>.inr ⟨r,hl,e⟩,fun _ _ hs=>.inl hs,⟨.refl _ _,fun _ h=>h,hk⟩⟩⟩;exact(hI.objs r).same hk (fun _ h=>h) (.refl _ _) rfl rfl rfl rfl fun b hl e=>⟨Vq r b hl e,fun _ h=>h⟩
theorem Cm.put(hI:Cm w g h h g w){l:Nat}{o o' : Obj}(hl:w.heap[l]?=some o)(hd:Vb o=true)(jr : Vb o'=true)(hx:n0<=l\/l=x) :
  Cm (w.putObj l o') g h h g (w.putObj l o')/\X0 n0 x w g h (w.putObj l o') g h:=by
 grind [World.putObj,Cm.dullS]
theorem Cm.allocS(hI:Cm w g h h g w)(o:Obj)(hn:n0<=w.heap.size):Cm (w.alloc o) g h h g (w.alloc o)/\X0 n0 x w g h (w.alloc o) g h:=by
 refine hI.dullS ⟨rfl,rfl,rfl⟩ (by simp_all) (fun b hb=>.inl (heap_alloc_old _ _ hb)) (fun b hb _=>heap_alloc_old _ _ ch)
end
abbrev Hp(fn:FuncId)(tm:Array Value)(ps:Array Tmp)(Gf body:Code)(D:Nat)(s:LoopState):Loop:=
 { state:=s,pending:=none,fn:=fn,tmps:=tm,params:=ps,assign:=Gf,body:=body,defers:=D }
def kc:List Nat->List AV->(Nat->AV)->Nat->AV
 |p::ps,v::vs,e=>kc ps vs (IG e p v)
 |_,_,e=>e
section
variable {P:Program}{N:Nat}{w:World}{g:Gh}
theorem WC{U:Nat->Prop}:∀{ps:List Nat} {args:List AV} {vals:List Value} {tm:Array Value} {env:Nat->AV},vals.length=args.length->args.length=ps.length->(∀p∈ps,p<tm.size) ->
  (∀(i:Nat) (av:AV) (x:Value),args[i]?=some av->vals[i]?=some x->AT g w U av x)->(∀i,AT g w U (env i) (tm.getD i undef)) ->
  ((ps.zip vals).foldl (fun t p=>t.setIfInBounds p.1 p.2) tm).size=tm.size/\∀i,AT g w U (kc ps args env i) (((ps.zip vals).foldl (fun t p=>t.setIfInBounds p.1 p.2) tm).getD i undef)
 | [],args,vals,tm,env,_,h2,_,_,he=>by
  have:args=[]:=AI h2
  subst this;exact⟨rfl,he⟩
 |p::ps,[],vals,tm,env,_,h2,_,_,_=>by cases h2
 |p::ps,a::args,[],tm,env,h1,_,_,_,_=>by cases h1
 |p::ps,a::args,v::vals,tm,env,h1,h2,h3,h4,he=>by
  have hp:=h3 p (Ad ..)
  obtain⟨q1,q2⟩:=WC (ps:=ps) (args:=args) (vals:=vals) (tm:=tm.setIfInBounds p v) (env:=IG env p a) (by simp_all) (by simp_all) (fun q hq=>by simp_all)
   (fun i av x e1 e2=>h4 (i+1) av x (by simp_all) (by simp_all)) (fun i=>by
    by_cases e:i=p
    .subst e;have e1:IG env i a i=a:=by simp[IG]
     have e2:(tm.setIfInBounds i v).getD i undef=v:=by simp_all
     rw[e1,e2];exact h4 0 a v rfl rfl
    .have e1:IG env p a i=env i:=by grind [IG,CX]
     have e2:(tm.setIfInBounds p v).getD i undef=tm.getD i undef:=by
      simp[Array.getD_eq_getD_getElem?,Array.getElem?_setIfInBounds_ne (Ne.symm e)]
     simp_all)
  exact⟨by simp_all,q2⟩
def V4(P:Program)(Y:Gh->World->Prop)(σ:Ia)(f:Nat)(args:List AV)(h0:Nat->HO)(Q:AV->(Nat->HO)->Prop):Prop:=
 Fb P f/\∀(g:Gh) (w:World) (vals:Array Value),vals.size=args.length->(∀(i:Nat) (av:AV) (x:Value),args[i]?=some av->vals[i]?=some x->AT g w (Aw h0) av x) ->
  Cm w g h0 h0 g w->(∀h' g' w',Cm w g h0 h' g' w'->Le h0 g w h' g' w'->Y (Dk σ g') w') ->
  Calls P f vals w fun e w'=>∃v r h' g',e=.returned v/\Q r h'/\AT g' w' (Aw h') r v/\Cm w g h0 h' g' w'/\Le h0 g w h' g' w'
theorem gE{Y:Gh->World->Prop}{l:Nat}{f:Nat}{H0:List (Nat×HO)}{Q:AV->(Nat->HO)->Prop}(hP:cx.P=P)(hT:BQ P cx.T)(hm:P.follows .mixedOrders=true)(hx:cx.ext=true)(hf:P.funcs[f]?=some fn)(hn : (fn.name == "runtime.NumGoroutine") = false)(hb : fn.body = some c)(hN : args.length <= fn.ntmps)(hc : DS fn.ntmps c = true)(hσ : (Gk σ && HC σ H0) = true)(hy:cx.yp=fun l' σ' g w=>l'=l->σ'=σ->Y g w)(hk:Qj cx c (Wy cx fn.results.toList σ Q) ⟨NH args,Ae H0 Ab⟩):V4 P Y σ f args (Ae H0 Ab) Q:=
 ⟨⟨fn,hf,hn,by simp_all⟩,fun g w vals hs hv hI hp=>WQ cx σ hP hT hm hx hf hn hb hN hc hσ hk hs hv hI fun l' σ' h' g' w' _ q1 q2=>by
  grind⟩
end
def jJ(cx:Cx):Nat->Code->(Ex->St->Prop)->(Code->Code->St->Prop)->St->Prop
 |0,.seq (.seq a b) d,Q,K,st=>Qj cx a (fun e DV=>match e with |.normal=>K b d DV |e=>Q e DV) st
 |0,.seq b d,_,K,st=>K b d st
 |n+1,.seq a b,Q,K,st=>Qj cx a (fun e DV=>match e with |.normal=>jJ cx n b Q K DV |e=>Q e DV) st
 |_,_,_,_,_=>False
section
variable {P:Program}{N:Nat}{ds:List Deferred}{w0:World}{g0:Gh}{h0:Nat->HO}{st:St}{g:Gh}{a:Act}{w:World}
theorem jK{cx:Cx}(hP:cx.P=P)(hT:BQ P cx.T)(hm:P.follows .mixedOrders=true)(hE:Kq cx h0)(hY:∀l σ h g w,DM σ=true->Cm w0 g0 h0 h g w->Le h0 g0 w0 h g w->cx.yp l σ (Dk σ g) w)
  {Qa:Ex->St->Prop} {K:Code->Code->St->Prop} {Q:Exit->Act->World->Prop} (hQ:∀e st g a w,e≠.normal->Qa e st->SR N ds w0 g0 h0 st g a w->Q e.real a w)
  (hK:∀b d st g a w,K b d st->SR N ds w0 g0 h0 st g a w->b.wpIn (IM none) 0 P (Exit.then (d.wpIn (IM none) 0 P Q) Q) a w) :
  ∀(n:Nat) (c:Code),DS N c=true->∀{st:St} {g:Gh} {a:Act} {w:World},SR N ds w0 g0 h0 st g a w->jJ cx n c Qa K st->c.wpIn (IM none) 0 P Q a w:=by
 intro n
 induction n with
 |zero=>
  intro c hc st g a w hS hk;cases c with
  |seq y d=>
   simp only[DS,Ag]at hc;cases y with
   |seq x b=>
    have hk:Qj cx x (fun e DV=>match e with | .normal=>K b d DV | e=>Qa e DV) st:=hk;simp only[DS,Ag]at hc;refine wpIn_seq (wpIn_seq (MJ hP hT hm hE hY none x hc.1.1 (Qa:=fun e DV=>match e with | .normal=>K b d DV | e=>Qa e DV) (fun e st g a w q hS=>?_) hS hk));cases e with
    |normal=>exact hK b d _ _ _ _ q hS
    |exit id=>exact hQ (.exit id) _ _ _ _ (fun e=>by cases e) q hS
    |ret=>exact hQ .ret _ _ _ _ (fun e=>by cases e) q hS
   |_=>exact wpIn_seq (hK _ d _ _ _ _ hk hS)
  |_=>exact hk.elim
 |succ n ih=>
  intro c hc st g a w hS hk;cases c with
  |seq x y=>
   simp only[DS,Ag]at hc;refine wpIn_seq (MJ hP hT hm hE hY none x hc.1 (Qa:=fun e DV=>match e with | .normal=>jJ cx n y Qa K DV | e=>Qa e DV) (fun e st g a w q hS=>?_) hS hk);cases e with
   |normal=>exact ih y hc.2 hS q
   |exit id=>exact hQ (.exit id) _ _ _ _ (fun e=>by cases e) q hS
   |ret=>exact hQ .ret _ _ _ _ (fun e=>by cases e) q hS
  |_=>exact hk.elim
end
section
variable {P:Program}{N:Nat}{ds:List Deferred}{w0:World}{g0:Gh}{h0:Nat->HO}{st:St}{g:Gh}{a:Act}{w:World}
theorem SR.rebase{w1:World}{g1:Gh}{h1:Nat->HO}(hS:SR N ds w0 g0 h0 st g a w)(hI:Cm w1 g1 h1 st.h g w)(hL:Le h1 g1 w1 st.h g w):SR N ds w1 g1 h1 st g a w:=⟨hI,hL,hS.dfs,hS.size,hS.slots⟩
theorem aO{cx:Cx}(hT:BQ P cx.T){H0:List (Nat×HO)}{σ:Ia}(hσ:Gk σ=true)(oL:HC σ H0=true){Q:AV->(Nat->HO)->Prop}(hS:SR N ds w0 g0 (Ae H0 Ab) st g a w)(hk:dn cx st fn.results.toList σ Q) :
  ∃v,(results fn a.tmps).run P w=.ok v w/\∃r h' g',Q r h'/\AT g' w (Aw h') r v/\Cm w0 g0 (Ae H0 Ab) h' g' w/\Le (Ae H0 Ab) g0 w0 h' g' w:=by
 obtain⟨g2,i1,i2⟩:=LQ cx.pl.fin hS.inv;have RH : SR N ds w0 g0 (Ae H0 Ab) ⟨st.t,NS st.h cx.pl.fin⟩ g2 a w:=⟨i1,hS.le.trans i2,hS.dfs,hS.size,fun i=>(hS.slots i).le i2⟩;obtain⟨l,vs,h1,h2,h3,h4,h5⟩:=QJ hT RH _ hk;obtain⟨hR,j1,j2⟩:=NK hσ oL i1 RH.le;have Ca:(results fn a.tmps).run P w=.ok (if h:vs.toArray.size=1 then vs.toArray[0]else .tuple vs.toArray) w:=by
  rw[M7,show fn.results=fn.results.toList.toArray by simp,List.mapM_toArray];simp_all
 match l,vs,h1,h3,h5,Ca with
 | [v],[x],h1,h3,h5,Ca=>exact⟨x,by simp_all,_,_,_,h1,(h5 0 v x rfl rfl).ren hR,j1,j2⟩
 | [],vs,h1,h3,h5,Ca=>
  have:vs=[]:=AI h3
  subst this;exact⟨.tuple #[],by simp_all,_,_,_,h1,AT.ren hR (.tup _ [] _ rfl fun i av x q=>by simp_all),j1,j2⟩
 |v::v' :: l,vs,h1,h3,h5,Ca=>
  refine⟨.tuple vs.toArray,?_,_,_,_,h1,AT.ren hR (.tup _ _ _ ch fun i av x q1 q2=>h5 i av x q1 (by simp_all)),j1,j2⟩;simp_all
theorem pj{mn s:Nat}{rest:Code}(hP:cx.P=P)(hT:BQ P cx.T)(hm:P.follows .mixedOrders=true)(hx:cx.ext=true){σ:Ia}{H0 Hn:List (Nat×HO)}(hσ:(Gk σ&&HC σ H0)=true)(hσn:HC σ Hn=true){env:Nat->AV}{gf:Nat}{caps:List AV}(hF:env s=.clo gf caps){Qv:AV->(Nat->HO)->Prop}(hIT:∀(l D:Nat) (f' : FuncId) (tm:Array Value),tm.size=N->V4 P (fun g w=>w.heap[l]?=some (.loop (Hp f' tm ps Gf body D .ready))/\∀i,AT g w (Aw (Ae H0 Ab)) (env i) (tm.getD i undef)) σ gf
   (.v (.func (.yield l) #[] #[])::caps) (Ae H0 Ab) fun _ h'=>h'=Ae Hn Ab)(hcr:DS N rest=true)(hbk:Nu [] body=false)(ax:Qj cx rest (Wy cx fn.results.toList σ Qv) ⟨env,Ae Hn Ab⟩)(hY:∀l σ g w,cx.yp l σ g w){a:Act}(ha:a.defers=[])(hN:a.tmps.size=N)(hI:Cm w g (Ae H0 Ab) (Ae H0 Ab) g w)(MU:∀i,AT g w (Aw (Ae H0 Ab)) (env i) (a.tmps.getD i undef)){R:Ending->World->Prop}(hR:∀v r h' g' w',Qv r h'->AT g' w' (Aw h') r v->Cm w g (Ae H0 Ab) h' g' w'->Le (Ae H0 Ab) g w h' g' w'->R (.returned v) w') :
  (Code.block mn (.rangeFunc (.tmp s) ps Gf body)).wpIn (IM none) 0 P (Exit.then (rest.wpIn (IM none) 0 P (bodyPostM (IM none) 0 P fn R)) (bodyPostM (IM none) 0 P fn R)) a w:=by
 simp only[Ag]at hσ;have hdl:∀f' tm D s,Vb (.loop (Hp f' tm ps Gf body D s))=true:=fun _ _ _ _=>by show(!Nu [] body)=true;simp_all
 refine wpIn_block (wpIn_rangeFunc fun f' _=>?_);have hs:=MU s;rw[hF]at hs;have mB:a.eval (.tmp s)=a.tmps.getD s undef:=rfl;generalize hfv:a.tmps.getD s undef=fv at hs mB;cases hs with
 |clo _ _ _ lb Fi KG=>
 obtain⟨i0,s0⟩:=hI.allocS (n0:=w.heap.size) (x:=w.heap.size) (.deferred (some [])) (Ai _);obtain⟨i1,s1⟩:=i0.allocS (n0:=w.heap.size) (x:=w.heap.size) (.loop (Hp f' a.tmps ps Gf body w.heap.size .ready)) (by simp_all);generalize hW:(w.alloc (.deferred (some []))).alloc (.loop (Hp f' a.tmps ps Gf body w.heap.size .ready))=W1 at i1 s1;have Acp:W1.heap.size=w.heap.size+2:=by grind [World.size_alloc]
 have hl:W1.heap[w.heap.size+1]?=some (.loop (Hp f' a.tmps ps Gf body w.heap.size .ready)):=by
  grind [World.alloc_heap_new]
 have hD:W1.heap[w.heap.size]?=some (.deferred (some [])):=by
  grind [heap_alloc_old,World.alloc_heap_new]
 have NW:∀b ob,W1.heap[b]?=some ob->Vb ob=true->∀r,((Ae H0 Ab) r).live->g.own r≠some b:=fun b ob hb hd r hr e=>N8 (i1.objs r) hr e hb hd;have S1:=s0.trans s1;have hit:=hIT (w.heap.size+1) w.heap.size f' a.tmps hN
 refine⟨w.heap.size+1,[{ target:=.collected w.heap.size,args:=#[] }],W1,{ target:=.fn (.func gf) lb,args:=#[.func (.yield (w.heap.size+1)) #[] #[]] },W1,gf,
  #[.func (.yield (w.heap.size+1)) #[] #[]]++lb,W1,?_,?_,fun _ _=>trivial,?_,fun e=>(by cases e),?_⟩
 .grind [run_enterLoop_outer]
 .simp only[resolve,mB];simp[go_sem]
 .simp only[invoke];rw[F7 hit.1]
 refine callsIn_wide.2 ((hit.2 g W1 _ (by grind) (fun i av x e1 e2=>?_) i1 (fun h' g' w' q1 q2=>?_)).mono ?_)
 .cases i with
  |zero=>
   grind [AT.v]
  |succ i=>
   grind [AT.le,X0.le]
 .obtain⟨_,_,j2⟩:=NK hσ.1 hσ.2 q1 q2;refine⟨(q1.frame _ ch (NW _ _ hl (hdl _ _ _ _))).trans hl,fun i=>?_⟩;exact((MU i).le S1.le).mono j2.keeps (fun _ h=>h) j2.gh
 rintro e w2 ⟨v,r,h',g2,rfl,rfl,_,q3,q4⟩
 have cy:w2.heap[w.heap.size+1]?=some (.loop (Hp f' a.tmps ps Gf body w.heap.size .ready)):=(q3.frame _ ch (NW _ _ hl (hdl _ _ _ _))).trans hl;have hD2:w2.heap[w.heap.size]?=some (.deferred (some [])):=(q3.frame _ ch (NW _ _ hD rfl)).trans hD;refine⟨none,_,run_endLoop cy (fun e=>by cases e),?_⟩;obtain⟨i4,s4⟩:=q3.base.put (n0:=w.heap.size) (x:=w.heap.size) (o':=.loop { Hp f' a.tmps ps Gf body w.heap.size .ready with state:=.exhausted }) cy (hdl _ _ _ _) (hdl f' a.tmps w.heap.size .exhausted) (.inl ch);have S4:=(S1.trans (X0.of_inv q3 q4 ch)).trans s4;generalize hW4:w2.putObj (w.heap.size+1) (.loop { Hp f' a.tmps ps Gf body w.heap.size .ready with state:=.exhausted })=w4 at i4 s4 S4;have vR:w4.heap[w.heap.size]?=some (.deferred (some [])):=by grind [World.putObj_heap_other]
 have hE:Kq cx (Ae Hn Ab):=by unfold Kq;rw[hx];exact fun i hi=>⟨(FP hσn i hi).1,(FP hσn i hi).2.1⟩
 have hS4:SR N [{ target:=.collected w.heap.size,args:=#[] }] w4 g2 (Ae Hn Ab) ⟨env,Ae Hn Ab⟩ g2 { a with defers:=[{ target:=.collected w.heap.size,args:=#[] }]++a.defers } w4:=
  ⟨i4,.refl _ _ _,by simp_all,hN,fun i=>(MU i).le S4.le⟩
 refine MJ hP hT hm hE (fun l σ _ _ w _ _ _=>hY l σ _ w) none rest hcr (fun e yE g5 a5 w5 hq my=>?_) hS4 ax;have fin:dn cx yE fn.results.toList σ Qv->LeavesInM (IM none) 0 P fn a5.tmps R a5.defers .returning w5:=by
  intro hk;have y6:w5.heap[w.heap.size]?=some (.deferred (some [])):=(my.inv.frame _ (BH.1 vR).1 (fun r hr e=>N8 (i4.objs r) hr e vR rfl)).trans vR;rw[my.dfs];refine⟨by simp,.inl ⟨w.heap.size,_,rfl,run_takeDeferred y6,?_⟩⟩;obtain⟨i6,s6⟩:=my.inv.base.put (n0:=w.heap.size) (x:=w.heap.size) (o':=.deferred none) y6 rfl rfl (.inr rfl);have hS6:SR N [{ target:=.collected w.heap.size,args:=#[] }] (w5.putObj w.heap.size (.deferred none)) g5 yE.h yE g5 a5 (w5.putObj w.heap.size (.deferred none)):=⟨i6,.refl _ _ _,my.dfs,my.size,fun i=>(my.slots i).le s6.le⟩;have S6:=(S4.trans (X0.of_inv my.inv my.le (AH (Ai _) S4.size))).trans s6;obtain⟨v,k2,r,h7,g7,k1,k5,k3,k4⟩:=aO (H0:=H0) hT hσ.1 hσ.2 (SR.rebase hS6 (i6.of_seg S6 fun h=>absurd h (Nat.lt_irrefl _)) S6.le) hk;exact⟨v,k2,hR v r h7 g7 _ k1 k5 k3 k4⟩
 cases e with
 |normal=>exact fin hq
 |ret=>exact fin hq
 |exit id=>exact hq.elim
end
section
variable {P:Program}{N:Nat}{w:World}{g:Gh}
theorem dU(o k r:Nat){H:List (Nat×HO)}(cx:Cx)(hP:cx.P=P)(hT:BQ P cx.T)(hm:P.follows .mixedOrders=true)(hx:cx.ext=true){σ:Ia}(hσ:(Gk σ&&HC σ H)=true){fn:FuncId}{tm:Array Value}{D l:Nat}{env:Nat->AV}{U:Nat->Prop}{Q:AV->(Nat->HO)->Prop}(zR:args.length=ps.toList.length)(hN:tm.size=N)(hpN:(ps.toList.all fun p=>Nat.blt p N)=true)(hca:DS N Gf=true)(wm:DS N body=true)(hU:∀i,U i->Aw (Ae H Ab) i)(hk:Qj cx Gf (fun e st=>match e with | .normal=>Qj cx body (fun e st=>match e with | .normal=>ut st.h o k r fun h'=>Q (.v (.bool true)) (EW σ (NS h' cx.pl.fin)) | _=>False) st | _=>False) ⟨kc ps.toList args env,Ae H Ab⟩)(hY:∀l σ g w,cx.yp l σ g w:=by exact fun _ _ _ _=>trivial)(hbk:Nu [] body=false:=by kernel_rfl) :
  H1 P (fun g w=>w.heap[l]?=some (.loop (Hp fn tm ps Gf body D .ready))/\∀i,AT g w U (env i) (tm.getD i undef)) l args (Ae H Ab) Q:=by
 simp only[Ag]at hσ;intro g w vals hs hv hI ⟨hl,MU⟩;have Ez:l<w.heap.size:=(BH.1 hl).1;have hdl:∀s,Vb (.loop (Hp fn tm ps Gf body D s))=true:=fun s=>by show(!Nu [] body)=true;simp_all
 have hE:Kq cx (Ae H Ab):=by unfold Kq;rw[hx];exact fun i hi=>⟨(FP hσ.2 i hi).1,(FP hσ.2 i hi).2.1⟩
 have NW:∀r,((Ae H Ab) r).live->g.own r≠some l:=fun r hr e=>N8 (hI.objs r) hr e hl (hdl _);have zq:∀(t0:Array Value),(ps.zip vals).foldl (fun tmps (p:Nat×Value)=>tmps.setIfInBounds p.1 p.2) t0=(ps.toList.zip vals.toList).foldl (fun t p=>t.setIfInBounds p.1 p.2) t0:=fun t0=>by
  grind [Array.toList_zip]
 have hry:=run_yield (P:=P) (args:=vals) hl (by simp_all);refine⟨fn,_,Gf,body,hry,roundIn_of_wpIn trivial ?_⟩;obtain⟨z1,z2⟩:=WC (U:=Aw (Ae H Ab)) (ps:=ps.toList) (args:=args) (vals:=vals.toList) (tm:=tm) (env:=env) ch zR (fun p hp=>by
  grind [Nat.blt_eq]) (fun i av x e1 e2=>hv i av x e1 (by simp_all)) (fun i=>(MU i).mono (.refl _ _) hU (.refl _ _))
 have hS0:SR N [] w g (Ae H Ab) ⟨kc ps.toList args env,Ae H Ab⟩ g { tmps:=(ps.zip vals).foldl (fun tmps (p:Nat×Value)=>tmps.setIfInBounds p.1 p.2) tm,defers:=[] } w:=by
  grind [SR.mk,Le.refl]
 refine MJ hP hT hm hE (fun l σ _ _ w _ _ _=>hY l σ _ w) (some l) Gf hca (fun e st1 g1 a1 w1 hq ku=>?_) hS0 hk;cases e with
 |exit _=>simp_all
 |ret=>simp_all
 |normal=>
  have wJ:w1.heap[l]?=some (.loop (Hp fn tm ps Gf body D .ready)):=(ku.inv.frame l Ez NW).trans hl;refine⟨_,run_beginRound wJ rfl,?_⟩;obtain⟨iS,sS⟩:=hI.put (n0:=w.heap.size) (x:=l) (o':=.loop (Hp fn tm ps Gf body D .busy)) hl (hdl _) (hdl _) (.inr rfl);have zB:(w.putObj l (.loop (Hp fn tm ps Gf body D .busy))).heap[l]?=some (.loop (Hp fn tm ps Gf body D .busy)):=World.putObj_heap_same Ez;have xj:(w.putObj l (.loop (Hp fn tm ps Gf body D .busy))).heap.size=w.heap.size:=by simp_all
  obtain⟨_,sB⟩:=iS.dullS (w':=w) (n0:=w.heap.size) (x:=l) ⟨rfl,rfl,rfl⟩ ch (fun b _=>by
   grind [World.putObj_heap_other]) (fun b _ DT=>(World.putObj_heap_other DT).symm)
  obtain⟨i2,s2⟩:=ku.inv.base.put (n0:=w.heap.size) (x:=l) (o':=.loop (Hp fn tm ps Gf body D .busy)) wJ (hdl _) (hdl _) (.inr rfl);have S2:=(sB.trans (X0.of_inv ku.inv ku.le (Ai _))).trans s2;have cy:(w1.putObj l (.loop (Hp fn tm ps Gf body D .busy))).heap[l]?=some (.loop (Hp fn tm ps Gf body D .busy)):=World.putObj_heap_same (BH.1 wJ).1;have hI2:=i2.of_seg (by rw[xj];exact S2) (fun _=>cy.trans zB.symm);have hS2:SR N [] (w.putObj l (.loop (Hp fn tm ps Gf body D .busy))) g (Ae H Ab) st1 g1 a1 (w1.putObj l (.loop (Hp fn tm ps Gf body D .busy))):=⟨hI2,S2.le,ku.dfs,ku.size,fun i=>(ku.slots i).le s2.le⟩;refine MJ hP hT hm hE (fun l σ _ _ w _ _ _=>hY l σ _ w) (some l) body wm (fun e st3 g3 a3 w3 hq qZ=>?_) hS2 hq;cases e with
  |exit _=>simp_all
  |ret=>simp_all
  |normal=>
   obtain⟨h3,g3',qZ,hq⟩:=iQ qZ hq;have tV:w3.heap[l]?=some (.loop (Hp fn tm ps Gf body D .busy)):=(qZ.inv.frame l ch NW).trans zB;refine⟨.bool true,w3.putObj l (.loop (Hp fn tm ps Gf body D .ready)),run_endRound none tV,?_⟩;obtain⟨gf,if1,if2⟩:=LQ cx.pl.fin qZ.inv;obtain⟨i4,s4⟩:=if1.base.put (n0:=w.heap.size) (x:=l) (o':=.loop (Hp fn tm ps Gf body D .ready)) tV (hdl _) (hdl _) (.inr rfl);have S4:=(sS.trans (X0.of_inv if1 (qZ.le.trans if2) ch)).trans s4;have hl4:(w3.putObj l (.loop (Hp fn tm ps Gf body D .ready))).heap[l]?=some (.loop (Hp fn tm ps Gf body D .ready)):=World.putObj_heap_same (BH.1 tV).1;have hI4:=i4.of_seg S4 (fun _=>hl4.trans hl.symm);obtain⟨_,j1,j2⟩:=NK hσ.1 hσ.2 hI4 S4.le;exact⟨.bool true,.v (.bool true),_,_,rfl,hq,.v _ _,j1,j2⟩
end
def p7(h:Nat->HO)(o k r sz:Nat)(K:(Nat->HO)->Prop):Prop:=
 match h o with
 |.cells cs=>match IC cs k with
  |.v (.slice none 0 0)=>match h r with
   |.free=>K (Az (Az h r (.var sz 0 0)) o (.cells (Eb cs k (.slice (.ver r sz 0) []))))
   |_=>False
  |_=>False
 |_=>False
section
variable {P:Program}{N:Nat}{ds:List Deferred}{w0:World}{g0:Gh}{h0:Nat->HO}{st:St}{g:Gh}{a:Act}{w:World}
theorem oZ(hS:SR N ds w0 g0 h0 st g a w){o k r sz:Nat}{K:(Nat->HO)->Prop}(hk:p7 st.h o k r sz K):∃h' g',SR N ds w0 g0 h0 ⟨st.t,h'⟩ g' a w/\K h':=by
 unfold p7 at hk;split at hk
 .rename_i cs e0;split at hk
  .rename_i e1;split at hk
   .rename_i hf;have pR:o≠r:=fun e=>by simp_all
    have Tq:=Ip cs k _ e1 B0
    obtain⟨m1,m2⟩:=hS.inv.upd r (.var sz 0 0) (.slice none 0 0) 0 true none g.S w none ⟨rfl,rfl,rfl,Ai _⟩ (fun _ _ _=>rfl) (fun b e=>by cases e) (fun _ _ h=>h) (fun _ _ h=>.inl h) (fun b o e=>by cases e) (fun b hh e=>by simp_all) B0
     (fun hu=>absurd hf hu) (fun _ _=>by
      obtain⟨u1,u2,u3,u4⟩:=Ba g r (.slice none 0 0) 0 true none g.S;exact⟨u3,u2,none,0,u1,.inl ⟨rfl,u4⟩⟩)
    generalize ct:g.upd r (.slice none 0 0) 0 true none g.S=g1 at m1 m2;have gr:g1.tk r=true/\g1.ln r=0/\g1.ρ r=.slice none 0 0:=by grind [Gh.upd]
    have nW : (Az st.h r (.var sz 0 0)) o=.cells cs:=by grind [BB]
    obtain⟨g3,p1,p2⟩:=Nv m1 nW Tq (new:=.slice (.ver r sz 0) []) (fun y hy=>by
     grind [Aw,AM,cases AT,AT.ver,AT.snil])
    exact⟨_,g3,⟨p1,hS.le.trans (m2.trans p2),hS.dfs,hS.size,fun i=>(hS.slots i).le (m2.trans p2)⟩,hk⟩
   simp_all
  simp_all
 simp_all
def uy(o k r sz:Nat)(bS:Cx)(P:Program)(N:Nat)(fn:Func)(σ:Ia)(Q:AV->(Nat->HO)->Prop)(b rest:Code)(st:St):Prop:=
 p7 st.h o k r sz fun h1=>
  ∃(σF σr:Ia) (H0 Hn:List (Nat×HO)) (mn s:Nat) (ps:Array Tmp) (Gf body:Code) (gf:Nat) (caps:List AV),
  b=.block mn (.rangeFunc (.tmp s) ps Gf body)/\(DM σF&&Du h1 0 0&&Cv σF 0 0)=true/\EW σF h1=Ae H0 Ab/\(Gk σr&&HC σr H0)=true/\HC σr Hn=true /\
  ren (BY σF) h1 (st.t s)=.clo gf caps /\
  (∀(l D:Nat) (f' : FuncId) (tm:Array Value),tm.size=N->V4 P (fun g w=>w.heap[l]?=some (.loop (Hp f' tm ps Gf body D .ready))/\∀i,AT g w (Aw (Ae H0 Ab)) (ren (BY σF) h1 (st.t i)) (tm.getD i undef)) σr gf
   (.v (.func (.yield l) #[] #[])::caps) (Ae H0 Ab) fun _ h'=>h'=Ae Hn Ab) /\
  DS N rest=true/\Nu [] body=false/\Qj bS rest (Wy bS fn.results.toList σr fun r h'=>Q (ren (BY σ) (Dx σF 0 0 h1 h') (ren (ED σF 0 0) h' r)) (EW σ (Dx σF 0 0 h1 h')))
   ⟨fun i=>ren (BY σF) h1 (st.t i),Ae Hn Ab⟩
theorem bv (o k r sz : Nat){f : Nat}{args : List AV}{H : List (Nat × HO)}{Q : AV -> (Nat -> HO) -> Prop}(cx bS : Cx)(σ : Ia)(hP : cx.P = P)(hT : BQ P cx.T)(hP2 : bS.P = P)(hT2 : BQ P bS.T)(hm : P.follows .mixedOrders = true)(hx : cx.ext = true)(pX : bS.ext = true)(hf : P.funcs[f]? = some fn)(hn : (fn.name == "runtime.NumGoroutine") = false)(hb:fn.body=some c)(hN:args.length<=fn.ntmps)(hc:DS fn.ntmps c=true)(hσ:(Gk σ&&HC σ H)=true)(n:Nat)(hk:jJ cx n c (Wy cx fn.results.toList σ fun r h'=>∃r',DC r r'/\Q r' h') (uy o k r sz bS P fn.ntmps fn σ fun r h'=>∃r',DC r r'/\Q r' h') ⟨NH args,Ae H Ab⟩)(hY:∀l σ g w,cx.yp l σ g w:=by exact fun _ _ _ _=>trivial)(hY2:∀l σ g w,bS.yp l σ g w:=by exact fun _ _ _ _=>trivial):AW P f args (Ae H Ab) Q:=by
 refine AW.mono (Q:=fun r h'=>∃r',DC r r'/\Q r' h') ?_ fun _ _ ⟨r',s,q⟩=>⟨r',s,q⟩;simp only[Ag]at hσ;refine⟨⟨fn,hf,hn,by simp_all⟩,fun g w vals hs hv hI=>callsIn_wide.1 (callsIn_of_wp_marks (F:=Fence.wide) (n:=0) hf hb trivial ?_ rfl)⟩;have hE:Kq cx (Ae H Ab):=by unfold Kq;rw[hx];exact fun i hi=>⟨(FP hσ.2 i hi).1,(FP hσ.2 i hi).2.1⟩
 have hS:SR fn.ntmps [] w g (Ae H Ab) ⟨NH args,Ae H Ab⟩ g { tmps:=vals++Array.replicate (fn.ntmps-vals.size) undef,defers:=[] } w:=by
  refine⟨hI,.refl _ _ _,rfl,by simp_all,fun i=>?_⟩
  have:=NJ (n:=fn.ntmps-vals.size) (args:=args) (vals:=vals.toList) ch (fun i av x q1 q2=>hv i av x q1 (by simp_all)) i
  grind [Array.getD_eq_getD_getElem?,Array.toList_append,Array.toList_replicate]
 refine jK hP hT hm hE (fun l σ _ _ w _ _ _=>hY l σ _ w) (fun e st g' a w' DT hk hS=>?_) (fun b rest st g' a w' hk hS=>?_) n c hc hS hk
 .have out:dn cx st fn.results.toList σ (fun r h'=>∃r',DC r r'/\Q r' h')->LeavesInM (IM none) 0 P fn a.tmps (fun e w'=>∃v r h' g',e=Ending.returned v/\(∃r',DC r r'/\Q r' h')/\AT g' w' (Aw h') r v/\Cm w g (Ae H Ab) h' g' w'/\Le (Ae H Ab) g w h' g' w') a.defers .returning w':=by
   intro hk;obtain⟨v,q2,r,h',g2,q1,q3,q4,q5⟩:=aO hT hσ.1 hσ.2 hS hk;rw[hS.dfs];exact⟨v,q2,v,r,h',g2,rfl,q1,q3,q4,q5⟩
  cases e with
  |normal=>simp_all
  |ret=>exact out hk
  |exit id=>exact hk.elim
 .obtain⟨h1,g',hS,hk⟩:=oZ hS hk;obtain⟨σF,σr,H0,Hn,mn,s,ps,Gf,body,gf,caps,rfl,k1,k2,k3,k4,k5,k6,k7,k9,k8⟩:=hk;have hσF:DM σF=true:=by simp_all
  obtain⟨vT,y7⟩:=Vk hS.inv hσF;rw[k2]at y7;have MU:∀i,AT (Dk σF g') w' (Aw (Ae H0 Ab)) (ren (BY σF) h1 (st.t i)) (a.tmps.getD i undef):=fun i=>by
   have:=(hS.slots i).ren vT
   simp_all
  refine LK (Q:=fun r h'=>∃r',DC (ren (BY σ) (Dx σF 0 0 h1 h') (ren (ED σF 0 0) h' r)) r'/\Q r' (EW σ (Dx σF 0 0 h1 h'))) (C:=fun R'=>(∀e bn,R' e bn->(∃v r h' g',e=Ending.returned v/\(∃r',DC r r'/\Q r' h')/\AT g' bn (Aw h') r v/\Cm w g (Ae H Ab) h' g' bn/\Le (Ae H Ab) g w h' g' bn)) ->
   (Code.block mn (.rangeFunc (.tmp s) ps Gf body)).wpIn (IM none) 0 P (Exit.then (rest.wpIn (IM none) 0 P (bodyPostM (IM none) 0 P fn (fun e bn=>∃v r h' g',e=Ending.returned v/\(∃r',DC r r'/\Q r' h')/\AT g' bn (Aw h') r v/\Cm w g (Ae H Ab) h' g' bn/\Le (Ae H Ab) g w h' g' bn))) (bodyPostM (IM none) 0 P fn (fun e bn=>∃v r h' g',e=Ending.returned v/\(∃r',DC r r'/\Q r' h')/\AT g' bn (Aw h') r v/\Cm w g (Ae H Ab) h' g' bn/\Le (Ae H Ab) g w h' g' bn))) a w')
   (fun h k h2=>h fun e w r=>h2 _ _ (k _ _ r)) hS.inv (d:=0) (nn:=0) k1 (fun _ mL=>?_) (fun v r h' g2 w2 q1 q2 q3 q4=>?_) (fun _ _ h=>h)
  .rw[k2]at mL;exact pj bS hP2 hT2 hm pX k3 k4 k5 k6 k7 k9 k8 hY2 hS.dfs hS.size y7 MU fun v r h' g5 w5 q1 q2 q3 q4=>mL _ _ ⟨v,r,h',g5,rfl,q1,q2,q3,q4⟩
  .obtain⟨hR,j1,j2⟩:=NK hσ.1 hσ.2 q2 (hS.le.trans q3);exact⟨v,_,_,_,rfl,q1,q4.ren hR,j1,j2⟩
end
end Go.Eng
namespace Go.Eng
open Go.Sort
end Go.Eng
namespace Go.Eng
end Go.Eng
