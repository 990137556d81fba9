/- Lemmas 13. -/
import Derived.Test.YtkjhcikodmiceaaGreatDoorMA12
import Derived.Below
import Derived.RangeFuncLeaves
import Derived.RangeFuncNested
namespace Go.Eng
section
variable {P:Program}
theorem Bi{f:Nat}{fn:Func}{c:Code}{args:List AV}{H0:List (Nat×HO)}{Q:AV->(Nat->HO)->Prop}(cx:Cx)(σ:JD)(hP:cx.P=P)(hT:Cc P cx.T)(hm:P.follows .mixedOrders=true)(hx:cx.ext=true)(hf:P.funcs[f]?=some fn)
  (hn : (fn.name == "runtime.NumGoroutine")=false) (hb : fn.body=some c) (hN : args.length <= fn.ntmps) (hc : EL fn.ntmps c=true) (hσ : (Hp σ && I8 σ H0)=true)
  (hk:Rg cx c (aA cx fn.results.toList σ fun r h'=>∃r',CD r r'/\Q r' h') ⟨PZ args,Ai H0 Af⟩) (hY:∀l σ g w,cx.yp l σ g w:=by exact fun _ _ _ _=>trivial):A6 P f args (Ai H0 Af) Q:=
 (nh cx σ hP hT hm hx hf hn hb hN hc hσ hk hY).mono fun _ _ ⟨r',s,q⟩=>⟨r',s,q⟩
end
end Go.Eng
namespace Go.Eng
open Go.Sort
theorem Ci.append{g:D}{w:World}{U:Nat->Prop}{Wl bs:List AV}{xs ys:List Value}(h:Ci g w U Wl xs)(k:Ci g w U bs ys):Ci g w U (Wl++bs) (xs++ys):=by
 refine⟨by rw[AD,AD,h.1,k.1],fun x hx=>?_,fun i av x q1 q2=>?_⟩
 .rcases Bc.1 hx with hx | hx
  .exact h.2.1 x hx
  .exact k.2.1 x hx
 .have hl:=h.1
  by_cases hi:i<Wl.length
  .rw[Ee hi]at q1;rw[Ee Wk]at q2;exact h.2.2 i av x q1 q2
  .rw[BO Wk]at q1;rw[BO Wk,hl]at q2;exact k.2.2 _ av x q1 q2
theorem Ci.take{g:D}{w:World}{U:Nat->Prop}{Wl:List AV}{xs:List Value}(h:Ci g w U Wl xs)(k:Nat):Ci g w U (Wl.take k) (xs.take k):=by
 refine⟨by rw[BX,BX,h.1],fun x hx=>h.2.1 x (EJ hx),fun i av x q1 q2=>?_⟩;rw[List.getElem?_take]at q1 q2;split at q1
 .rename_i hi;rw[A1 hi]at q2;exact h.2.2 i av x q1 q2
 simp_all
theorem Ci.drop{g:D}{w:World}{U:Nat->Prop}{Wl:List AV}{xs:List Value}(h:Ci g w U Wl xs)(k:Nat):Ci g w U (Wl.drop k) (xs.drop k):=by
 refine⟨by rw[TT,TT,h.1],fun x hx=>h.2.1 x (I1 hx),fun i av x q1 q2=>?_⟩;rw[Gf]at q1 q2;exact h.2.2 _ av x q1 q2
theorem LN{α:Type}{k:Nat}:∀(es:List (List α)) (i:Nat),(∀e∈es,e.length=k)->es.flatten.take (i*k)=(es.take i).flatten
 | [],i,_=>by simp
 |e::es,0,_=>by simp
 |e::es,i+1,h=>by
  have he:=h e (Ah ..);rw[Cs,List.take_succ_cons,Cs,List.take_append,<-LN es i fun x hx=>h x (Aj _ hx),A3 aa2,he,show(i+1)*k-k=i*k by grind]
theorem Qg{α:Type}{k:Nat}:∀(es:List (List α)) (i:Nat),(∀e∈es,e.length=k)->es.flatten.drop (i*k)=(es.drop i).flatten
 | [],i,_=>by simp
 |e::es,0,_=>by simp
 |e::es,i+1,h=>by
  have he:=h e (Ah ..);rw[Cs,List.drop_succ_cons,List.drop_append,<-Qg es i fun x hx=>h x (Aj _ hx),Eb aa2,he,show(i+1)*k-k=i*k by grind,GK]
section
variable {P:Program}
theorem WI{f:Nat}{es:C0}{sz:Nat}{rest:List Value}{n' : Nat}{Q:C0->Prop}(hE:Gt P f)(ER:es≠[])(kc : n'<=es.length)
  (h1:∀(g:D) (w:World) (b cap:Nat) (F:Array Value),Ci g w FK es.flatten F.toList->F.size=es.length*sz->Holds id w b 0 F->b<w.heap.size->es.length<=cap->Calls P f (#[.slice (some ⟨b,0,none⟩) es.length cap]++rest.toArray) w fun e w'=>
   e=.returned (.slice (some ⟨b,0,none⟩) n' cap)/\∃(F' : Array Value) (FX : C0) (n:Nat) (os:Array Obj),F'.size=F.size/\Q FX/\FX.length=es.length/\(∀cs∈FX,cs.length=sz) /\
    (∀(g:D) (w:World),Ci g w FK es.flatten F.toList->Ci g w FK FX.flatten F'.toList)/\w'=grow (putRow id (Sort.ahead w n) b 0 F') os) :
  A6 P f (.msl 1000 es.length::rest.map .v) (Ai [(1000,.arr sz es)] Af) fun r h'=>r=.msl 2000 n'/\∃FX,Q FX/\h'=Ai [(1000,.dead),(2000,.arr sz (FX.take n'))] Af:=by
 refine⟨hE,fun g w us hs hv hI=>?_⟩;have ho:=hI.objs 1000;have he:Ai [(1000,HO.arr sz es)] Af 1000=.arr sz es:=rfl;rw[he]at ho;obtain⟨t1,l1,al,a2⟩:=ho;simp only[Ec,BG]at hs;have hu0:0<us.size:=Wk
 have yt:=hv 0 (.msl 1000 es.length) us[0] rfl (DA hu0);have hval:us[0]=g.ρ 1000:=by
  grind [cases O]
 have Oa:us=#[g.ρ 1000]++rest.toArray:=by
  refine Array.ext aa0 fun i h1 h2=>?_;cases i with
  |zero=>simp_all
  |succ i=>
   have hi:i<rest.length:=Wk
   have:=hv (i+1) (.v rest[i]) us[i+1] aa0 (DA h1)
   rw[this.v_eq];simp
 rw[Oa];rcases a2 with ⟨b1,b2,b3⟩ | ⟨b,cap,E,vs,b1,b2,b3,b4,b5,b6,b7⟩
 .simp_all
 .have hl:(Ai [(1000,HO.arr sz es)] Af 1000).live:=trivial;have E4:=(hI.loc 1000 b hl b2).1;have JP:es.length*sz<=vs.size:=by rw[b5];exact BB _ b3
  have hF:((vs.toList.take (es.length*sz)).toArray).size=es.length*sz:=aa0
  have hH:Holds id w b 0 (vs.toList.take (es.length*sz)).toArray:=fun j hj=>by
   grind [World.cell?,World.frozen?]
  rw[b1];refine(h1 g w b cap _ Wk hF hH E4 b3).mono ?_
  rintro e w' ⟨rfl,F',FX,n,os,f1,f2,f3,f4,f5,rfl⟩
  have zQ : F'.size=es.length*sz:=f1.trans hF;have hpt:=Ov F' vs Wk;have wB : (grow (putRow id (Sort.ahead w n) b 0 F') os).heap[b]?=some (.cells (putCells id 0 F' vs) E (0,0)):=by
   rw[heap_grow_old _ _ aa0];show(w.heap.modify b (onCells (putCells id 0 F')))[b]?=_;rw[Array.getElem?_modify,A1 rfl,b4];rfl
  have hob:∀k,k<w.heap.size->k≠b->(grow (putRow id (Sort.ahead w n) b 0 F') os).heap[k]?=w.heap[k]?:=fun k hk ER=>by
   rw[heap_grow_old _ _ aa0];simp[putRow,mapBlock,Array.getElem?_modify,Ne.symm ER]
  have FW:w.heap.size<=(grow (putRow id (Sort.ahead w n) b 0 F') os).heap.size:=aa0
  obtain⟨k1,k2⟩:=hI.upd 1000 (.arr sz FX) (g.ρ 1000) (g.ln 1000) (g.tk 1000) (g.own 1000) g.S (grow (putRow id (Sort.ahead w n) b 0 F') os) (some b) ⟨rfl,rfl,rfl,FW⟩
   (fun k hk ER=>hob k hk (fun e=>ER (by rw[e]))) (fun b' e=>by simp_all) (fun _ _ h=>h) (fun _ _ h=>.inl h) (fun b' o e hs=>by simp_all)
   (fun b' _ e=>by grind) aa1 (fun _=>⟨rfl,Ao _,fun _=>rfl,fun _=>rfl⟩) (fun hg hk=>by
    refine⟨by grind [D.upd],by grind [D.upd],f4,.inr ⟨b,cap,E,_,by grind [D.upd],by grind [D.upd],by omega,wB,by omega,?_,b7⟩⟩
    have:=f5 g w Wk
    rw[f3,<-zQ,hpt.1];exact this.mono hk (fun _ h=>h) (fun _ h=>h.elim))
  rw[US]at k1 k2;generalize hg' : g.upd 1000 (g.ρ 1000) (g.ln 1000) (g.tk 1000) (g.own 1000) g.S=g' at k1 k2;have ho' : g'.own 1000=some b:=by grind [D.upd]
  have AaF:=k1.objs 1000;have qw:Ai [(1000,HO.arr sz FX)] Af 1000=.arr sz FX:=rfl;rw[qw]at AaF;obtain⟨m1,m2,m3,m4⟩:=AaF;have hρ:g'.ρ 1000=.slice (some ⟨b,0,none⟩) es.length cap:=by grind [D.upd]
  have AkU : FX≠[]:=fun e=>ER (Az aa0);rcases m4 with ⟨m4,_⟩ | ⟨b',N7,E',lX,c1,c2,c3,c4,c5,c6,c7⟩
  .simp_all
  .rw[hρ]at c1;simp only[Value.slice.injEq,DQ,Addr.mk.injEq,and_true]at c1;obtain⟨c1a,c1b,c1c⟩:=c1;subst c1a;subst c1c;have Af3 : (FX.take n').length=n':=aa2
   obtain⟨k3,k4⟩:=k1.move 1000 2000 aa3 rfl trivial ho' (.arr sz (FX.take n')) (.slice (some ⟨b,0,none⟩) n' cap) n' true aa1 (fun hk=>by
    refine⟨by simp[D.upd],by grind [D.upd],fun cs hcs=>m3 cs (EJ hcs),.inr ⟨b,cap,E',lX,by grind [D.upd],by simp[D.upd],by omega,c4,c5,?_,c7⟩⟩
    have:=(c6.mono hk (fun _ h=>h) (fun _ h=>h.elim)).take (n'*sz)
    grind [LN,Nat.mul_le_mul_right])
   have Aaq:AJ (AJ (Ai [(1000,HO.arr sz FX)] Af) 1000 .dead) 2000 (.arr sz (FX.take n'))=Ai [(1000,.dead),(2000,.arr sz (FX.take n'))] Af:=by
    funext i
    by_cases e1:i=2000
    .subst e1;rw[A0];rfl
    .rw[BQ _ _ _ _ e1]
     by_cases e2:i=1000
     .subst e2;rw[A0];rfl
     grind [BQ,Ai,DY]
   rw[Aaq]at k3 k4;exact⟨_,.msl 2000 n',_,_,rfl,⟨rfl,FX,f2,rfl⟩,.msl _ 2000 n' (some ⟨b,0,none⟩) cap (by intro c;cases c) (by simp[D.upd]) (by simp[D.upd]) (.inr ⟨b,rfl⟩) (fun _=>by simp[D.upd]),k3,k2.trans k4⟩
end
end Go.Eng
namespace Go.Eng
variable {h:Nat->HO}{r ty e m:Nat}{cx:Cx}{x:AV}{K:HK}
def mS(a b:FH):Bool:=
 (match a.2 with | some r=>!Jm b.1 r | none=>true)&&(match b.2 with | some r=>!Jm a.1 r | none=>true)
def Rf(ops:Array Oper)(oi:Oper)(fi:FH)(D:List Nat)(k:Nat):List Oper->List FH->Bool
 |o::r,f::fs=>(Jm D k||(oi.apart ops o&&mS fi f))&&Rf ops oi fi D (k+1) r fs
 | [],[]=>true
 |_,_=>false
def W5(ops:Array Oper)(all:List Oper)(k:Nat):List Oper->List FH->Bool
 |o::r,f::fs=>
  let D:=Ro k [] 0 all
  (o.after.toList.all fun e=>!Region.binds .any e||Nat.blt e.on k)&&V2 k D 0 all&&(D.all fun j=>Nat.blt k j&&Nat.blt j all.length)&&Rf ops o f D (k+1) r fs&&W5 ops all (k+1) r fs
 | [],[]=>true
 |_,_=>false
def gC(ops:Array Oper)(fs:List FH):Bool:=Region.noSelect ops&&W5 ops ops.toList 0 ops.toList fs
def RW(f:FH):Prop:=∀r,f.2=some r->r<10000000
def TN:List FH->Prop
 | []=>True
 |f::r=>RW f/\TN r
theorem AO(l:List Nat):RW (l,none):=fun _ h=>by cases h
theorem En{l:List Nat}(h:r<10000000):RW (l,some r):=fun _ e=>by simp_all
theorem mT{a b:FH}(ha:RW a)(hb:RW b)(h:mS a b=true):Um a b=true:=by
 obtain⟨a1,a2⟩:=a;obtain⟨b1,b2⟩:=b;unfold mS at h;unfold Um;rw[Aq]at h⊢;refine⟨?_,?_⟩
 .cases a2 with
  |none=>rfl
  |some r=>
   have h1:(!Jm b1 r)=true:=h.1;show cg b1 r=true;unfold cg;rw[DY (show r≠Ya by have:=ha r rfl;grind [Ya]),G7,h1,show Nat.blt r 10000000=true by rw[I2];exact ha r rfl];rfl
 .cases b2 with
  |none=>rfl
  |some r=>
   have h1:(!Jm a1 r)=true:=h.2;show cg a1 r=true;unfold cg;rw[DY (show r≠Ya by have:=hb r rfl;grind [Ya]),G7,h1,show Nat.blt r 10000000=true by rw[I2];exact hb r rfl];rfl
theorem WL{ops:Array Oper}{oi:Oper}{fi:FH}{D:List Nat}(hi:RW fi):∀{l:List Oper} {fs:List FH} {k:Nat},TN fs->Rf ops oi fi D k l fs=true->I5 ops oi fi D k l fs=true
 | [],[],_,_,h=>h
 |o::r,f::fs,k,hs,h=>by
  unfold Rf at h;unfold I5;rw[Aq,Ib,Aq]at h⊢;exact⟨h.1.imp id (fun q=>⟨q.1,mT hi hs.1 q.2⟩),WL hi hs.2 h.2⟩
 | [],_::_,_,_,h=>by grind [Rf]
 |_::_,[],_,_,h=>by grind [Rf]
theorem ax{ops:Array Oper}{all:List Oper}:∀{l:List Oper} {fs:List FH} {k:Nat},TN fs->W5 ops all k l fs=true->ML ops all k l fs=true
 | [],[],_,_,h=>h
 |o::r,f::fs,k,hs,h=>by
  unfold W5 at h;unfold ML;simp only[Aq]at h⊢;exact⟨⟨h.1.1,WL hs.1 hs.2 h.1.2⟩,ax hs.2 h.2⟩
 | [],_::_,_,_,h=>by grind [W5]
 |_::_,[],_,_,h=>by grind [W5]
theorem JK{ops:Array Oper}{fs:List FH}(hs:TN fs)(h:gC ops fs=true):Un ops fs=true:=by
 grind [gC,Un,ax]
theorem So{d:Option Nat}{es es2:C0}(hty:(cx.T ty).d=.slice e)(hz:Nat.beq (cx.T e).zc.length (cx.T e).size=true)(FW:(cx.T e).size=m+1)(hx:∀K' : C0->Prop,K' es2->LK h x K')(hr:h r=.tok (m+1) es.length)(hl:A7 (m+1) es2)(hb:(es.length+es2.length)*(cx.T e).bytes<=140737488355328)(hc:es.length+es2.length<=9223372036854775807)(hk:K (.slice (.id r (m+1)) (es++es2)) (AJ h r (.tok (m+1) (es.length+es2.length)))):IT cx d h ty (.slice (.id r (m+1)) es) x K:=by
 grind [Nat.beq_refl,IT]
theorem Sn{d:Nat}{es2:C0}(hty:(cx.T ty).d=.slice e)(hz:Nat.beq (cx.T e).zc.length (cx.T e).size=true)(FW:(cx.T e).size=m+1)(hx:∀K' : C0->Prop,K' es2->LK h x K')(hr:h (KO cx d)=.free)(ha:Hk cx.pl.arr d=none)(hl:A7 (m+1) es2)(hb:es2.length*(cx.T e).bytes<=140737488355328)(hc:es2.length<=9223372036854775807)(hk:K (.slice (.id (KO cx d) (m+1)) es2) (AJ h (KO cx d) (.tok (m+1) es2.length))):IT cx (some d) h ty BY x K:=by
 grind [IT,Fe]
end Go.Eng
namespace Go.Eng
open Go.RowKit
end Go.Eng
namespace Go.Eng
variable {fn:Func}{ps:Array Tmp}{args:List AV}{c Hk body:Code}(cx:Cx)(σ:JD)
def Yv:Obj->Bool
 |.cells ..=>false
 |.map ..=>false
 |.mapIter ..=>false
 |.loop r=>!PM [] r.body
 |_=>true
structure cW(n0 x:Nat)(w:World)(g:D)(h:Nat->HO)(w' : World)(g' : D)(h' : Nat->HO):Prop where
 os:w'.os=w.os
 tape:w'.tape=w.tape
 output:w'.output=w.output
 size:w.heap.size<=w'.heap.size
 frame:∀b,b<n0->b≠x->(∀r,(h r).live->g.own r≠some b)->w'.heap[b]?=w.heap[b]?
 loc:∀r b,(h' r).live->g'.own r=some b->n0<=b\/∃r',(h r').live/\g.own r'=some b
 sg:∀b o,g'.S b o->g.S b o\/n0<=b\/∃r',(h r').live/\g.own r'=some b
 le:Le h g w h' g' w'
section
variable {P:Program}{N:Nat}{ds:List Deferred}{n0 x:Nat}{w w' w1 w2:World}{g g' g1 g2:D}{h h' h1 h2:Nat->HO}
theorem cW.trans(a:cW n0 x w g h w1 g1 h1)(b:cW n0 x w1 g1 h1 w2 g2 h2):cW n0 x w g h w2 g2 h2 where
 os:=b.os.trans a.os
 tape:=b.tape.trans a.tape
 output:=b.output.trans a.output
 size:=Bd a.size b.size
 frame c hc hx hn:=(b.frame c hc hx fun r hl e=>by
  rcases a.loc r c hl e with h | ⟨r',h1,h2⟩<;>grind).trans (a.frame c hc hx hn)
 loc r c hl e:=by
  rcases b.loc r c hl e with h | ⟨r',h1,h2⟩
  .omega
  .exact a.loc r' c h1 h2
 sg c o hs:=by
  rcases b.sg c o hs with h | h | ⟨r',h1,h2⟩
  .exact a.sg c o h
  .omega
  .rcases a.loc r' c h1 h2 with h | h<;>simp_all
 le:=a.le.trans b.le
theorem cW.of_inv(hI:CZ w g h h' g' w')(hL:Le h g w h' g' w')(hn:n0<=w.heap.size):cW n0 x w g h w' g' h' where
 os:=hI.os
 tape:=hI.tape
 output:=hI.output
 size:=hI.size
 frame c hc _ kc:=hI.frame c Wk kc
 loc r c hl e:=by
  rcases(hI.loc r c hl e).2 with h | h<;>grind
 sg c o hs:=by
  grind [CZ.sg]
 le:=hL
theorem CZ.base(hI:CZ w g h h' g' w'):CZ w' g' h' h' g' w' where
 os:=rfl
 tape:=rfl
 output:=rfl
 size:=Ao _
 frame _ _ _:=rfl
 slt:=hI.slt
 objs:=hI.objs
 inj:=hI.inj
 loc r b hl e:=⟨(hI.loc r b hl e).1,.inr ⟨r,hl,e⟩⟩
 sg _ _ hs:=.inl hs
 glob:=hI.glob
theorem CZ.of_seg(hI:CZ w' g' h' h' g' w')(s:cW w.heap.size x w g h w' g' h')(hx:x<w.heap.size->w'.heap[x]?=w.heap[x]?):CZ w g h h' g' w' where
 os:=s.os
 tape:=s.tape
 output:=s.output
 size:=s.size
 frame b hb hn:=by
  grind [cW.frame]
 slt:=hI.slt
 objs:=hI.objs
 inj:=hI.inj
 loc r b hl e:=⟨(hI.loc r b hl e).1,s.loc r b hl e⟩
 sg:=s.sg
 glob:=hI.glob
theorem QD{U:Nat->Prop}{r b:Nat}{o:HO}{ob:Obj}(ho:D6 g w U r o)(hl:o.live)(e:g.own r=some b)(hb:w.heap[b]?=some ob)(hd:Yv ob=true):False:=by
 cases o with
 |free=>exact hl
 |dead=>exact hl
 |ro cs=>exact hl
 |rom sh BZ=>exact hl
 |cells cs=>
  obtain⟨_,b',E,vs,h1,_,h3,_⟩:=ho;rw[e]at h1;cases h1;rw[hb]at h3;cases h3;cases hd
 |tok sz n=>
  obtain⟨_,_,a,cap,_,(⟨_,h1⟩ | ⟨_,b',E,vs,off,_,h1,⟨_,h3,_⟩,_⟩)⟩:=ho
  .simp_all
  .rw[e]at h1;cases h1;rw[hb]at h3;cases h3;cases hd
 |vox v=>exact hl
 |hol sz es i c av=>
  obtain⟨_,_,_,b',cap,E,vs,_,h1,_,h3,_⟩:=ho;rw[e]at h1;cases h1;rw[hb]at h3;cases h3;cases hd
 |bld x=>
  obtain⟨_,b',p,v,h1,_,h3,_⟩:=ho;rw[e]at h1;cases h1;rw[hb]at h3;cases h3;cases hd
 |bbf n=>
  obtain⟨_,_,(⟨_,_,h1⟩ | ⟨b',cap,Ew,_,h1,_,_,h3,_⟩)⟩:=ho
  .simp_all
  .rw[e]at h1;cases h1;rw[hb]at h3;cases h3;cases hd
 |raw b' iz=>
  obtain⟨_,h1,h2,h3,_⟩:=ho;rw[e]at h1;cases h1;rw[hb]at h2;cases h2;cases ob<;>simp[Yv,yS]at hd h3
  simp_all
 |var sz v n=>
  obtain⟨_,_,a,cap,_,(⟨_,h1⟩ | ⟨_,b',E,vs,off,_,h1,⟨_,h3,_⟩,_⟩)⟩:=ho
  .simp_all
  .rw[e]at h1;cases h1;rw[hb]at h3;cases h3;cases hd
 |arr sz es=>
  obtain⟨_,_,_,(⟨_,_,h1⟩ | ⟨b',cap,E,vs,_,h1,_,h3,_⟩)⟩:=ho
  .simp_all
  .rw[e]at h1;cases h1;rw[hb]at h3;cases h3;cases hd
 |map sh BZ=>
  obtain⟨_,b',es,ck,h1,_,h3,_⟩:=ho;rw[e]at h1;cases h1;rw[hb]at h3;cases h3;cases hd
 |mapU sh BZ=>
  obtain⟨_,b',es,ck,h1,_,h3,_⟩:=ho;rw[e]at h1;cases h1;rw[hb]at h3;cases h3;cases hd
 |iter all rem Ew=>
  obtain⟨_,b',mb,KI,seen,st,es,ck,h1,_,h3,_⟩:=ho;rw[e]at h1;cases h1;rw[hb]at h3;cases h3;cases hd
theorem CZ.dullS(hI:CZ w g h h g w)(ho:w'.os=w.os/\w'.tape=w.tape/\w'.output=w.output)(FW:w.heap.size<=w'.heap.size)
  (hb:∀b,b<w.heap.size->w'.heap[b]?=w.heap[b]?\/∃o o',w.heap[b]?=some o/\w'.heap[b]?=some o'/\Yv o=true/\Yv o'=true)
  (hn:∀b,b<n0->b≠x->w'.heap[b]?=w.heap[b]?):CZ w' g h h g w'/\cW n0 x w g h w' g h:=by
 have hk:Fg g w g w':=fun b o hs=>by
  refine⟨hs,?_⟩;rcases hb b (hI.slt b o hs)with e | ⟨ob,iz,e1,e2,d1,d2⟩
  .grind [World.cell?]
  .refine⟨?_,fun es ck he=>?_⟩
   .simp only[World.cell?,e1,e2];cases ob<;>cases iz<;>first | rfl | (cases d1;done) | (cases d2;done)
   .rw[e1]at he;cases he;cases d1
 have YT:∀r b,(h r).live->g.own r=some b->w'.heap[b]?=w.heap[b]?:=fun r b hl e=>by
  rcases hb b (hI.loc r b hl e).1 with e' | ⟨ob,iz,e1,_,d1,_⟩
  .exact e'
  .exact(QD (hI.objs r) hl e e1 d1).elim
 refine⟨⟨rfl,rfl,rfl,Ao _,fun _ _ _=>rfl,fun b o hs=>AZ (hI.slt b o hs) FW,fun r=>?_,hI.inj,fun r b hl e=>⟨AZ (hI.loc r b hl e).1 FW,.inr ⟨r,hl,e⟩⟩,fun _ _ hs=>.inl hs,hI.glob.keep hk⟩,⟨ho.1,ho.2.1,ho.2.2,FW,fun b wB hx _=>hn b wB hx,fun r b hl e=>.inr ⟨r,hl,e⟩,fun _ _ hs=>.inl hs,⟨.refl _ _,fun _ h=>h,hk⟩⟩⟩;exact(hI.objs r).same hk (fun _ h=>h) (.refl _ _) rfl rfl rfl rfl fun b hl e=>⟨YT r b hl e,fun _ h=>h⟩
theorem CZ.put(hI:CZ w g h h g w){l:Nat}{o o' : Obj}(hl:w.heap[l]?=some o)(hd:Yv o=true)(nQ : Yv o'=true)(hx:n0<=l\/l=x) :
  CZ (w.putObj l o') g h h g (w.putObj l o')/\cW n0 x w g h (w.putObj l o') g h:=by
 grind [World.putObj,CZ.dullS]
theorem CZ.allocS(hI:CZ w g h h g w)(o:Obj)(hn:n0<=w.heap.size):CZ (w.alloc o) g h h g (w.alloc o)/\cW n0 x w g h (w.alloc o) g h:=by
 refine hI.dullS ⟨rfl,rfl,rfl⟩ aa0 (fun b hb=>.inl (heap_alloc_old _ _ hb)) (fun b hb _=>heap_alloc_old _ _ Wk)
end
abbrev IP(fn:FuncId)(tm:Array Value)(ps:Array Tmp)(Hk body:Code)(D:Nat)(s:LoopState):Loop:=
 { state:=s,pending:=none,fn:=fn,tmps:=tm,params:=ps,assign:=Hk,body:=body,defers:=D }
def rH:List Nat->List AV->(Nat->AV)->Nat->AV
 |p::ps,v::vs,e=>rH ps vs (Kl e p v)
 |_,_,e=>e
section
variable {P:Program}{N:Nat}{w:World}{g:D}
theorem aD{U:Nat->Prop}:∀{ps:List Nat} {args:List AV} {vals:List Value} {tm:Array Value} {env:Nat->AV},vals.length=args.length->args.length=ps.length->(∀p∈ps,p<tm.size) ->
  (∀(i:Nat) (av:AV) (x:Value),args[i]?=some av->vals[i]?=some x->O g w U av x)->(∀i,O g w U (env i) (tm.getD i undef)) ->
  ((ps.zip vals).foldl (fun t p=>t.setIfInBounds p.1 p.2) tm).size=tm.size/\∀i,O g w U (rH ps args env i) (((ps.zip vals).foldl (fun t p=>t.setIfInBounds p.1 p.2) tm).getD i undef)
 | [],args,vals,tm,env,_,h2,_,_,he=>by
  have:args=[]:=Az h2
  subst this;exact⟨rfl,he⟩
 |p::ps,[],vals,tm,env,_,h2,_,_,_=>by cases h2
 |p::ps,a::args,[],tm,env,h1,_,_,_,_=>by cases h1
 |p::ps,a::args,v::vals,tm,env,h1,h2,h3,h4,he=>by
  have hp:=h3 p (Ah ..)
  obtain⟨q1,q2⟩:=aD (ps:=ps) (args:=args) (vals:=vals) (tm:=tm.setIfInBounds p v) (env:=Kl env p a) aa0 aa0 (fun q hq=>by simp_all)
   (fun i av x e1 e2=>h4 (i+1) av x aa0 aa0) (fun i=>by
    by_cases e:i=p
    .subst e;have e1:Kl env i a i=a:=by simp[Kl]
     have e2:(tm.setIfInBounds i v).getD i undef=v:=aa0
     rw[e1,e2];exact h4 0 a v rfl rfl
    .have e1:Kl env p a i=env i:=by grind [Kl,DY]
     have e2:(tm.setIfInBounds p v).getD i undef=tm.getD i undef:=by
      simp[Array.getD_eq_getD_getElem?,Array.getElem?_setIfInBounds_ne (Ne.symm e)]
     simp_all)
  exact⟨by simp_all,q2⟩
def ZO(P:Program)(Y:D->World->Prop)(σ:JD)(f:Nat)(args:List AV)(h0:Nat->HO)(Q:AV->(Nat->HO)->Prop):Prop:=
 Gt P f/\∀(g:D) (w:World) (vals:Array Value),vals.size=args.length->(∀(i:Nat) (av:AV) (x:Value),args[i]?=some av->vals[i]?=some x->O g w (L h0) av x) ->
  CZ w g h0 h0 g w->(∀h' g' w',CZ w g h0 h' g' w'->Le h0 g w h' g' w'->Y (D3 σ g') w') ->
  Calls P f vals w fun e w'=>∃v r h' g',e=.returned v/\Q r h'/\O g' w' (L h') r v/\CZ w g h0 h' g' w'/\Le h0 g w h' g' w'
theorem og{Y:D->World->Prop}{l:Nat}{f:Nat}{H0:List (Nat×HO)}{Q:AV->(Nat->HO)->Prop}(hP:cx.P=P)(hT:Cc P cx.T)(hm:P.follows .mixedOrders=true)(hx:cx.ext=true)(hf:P.funcs[f]?=some fn)(hn : (fn.name == "runtime.NumGoroutine")=false)(hb : fn.body=some c)(hN : args.length <= fn.ntmps)(hc : EL fn.ntmps c=true)(hσ : (Hp σ && I8 σ H0)=true)(hy:cx.yp=fun l' σ' g w=>l'=l->σ'=σ->Y g w)(hk:Rg cx c (aA cx fn.results.toList σ Q) ⟨PZ args,Ai H0 Af⟩):ZO P Y σ f args (Ai H0 Af) Q:=
 ⟨⟨fn,hf,hn,by simp_all⟩,fun g w vals hs hv hI hp=>aR cx σ hP hT hm hx hf hn hb hN hc hσ hk hs hv hI fun l' σ' h' g' w' _ q1 q2=>by
  grind⟩
end
def qS(cx:Cx):Nat->Code->(Ex->St->Prop)->(Code->Code->St->Prop)->St->Prop
 |0,.seq (.seq a b) d,Q,K,st=>Rg cx a (fun e EQ=>match e with |.normal=>K b d EQ |e=>Q e EQ) st
 |0,.seq b d,_,K,st=>K b d st
 |n+1,.seq a b,Q,K,st=>Rg cx a (fun e EQ=>match e with |.normal=>qS cx n b Q K EQ |e=>Q e EQ) st
 |_,_,_,_,_=>False
section
variable {P:Program}{N:Nat}{ds:List Deferred}{w0:World}{g0:D}{h0:Nat->HO}{st:St}{g:D}{a:Act}{w:World}
theorem qT{cx:Cx}(hP:cx.P=P)(hT:Cc P cx.T)(hm:P.follows .mixedOrders=true)(hE:Me cx h0)(hY:∀l σ h g w,EE σ=true->CZ w0 g0 h0 h g w->Le h0 g0 w0 h g w->cx.yp l σ (D3 σ g) w)
  {Qa:Ex->St->Prop} {K:Code->Code->St->Prop} {Q:Exit->Act->World->Prop} (hQ:∀e st g a w,e≠.normal->Qa e st->SR N ds w0 g0 h0 st g a w->Q e.real a w)
  (hK:∀b d st g a w,K b d st->SR N ds w0 g0 h0 st g a w->b.wpIn (Kq none) 0 P (Exit.then (d.wpIn (Kq none) 0 P Q) Q) a w) :
  ∀(n:Nat) (c:Code),EL N c=true->∀{st:St} {g:D} {a:Act} {w:World},SR N ds w0 g0 h0 st g a w->qS cx n c Qa K st->c.wpIn (Kq none) 0 P Q a w:=by
 intro n
 induction n with
 |zero=>
  intro c hc st g a w hS hk;cases c with
  |seq y d=>
   simp only[EL,Aq]at hc;cases y with
   |seq x b=>
    have hk:Rg cx x (fun e EQ=>match e with | .normal=>K b d EQ | e=>Qa e EQ) st:=hk;simp only[EL,Aq]at hc;refine wpIn_seq (wpIn_seq (OH hP hT hm hE hY none x hc.1.1 (Qa:=fun e EQ=>match e with | .normal=>K b d EQ | e=>Qa e EQ) (fun e st g a w q hS=>?_) hS hk));cases e with
    |normal=>exact hK b d _ _ _ _ q hS
    |exit id=>exact hQ (.exit id) _ _ _ _ (fun e=>by cases e) q hS
    |ret=>exact hQ .ret _ _ _ _ (fun e=>by cases e) q hS
   |_=>exact wpIn_seq (hK _ d _ _ _ _ hk hS)
  |_=>exact hk.elim
 |succ n ih=>
  intro c hc st g a w hS hk;cases c with
  |seq x y=>
   simp only[EL,Aq]at hc;refine wpIn_seq (OH hP hT hm hE hY none x hc.1 (Qa:=fun e EQ=>match e with | .normal=>qS cx n y Qa K EQ | e=>Qa e EQ) (fun e st g a w q hS=>?_) hS hk);cases e with
   |normal=>exact ih y hc.2 hS q
   |exit id=>exact hQ (.exit id) _ _ _ _ (fun e=>by cases e) q hS
   |ret=>exact hQ .ret _ _ _ _ (fun e=>by cases e) q hS
  |_=>exact hk.elim
end
section
variable {P:Program}{N:Nat}{ds:List Deferred}{w0:World}{g0:D}{h0:Nat->HO}{st:St}{g:D}{a:Act}{w:World}
theorem SR.rebase{w1:World}{g1:D}{h1:Nat->HO}(hS:SR N ds w0 g0 h0 st g a w)(hI:CZ w1 g1 h1 st.h g w)(hL:Le h1 g1 w1 st.h g w):SR N ds w1 g1 h1 st g a w:=⟨hI,hL,hS.dfs,hS.size,hS.slots⟩
theorem iB{cx:Cx}(hT:Cc P cx.T){H0:List (Nat×HO)}{σ:JD}(hσ:Hp σ=true)(wY:I8 σ H0=true){Q:AV->(Nat->HO)->Prop}(hS:SR N ds w0 g0 (Ai H0 Af) st g a w)(hk:la cx st fn.results.toList σ Q) :
  ∃v,(results fn a.tmps).run P w=.ok v w/\∃r h' g',Q r h'/\O g' w (L h') r v/\CZ w0 g0 (Ai H0 Af) h' g' w/\Le (Ai H0 Af) g0 w0 h' g' w:=by
 obtain⟨g2,i1,i2⟩:=NC cx.pl.fin hS.inv;have UJ : SR N ds w0 g0 (Ai H0 Af) ⟨st.t,Ql st.h cx.pl.fin⟩ g2 a w:=⟨i1,hS.le.trans i2,hS.dfs,hS.size,fun i=>(hS.slots i).le i2⟩;obtain⟨l,vs,h1,h2,h3,h4,h5⟩:=TK hT UJ _ hk;obtain⟨hR,j1,j2⟩:=Qc hσ wY i1 UJ.le;have CL:(results fn a.tmps).run P w=.ok (if h:vs.toArray.size=1 then vs.toArray[0]else .tuple vs.toArray) w:=by
  rw[Po,show fn.results=fn.results.toList.toArray by simp,List.mapM_toArray];simp_all
 match l,vs,h1,h3,h5,CL with
 | [v],[x],h1,h3,h5,CL=>exact⟨x,by simp_all,_,_,_,h1,(h5 0 v x rfl rfl).ren hR,j1,j2⟩
 | [],vs,h1,h3,h5,CL=>
  have:vs=[]:=Az h3
  subst this;exact⟨.tuple #[],by simp_all,_,_,_,h1,O.ren hR (.tup _ [] _ rfl fun i av x q=>by simp_all),j1,j2⟩
 |v::v' :: l,vs,h1,h3,h5,CL=>
  refine⟨.tuple vs.toArray,?_,_,_,_,h1,O.ren hR (.tup _ _ _ Wk fun i av x q1 q2=>h5 i av x q1 aa0),j1,j2⟩;simp_all
theorem xE{uh s:Nat}{rest:Code}(hP:cx.P=P)(hT:Cc P cx.T)(hm:P.follows .mixedOrders=true)(hx:cx.ext=true){σ:JD}{H0 Hn:List (Nat×HO)}(hσ:(Hp σ&&I8 σ H0)=true)(hσn:I8 σ Hn=true){env:Nat->AV}{gf:Nat}{caps:List AV}(hF:env s=.clo gf caps){Qv:AV->(Nat->HO)->Prop}(hIT:∀(l D:Nat) (f' : FuncId) (tm:Array Value),tm.size=N->ZO P (fun g w=>w.heap[l]?=some (.loop (IP f' tm ps Hk body D .ready))/\∀i,O g w (L (Ai H0 Af)) (env i) (tm.getD i undef)) σ gf
   (.v (.func (.yield l) #[] #[])::caps) (Ai H0 Af) fun _ h'=>h'=Ai Hn Af)(hcr:EL N rest=true)(hbk:PM [] body=false)(hJ:Rg cx rest (aA cx fn.results.toList σ Qv) ⟨env,Ai Hn Af⟩)(hY:∀l σ g w,cx.yp l σ g w){a:Act}(ha:a.defers=[])(hN:a.tmps.size=N)(hI:CZ w g (Ai H0 Af) (Ai H0 Af) g w)(OY:∀i,O g w (L (Ai H0 Af)) (env i) (a.tmps.getD i undef)){R:Ending->World->Prop}(hR:∀v r h' g' w',Qv r h'->O g' w' (L h') r v->CZ w g (Ai H0 Af) h' g' w'->Le (Ai H0 Af) g w h' g' w'->R (.returned v) w') :
  (Code.block uh (.rangeFunc (.tmp s) ps Hk body)).wpIn (Kq none) 0 P (Exit.then (rest.wpIn (Kq none) 0 P (bodyPostM (Kq none) 0 P fn R)) (bodyPostM (Kq none) 0 P fn R)) a w:=by
 simp only[Aq]at hσ;have hdl:∀f' tm D s,Yv (.loop (IP f' tm ps Hk body D s))=true:=fun _ _ _ _=>by show(!PM [] body)=true;simp_all
 refine wpIn_block (wpIn_rangeFunc fun f' _=>?_);have hs:=OY s;rw[hF]at hs;have uA:a.eval (.tmp s)=a.tmps.getD s undef:=rfl;generalize hfv:a.tmps.getD s undef=fv at hs uA;cases hs with
 |clo _ _ _ lb FW Qp=>
 obtain⟨i0,s0⟩:=hI.allocS (n0:=w.heap.size) (x:=w.heap.size) (.deferred (some [])) (Ao _);obtain⟨i1,s1⟩:=i0.allocS (n0:=w.heap.size) (x:=w.heap.size) (.loop (IP f' a.tmps ps Hk body w.heap.size .ready)) aa0;generalize hW:(w.alloc (.deferred (some []))).alloc (.loop (IP f' a.tmps ps Hk body w.heap.size .ready))=W1 at i1 s1;have Al9:W1.heap.size=w.heap.size+2:=by grind [World.size_alloc]
 have hl:W1.heap[w.heap.size+1]?=some (.loop (IP f' a.tmps ps Hk body w.heap.size .ready)):=by
  grind [World.alloc_heap_new]
 have hD:W1.heap[w.heap.size]?=some (.deferred (some [])):=by
  grind [heap_alloc_old,World.alloc_heap_new]
 have Qq:∀b ob,W1.heap[b]?=some ob->Yv ob=true->∀r,((Ai H0 Af) r).live->g.own r≠some b:=fun b ob hb hd r hr e=>QD (i1.objs r) hr e hb hd;have S1:=s0.trans s1;have hit:=hIT (w.heap.size+1) w.heap.size f' a.tmps hN
 refine⟨w.heap.size+1,[{ target:=.collected w.heap.size,args:=#[] }],W1,{ target:=.fn (.func gf) lb,args:=#[.func (.yield (w.heap.size+1)) #[] #[]] },W1,gf,
  #[.func (.yield (w.heap.size+1)) #[] #[]]++lb,W1,?_,?_,fun _ _=>trivial,?_,fun e=>(by cases e),?_⟩
 .grind [run_enterLoop_outer]
 .simp only[resolve,uA];simp[go_sem]
 .simp only[invoke];rw[He hit.1]
 refine callsIn_wide.2 ((hit.2 g W1 _ aa2 (fun i av x e1 e2=>?_) i1 (fun h' g' w' q1 q2=>?_)).mono ?_)
 .cases i with
  |zero=>
   grind [O.v]
  |succ i=>
   grind [O.le,cW.le]
 .obtain⟨_,_,j2⟩:=Qc hσ.1 hσ.2 q1 q2;refine⟨(q1.frame _ Wk (Qq _ _ hl (hdl _ _ _ _))).trans hl,fun i=>?_⟩;exact((OY i).le S1.le).mono j2.keeps (fun _ h=>h) j2.gh
 rintro e w2 ⟨v,r,h',g2,rfl,rfl,_,q3,q4⟩
 have kb:w2.heap[w.heap.size+1]?=some (.loop (IP f' a.tmps ps Hk body w.heap.size .ready)):=(q3.frame _ Wk (Qq _ _ hl (hdl _ _ _ _))).trans hl;have hD2:w2.heap[w.heap.size]?=some (.deferred (some [])):=(q3.frame _ Wk (Qq _ _ hD rfl)).trans hD;refine⟨none,_,run_endLoop kb (fun e=>by cases e),?_⟩;obtain⟨i4,s4⟩:=q3.base.put (n0:=w.heap.size) (x:=w.heap.size) (o':=.loop { IP f' a.tmps ps Hk body w.heap.size .ready with state:=.exhausted }) kb (hdl _ _ _ _) (hdl f' a.tmps w.heap.size .exhausted) (.inl Wk);have S4:=(S1.trans (cW.of_inv q3 q4 Wk)).trans s4;generalize hW4:w2.putObj (w.heap.size+1) (.loop { IP f' a.tmps ps Hk body w.heap.size .ready with state:=.exhausted })=w4 at i4 s4 S4;have hD4:w4.heap[w.heap.size]?=some (.deferred (some [])):=by grind [World.putObj_heap_other]
 have hE:Me cx (Ai Hn Af):=by unfold Me;rw[hx];exact fun i hi=>⟨(GX hσn i hi).1,(GX hσn i hi).2.1⟩
 have hS4:SR N [{ target:=.collected w.heap.size,args:=#[] }] w4 g2 (Ai Hn Af) ⟨env,Ai Hn Af⟩ g2 { a with defers:=[{ target:=.collected w.heap.size,args:=#[] }]++a.defers } w4:=
  ⟨i4,.refl _ _ _,by simp_all,hN,fun i=>(OY i).le S4.le⟩
 refine OH hP hT hm hE (fun l σ _ _ w _ _ _=>hY l σ _ w) none rest hcr (fun e st5 g5 a5 w5 hq uu=>?_) hS4 hJ;have fin:la cx st5 fn.results.toList σ Qv->LeavesInM (Kq none) 0 P fn a5.tmps R a5.defers .returning w5:=by
  intro hk;have hD5:w5.heap[w.heap.size]?=some (.deferred (some [])):=(uu.inv.frame _ (B5.1 hD4).1 (fun r hr e=>QD (i4.objs r) hr e hD4 rfl)).trans hD4;rw[uu.dfs];refine⟨by simp,.inl ⟨w.heap.size,_,rfl,run_takeDeferred hD5,?_⟩⟩;obtain⟨i6,s6⟩:=uu.inv.base.put (n0:=w.heap.size) (x:=w.heap.size) (o':=.deferred none) hD5 rfl rfl (.inr rfl);have hS6:SR N [{ target:=.collected w.heap.size,args:=#[] }] (w5.putObj w.heap.size (.deferred none)) g5 st5.h st5 g5 a5 (w5.putObj w.heap.size (.deferred none)):=⟨i6,.refl _ _ _,uu.dfs,uu.size,fun i=>(uu.slots i).le s6.le⟩;have S6:=(S4.trans (cW.of_inv uu.inv uu.le (Bd (Ao _) S4.size))).trans s6;obtain⟨v,k2,r,h7,g7,k1,k5,k3,k4⟩:=iB (H0:=H0) hT hσ.1 hσ.2 (SR.rebase hS6 (i6.of_seg S6 fun h=>absurd h (Nat.lt_irrefl _)) S6.le) hk;exact⟨v,k2,hR v r h7 g7 _ k1 k5 k3 k4⟩
 cases e with
 |normal=>exact fin hq
 |ret=>exact fin hq
 |exit id=>exact hq.elim
end
section
variable {P:Program}{N:Nat}{w:World}{g:D}
theorem lP(o k r:Nat){H:List (Nat×HO)}(cx:Cx)(hP:cx.P=P)(hT:Cc P cx.T)(hm:P.follows .mixedOrders=true)(hx:cx.ext=true){σ:JD}(hσ:(Hp σ&&I8 σ H)=true){fn:FuncId}{tm:Array Value}{D l:Nat}{env:Nat->AV}{U:Nat->Prop}{Q:AV->(Nat->HO)->Prop}(hps:args.length=ps.toList.length)(hN:tm.size=N)(hpN:(ps.toList.all fun p=>Nat.blt p N)=true)(hca:EL N Hk=true)(hcb:EL N body=true)(hU:∀i,U i->L (Ai H Af) i)(hk:Rg cx Hk (fun e st=>match e with | .normal=>Rg cx body (fun e st=>match e with | .normal=>rvK st.h o k r fun h'=>Q (.v (.bool true)) (FL σ (Ql h' cx.pl.fin)) | _=>False) st | _=>False) ⟨rH ps.toList args env,Ai H Af⟩)(hY:∀l σ g w,cx.yp l σ g w:=by exact fun _ _ _ _=>trivial)(hbk:PM [] body=false:=by kernel_rfl) :
  Jt P (fun g w=>w.heap[l]?=some (.loop (IP fn tm ps Hk body D .ready))/\∀i,O g w U (env i) (tm.getD i undef)) l args (Ai H Af) Q:=by
 simp only[Aq]at hσ;intro g w vals hs hv hI ⟨hl,OY⟩;have E4:l<w.heap.size:=(B5.1 hl).1;have hdl:∀s,Yv (.loop (IP fn tm ps Hk body D s))=true:=fun s=>by show(!PM [] body)=true;simp_all
 have hE:Me cx (Ai H Af):=by unfold Me;rw[hx];exact fun i hi=>⟨(GX hσ.2 i hi).1,(GX hσ.2 i hi).2.1⟩
 have Qq:∀r,((Ai H Af) r).live->g.own r≠some l:=fun r hr e=>QD (hI.objs r) hr e hl (hdl _);have AhM:∀(t0:Array Value),(ps.zip vals).foldl (fun tmps (p:Nat×Value)=>tmps.setIfInBounds p.1 p.2) t0=(ps.toList.zip vals.toList).foldl (fun t p=>t.setIfInBounds p.1 p.2) t0:=fun t0=>by
  grind [Array.toList_zip]
 have hry:=run_yield (P:=P) (args:=vals) hl aa0;refine⟨fn,_,Hk,body,hry,roundIn_of_wpIn trivial ?_⟩;obtain⟨z1,z2⟩:=aD (U:=L (Ai H Af)) (ps:=ps.toList) (args:=args) (vals:=vals.toList) (tm:=tm) (env:=env) Wk hps (fun p hp=>by
  grind [Nat.blt_eq]) (fun i av x e1 e2=>hv i av x e1 aa0) (fun i=>(OY i).mono (.refl _ _) hU (.refl _ _))
 have hS0:SR N [] w g (Ai H Af) ⟨rH ps.toList args env,Ai H Af⟩ g { tmps:=(ps.zip vals).foldl (fun tmps (p:Nat×Value)=>tmps.setIfInBounds p.1 p.2) tm,defers:=[] } w:=by
  grind [SR.mk,Le.refl]
 refine OH hP hT hm hE (fun l σ _ _ w _ _ _=>hY l σ _ w) (some l) Hk hca (fun e st1 g1 a1 w1 hq rT=>?_) hS0 hk;cases e with
 |exit _=>simp_all
 |ret=>simp_all
 |normal=>
  have hl1:w1.heap[l]?=some (.loop (IP fn tm ps Hk body D .ready)):=(rT.inv.frame l E4 Qq).trans hl;refine⟨_,run_beginRound hl1 rfl,?_⟩;obtain⟨iS,sS⟩:=hI.put (n0:=w.heap.size) (x:=l) (o':=.loop (IP fn tm ps Hk body D .busy)) hl (hdl _) (hdl _) (.inr rfl);have hlS:(w.putObj l (.loop (IP fn tm ps Hk body D .busy))).heap[l]?=some (.loop (IP fn tm ps Hk body D .busy)):=World.putObj_heap_same E4;have Afx:(w.putObj l (.loop (IP fn tm ps Hk body D .busy))).heap.size=w.heap.size:=aa0
  obtain⟨_,sB⟩:=iS.dullS (w':=w) (n0:=w.heap.size) (x:=l) ⟨rfl,rfl,rfl⟩ Wk (fun b _=>by
   grind [World.putObj_heap_other]) (fun b _ ER=>(World.putObj_heap_other ER).symm)
  obtain⟨i2,s2⟩:=rT.inv.base.put (n0:=w.heap.size) (x:=l) (o':=.loop (IP fn tm ps Hk body D .busy)) hl1 (hdl _) (hdl _) (.inr rfl);have S2:=(sB.trans (cW.of_inv rT.inv rT.le (Ao _))).trans s2;have kb:(w1.putObj l (.loop (IP fn tm ps Hk body D .busy))).heap[l]?=some (.loop (IP fn tm ps Hk body D .busy)):=World.putObj_heap_same (B5.1 hl1).1;have hI2:=i2.of_seg (by rw[Afx];exact S2) (fun _=>kb.trans hlS.symm);have hS2:SR N [] (w.putObj l (.loop (IP fn tm ps Hk body D .busy))) g (Ai H Af) st1 g1 a1 (w1.putObj l (.loop (IP fn tm ps Hk body D .busy))):=⟨hI2,S2.le,rT.dfs,rT.size,fun i=>(rT.slots i).le s2.le⟩;refine OH hP hT hm hE (fun l σ _ _ w _ _ _=>hY l σ _ w) (some l) body hcb (fun e st3 g3 a3 w3 hq zS=>?_) hS2 hq;cases e with
  |exit _=>simp_all
  |ret=>simp_all
  |normal=>
   obtain⟨h3,g3',zS,hq⟩:=pQ zS hq;have hl3:w3.heap[l]?=some (.loop (IP fn tm ps Hk body D .busy)):=(zS.inv.frame l Wk Qq).trans hlS;refine⟨.bool true,w3.putObj l (.loop (IP fn tm ps Hk body D .ready)),run_endRound none hl3,?_⟩;obtain⟨gf,if1,if2⟩:=NC cx.pl.fin zS.inv;obtain⟨i4,s4⟩:=if1.base.put (n0:=w.heap.size) (x:=l) (o':=.loop (IP fn tm ps Hk body D .ready)) hl3 (hdl _) (hdl _) (.inr rfl);have S4:=(sS.trans (cW.of_inv if1 (zS.le.trans if2) Wk)).trans s4;have hl4:(w3.putObj l (.loop (IP fn tm ps Hk body D .ready))).heap[l]?=some (.loop (IP fn tm ps Hk body D .ready)):=World.putObj_heap_same (B5.1 hl3).1;have hI4:=i4.of_seg S4 (fun _=>hl4.trans hl.symm);obtain⟨_,j1,j2⟩:=Qc hσ.1 hσ.2 hI4 S4.le;exact⟨.bool true,.v (.bool true),_,_,rfl,hq,.v _ _,j1,j2⟩
end
def yD(h:Nat->HO)(o k r sz:Nat)(K:(Nat->HO)->Prop):Prop:=
 match h o with
 |.cells cs=>match Ke cs k with
  |.v (.slice none 0 0)=>match h r with
   |.free=>K (AJ (AJ h r (.var sz 0 0)) o (.cells (E2 cs k (.slice (.ver r sz 0) []))))
   |_=>False
  |_=>False
 |_=>False
section
variable {P:Program}{N:Nat}{ds:List Deferred}{w0:World}{g0:D}{h0:Nat->HO}{st:St}{g:D}{a:Act}{w:World}
theorem xm(hS:SR N ds w0 g0 h0 st g a w){o k r sz:Nat}{K:(Nat->HO)->Prop}(hk:yD st.h o k r sz K):∃h' g',SR N ds w0 g0 h0 ⟨st.t,h'⟩ g' a w/\K h':=by
 unfold yD at hk;split at hk
 .rename_i cs e0;split at hk
  .rename_i e1;split at hk
   .rename_i hf;have yr:o≠r:=fun e=>by simp_all
    have Xj:=JW cs k _ e1 aa1
    obtain⟨m1,m2⟩:=hS.inv.upd r (.var sz 0 0) (.slice none 0 0) 0 true none g.S w none ⟨rfl,rfl,rfl,Ao _⟩ (fun _ _ _=>rfl) (fun b e=>by cases e) (fun _ _ h=>h) (fun _ _ h=>.inl h) (fun b o e=>by cases e) (fun b hh e=>by simp_all) aa1
     (fun hu=>absurd hf hu) (fun _ _=>by
      obtain⟨u1,u2,u3,u4⟩:=Bn g r (.slice none 0 0) 0 true none g.S;exact⟨u3,u2,none,0,u1,.inl ⟨rfl,u4⟩⟩)
    generalize gX:g.upd r (.slice none 0 0) 0 true none g.S=g1 at m1 m2;have gr:g1.tk r=true/\g1.ln r=0/\g1.ρ r=.slice none 0 0:=by grind [D.upd]
    have wi : (AJ st.h r (.var sz 0 0)) o=.cells cs:=by grind [BQ]
    obtain⟨g3,p1,p2⟩:=PO m1 wi Xj (new:=.slice (.ver r sz 0) []) (fun y hy=>by
     grind [L,A0,cases O,O.ver,O.snil])
    exact⟨_,g3,⟨p1,hS.le.trans (m2.trans p2),hS.dfs,hS.size,fun i=>(hS.slots i).le (m2.trans p2)⟩,hk⟩
   simp_all
  simp_all
 simp_all
def RfV(o k r sz:Nat)(jC:Cx)(P:Program)(N:Nat)(fn:Func)(σ:JD)(Q:AV->(Nat->HO)->Prop)(b rest:Code)(st:St):Prop:=
 yD st.h o k r sz fun h1=>
  ∃(σF σr:JD) (H0 Hn:List (Nat×HO)) (uh s:Nat) (ps:Array Tmp) (Hk body:Code) (gf:Nat) (caps:List AV),
  b=.block uh (.rangeFunc (.tmp s) ps Hk body)/\(EE σF&&Eg h1 0 0&&Dk σF 0 0)=true/\FL σF h1=Ai H0 Af/\(Hp σr&&I8 σr H0)=true/\I8 σr Hn=true /\
  ren (CB σF) h1 (st.t s)=.clo gf caps /\
  (∀(l D:Nat) (f' : FuncId) (tm:Array Value),tm.size=N->ZO P (fun g w=>w.heap[l]?=some (.loop (IP f' tm ps Hk body D .ready))/\∀i,O g w (L (Ai H0 Af)) (ren (CB σF) h1 (st.t i)) (tm.getD i undef)) σr gf
   (.v (.func (.yield l) #[] #[])::caps) (Ai H0 Af) fun _ h'=>h'=Ai Hn Af) /\
  EL N rest=true/\PM [] body=false/\Rg jC rest (aA jC fn.results.toList σr fun r h'=>Q (ren (CB σ) (Em σF 0 0 h1 h') (ren (Fs σF 0 0) h' r)) (FL σ (Em σF 0 0 h1 h')))
   ⟨fun i=>ren (CB σF) h1 (st.t i),Ai Hn Af⟩
theorem jb (o k r sz : Nat){f : Nat}{args : List AV}{H : List (Nat × HO)}{Q : AV -> (Nat -> HO) -> Prop}(cx jC : Cx)(σ : JD)(hP : cx.P=P)(hT : Cc P cx.T)(hP2 : jC.P=P)(hT2 : Cc P jC.T)(hm : P.follows .mixedOrders=true)(hx : cx.ext=true)(hx2 : jC.ext=true)(hf : P.funcs[f]?=some fn)(hn : (fn.name == "runtime.NumGoroutine")=false)(hb:fn.body=some c)(hN:args.length<=fn.ntmps)(hc:EL fn.ntmps c=true)(hσ:(Hp σ&&I8 σ H)=true)(n:Nat)(hk:qS cx n c (aA cx fn.results.toList σ fun r h'=>∃r',CD r r'/\Q r' h') (RfV o k r sz jC P fn.ntmps fn σ fun r h'=>∃r',CD r r'/\Q r' h') ⟨PZ args,Ai H Af⟩)(hY:∀l σ g w,cx.yp l σ g w:=by exact fun _ _ _ _=>trivial)(hY2:∀l σ g w,jC.yp l σ g w:=by exact fun _ _ _ _=>trivial):A6 P f args (Ai H Af) Q:=by
 refine A6.mono (Q:=fun r h'=>∃r',CD r r'/\Q r' h') ?_ fun _ _ ⟨r',s,q⟩=>⟨r',s,q⟩;simp only[Aq]at hσ;refine⟨⟨fn,hf,hn,by simp_all⟩,fun g w vals hs hv hI=>callsIn_wide.1 (callsIn_of_wp_marks (F:=Fence.wide) (n:=0) hf hb trivial ?_ rfl)⟩;have hE:Me cx (Ai H Af):=by unfold Me;rw[hx];exact fun i hi=>⟨(GX hσ.2 i hi).1,(GX hσ.2 i hi).2.1⟩
 have hS:SR fn.ntmps [] w g (Ai H Af) ⟨PZ args,Ai H Af⟩ g { tmps:=vals++Array.replicate (fn.ntmps-vals.size) undef,defers:=[] } w:=by
  refine⟨hI,.refl _ _ _,rfl,by simp_all,fun i=>?_⟩
  have:=P0 (n:=fn.ntmps-vals.size) (args:=args) (vals:=vals.toList) Wk (fun i av x q1 q2=>hv i av x q1 aa0) i
  grind [Array.getD_eq_getD_getElem?,Array.toList_append,Array.toList_replicate]
 refine qT hP hT hm hE (fun l σ _ _ w _ _ _=>hY l σ _ w) (fun e st g' a w' ER hk hS=>?_) (fun b rest st g' a w' hk hS=>?_) n c hc hS hk
 .have out:la cx st fn.results.toList σ (fun r h'=>∃r',CD r r'/\Q r' h')->LeavesInM (Kq none) 0 P fn a.tmps (fun e w'=>∃v r h' g',e=Ending.returned v/\(∃r',CD r r'/\Q r' h')/\O g' w' (L h') r v/\CZ w g (Ai H Af) h' g' w'/\Le (Ai H Af) g w h' g' w') a.defers .returning w':=by
   intro hk;obtain⟨v,q2,r,h',g2,q1,q3,q4,q5⟩:=iB hT hσ.1 hσ.2 hS hk;rw[hS.dfs];exact⟨v,q2,v,r,h',g2,rfl,q1,q3,q4,q5⟩
  cases e with
  |normal=>simp_all
  |ret=>exact out hk
  |exit id=>exact hk.elim
 .obtain⟨h1,g',hS,hk⟩:=xm hS hk;obtain⟨σF,σr,H0,Hn,uh,s,ps,Hk,body,gf,caps,rfl,k1,k2,k3,k4,k5,k6,k7,k9,k8⟩:=hk;have hσF:EE σF=true:=aa0
  obtain⟨Aet,hI1⟩:=YH hS.inv hσF;rw[k2]at hI1;have OY:∀i,O (D3 σF g') w' (L (Ai H0 Af)) (ren (CB σF) h1 (st.t i)) (a.tmps.getD i undef):=fun i=>by
   have:=(hS.slots i).ren Aet
   simp_all
  refine Nv (Q:=fun r h'=>∃r',CD (ren (CB σ) (Em σF 0 0 h1 h') (ren (Fs σF 0 0) h' r)) r'/\Q r' (FL σ (Em σF 0 0 h1 h'))) (C:=fun R'=>(∀e iX,R' e iX->(∃v r h' g',e=Ending.returned v/\(∃r',CD r r'/\Q r' h')/\O g' iX (L h') r v/\CZ w g (Ai H Af) h' g' iX/\Le (Ai H Af) g w h' g' iX)) ->
   (Code.block uh (.rangeFunc (.tmp s) ps Hk body)).wpIn (Kq none) 0 P (Exit.then (rest.wpIn (Kq none) 0 P (bodyPostM (Kq none) 0 P fn (fun e iX=>∃v r h' g',e=Ending.returned v/\(∃r',CD r r'/\Q r' h')/\O g' iX (L h') r v/\CZ w g (Ai H Af) h' g' iX/\Le (Ai H Af) g w h' g' iX))) (bodyPostM (Kq none) 0 P fn (fun e iX=>∃v r h' g',e=Ending.returned v/\(∃r',CD r r'/\Q r' h')/\O g' iX (L h') r v/\CZ w g (Ai H Af) h' g' iX/\Le (Ai H Af) g w h' g' iX))) a w')
   (fun h k h2=>h fun e w r=>h2 _ _ (k _ _ r)) hS.inv (d:=0) (nn:=0) k1 (fun _ uK=>?_) (fun v r h' g2 w2 q1 q2 q3 q4=>?_) (fun _ _ h=>h)
  .rw[k2]at uK;exact xE jC hP2 hT2 hm hx2 k3 k4 k5 k6 k7 k9 k8 hY2 hS.dfs hS.size hI1 OY fun v r h' g5 w5 q1 q2 q3 q4=>uK _ _ ⟨v,r,h',g5,rfl,q1,q2,q3,q4⟩
  .obtain⟨hR,j1,j2⟩:=Qc hσ.1 hσ.2 q2 (hS.le.trans q3);exact⟨v,_,_,_,rfl,q1,q4.ren hR,j1,j2⟩
end
end Go.Eng
namespace Go.Eng
open Go.Sort
end Go.Eng
namespace Go.Eng
end Go.Eng
