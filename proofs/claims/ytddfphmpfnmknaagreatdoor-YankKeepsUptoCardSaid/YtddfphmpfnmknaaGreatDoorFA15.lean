/- Lemmas for the claims of this seat, without a condition: part 15 (EngZD, EngZE, EngZF, EngZL). -/
import Derived.Test.YtddfphmpfnmknaaGreatDoorFA14
import Derived.Deep.LoopGhost
import Derived.ReadAgain
import Derived.RowKit
namespace Go.Eng
theorem E8{h:Nat→HO}{r:Nat}(e:Rk h r=true):AP h r:=by
 unfold Rk at e;unfold AP;split at e
 ·cases e
 ·rename_i hh;exact hh
theorem BD.ids0{g:Gh}{w:World}{U:Nat→Prop}{h:Nat→HO}{av:AV}{x:Value}(r:BD g w U av x)(e:ids0 h av=true):BD g w (AP h) av x:=by
 cases r with
 |v=>exact .v _ _
 |junk=>exact .junk _ _
 |snil=>exact .snil _ _ _
 |slice _ es b off sz cap val hc hl Dw Ed=>exact .slice _ es b off sz cap val hc hl Dw Ed
 |tok _ r sz es x hs hl hu ht hn hx=>exact .tok _ r sz es x ((BD.slice_none hs).up _) hl (E8 e) ht hn hx
 |ver _ r sz v es x hs hl hu ht hn hx=>exact .ver _ r sz v es x ((BD.slice_none hs).up _) hl (E8 e) ht hn hx
 |full _ sz es x hs hl hx=>exact .full _ sz es x ((BD.slice_none hs).up _) hl hx
 |msl _ r n a cap hu ht hn ha hx=>exact .msl _ r n a cap (E8 e) ht hn ha hx
 |agg=>cases e
 |tup=>cases e
 |cptr _ cs b off val Dw Ed=>exact .cptr _ cs b off val Dw Ed
 |ref _ r off b hu ht hx=>exact .ref _ r off b (E8 e) ht hx
 |eref _ r n sz i off b cap hu ht hn hx=>exact .eref _ r n sz i off b cap (E8 e) ht hn hx
 |mref _ r b hu ht hx=>exact .mref _ r b (E8 e) ht hx
 |cmap _ sh BX b es ck hS hb hm hv=>exact .cmap _ sh BX b es ck hS hb hm hv
 |clo=>cases e
theorem SP{h:Nat→HO}{cs:List AV}(e:XQ h cs=true){i:Nat}{av:AV}(hi:cs[i]?=some av):ids0 h av=true:=by
 induction cs generalizing i with
 |nil=>simp at hi
 |cons c cs ih =>
  unfold XQ at e;split at e
  ·rename_i hc;cases i with
   |zero=>simp only[A7,Bi]at hi;exact hi▸hc
   |succ i=>exact ih e (by simpa using hi)
  ·cases e
theorem gj{h:Nat→HO}{cs:List AV}(e:ko h cs=true){i:Nat}{av:AV}(hi:cs[i]?=some av):Ul h av=true:=by
 induction cs generalizing i with
 |nil=>simp at hi
 |cons c cs ih =>
  unfold ko at e;split at e
  ·rename_i hc;cases i with
   |zero=>simp only[A7,Bi]at hi;exact hi▸hc
   |succ i=>exact ih e (by simpa using hi)
  ·cases e
theorem cp{h:Nat→HO}{BX:List (Value×AV)}(e:QJ h BX=true){i:Nat}{kv:Value×AV}(hi:BX[i]?=some kv):Ul h kv.2=true:=by
 induction BX generalizing i with
 |nil=>simp at hi
 |cons c cs ih =>
  unfold QJ at e;split at e
  ·rename_i hc;cases i with
   |zero=>simp only[A7,Bi]at hi;exact hi▸hc
   |succ i=>exact ih e (by simpa using hi)
  ·cases e
theorem BD.ids{g:Gh}{w:World}{U:Nat→Prop}{h:Nat→HO}{av:AV}{x:Value}(r:BD g w U av x)(e:Ul h av=true):BD g w (AP h) av x:=by
 cases r with
 |agg _ cs vs hs h1 hr=>exact .agg _ cs vs hs h1 fun i av x q1 q2=>(hr i av x q1 q2).ids0 (SP e q1)
 |tup _ cs vs hs hr=>exact .tup _ cs vs hs fun i av x q1 q2=>(hr i av x q1 q2).ids0 (SP e q1)
 |clo _ f cs vs hs hr=>exact .clo _ f cs vs hs fun i av x q1 q2=>(hr i av x q1 q2).ids0 (SP e q1)
 |v=>exact .v _ _
 |junk=>exact .junk _ _
 |snil=>exact .snil _ _ _
 |slice _ es b off sz cap val hc hl Dw Ed=>exact .slice _ es b off sz cap val hc hl Dw Ed
 |tok _ r sz es x hs hl hu ht hn hx=>exact .tok _ r sz es x ((BD.slice_none hs).up _) hl (E8 e) ht hn hx
 |ver _ r sz v es x hs hl hu ht hn hx=>exact .ver _ r sz v es x ((BD.slice_none hs).up _) hl (E8 e) ht hn hx
 |full _ sz es x hs hl hx=>exact .full _ sz es x ((BD.slice_none hs).up _) hl hx
 |msl _ r n a cap hu ht hn ha hx=>exact .msl _ r n a cap (E8 e) ht hn ha hx
 |cptr _ cs b off val Dw Ed=>exact .cptr _ cs b off val Dw Ed
 |ref _ r off b hu ht hx=>exact .ref _ r off b (E8 e) ht hx
 |eref _ r n sz i off b cap hu ht hn hx=>exact .eref _ r n sz i off b cap (E8 e) ht hn hx
 |mref _ r b hu ht hx=>exact .mref _ r b (E8 e) ht hx
 |cmap _ sh BX b es ck hS hb hm hv=>exact .cmap _ sh BX b es ck hS hb hm hv
theorem XX{st:St}{h:Nat→HO}:∀{l:List (Nat×AV)},vY st h l→∀i,Sp l i=.junk∨(st.t i=Sp l i∧Ul h (Sp l i)=true)
 | [],_,i=>.inl rfl
 |(j,a)::l,⟨h1,h2⟩,i=>by
  unfold Sp
  by_cases e:i=j
  ·subst e;simp only[CN,JJ];exact .inr h1
  ·simp only[Cz e,Ej];exact XX h2 i
theorem XW{st:St}{h hb:Nat→HO}(x7:∀j,hb j=.free∨(st.h j=hb j∧XP h (hb j)=true)):∀{l:List (Nat×HO)},vX st h l→∀i,Ai l hb i=.free∨(st.h i=Ai l hb i∧XP h (Ai l hb i)=true)
 | [],_,i=>x7 i
 |(j,a)::l,⟨h1,h2⟩,i=>by
  unfold Ai
  by_cases e:i=j
  ·subst e;simp only[CN,JJ];exact .inr h1
  ·simp only[Cz e,Ej];exact XW x7 h2 i
def Lh(cx:Cx)(h0:Nat→HO):Prop:=match cx.ext with | false=>∀i,h0 i=.free | true=>∀i,h0 i≠.free→1000≤i∧i<2000
section
variable {P:Program}{N:Nat}{ds:List Deferred}{w0:World}{g0:Gh}{h0:Nat→HO}{st:St}{g:Gh}{a:Act}{w:World}{cx:Cx}
theorem SR.weaken(hE:Lh cx h0)(hS:SR N ds w0 g0 h0 st g a w){s:LS}(Ho:St.le cx st s):SR N ds w0 g0 h0 s.st g a w:=by
 obtain⟨h1,h2,h3,h4⟩:=Ho;have hT:=XX h1;have hH:∀i,s.st.h i=.free∨(st.h i=s.st.h i∧XP s.st.h (s.st.h i)=true):=XW h3 h2;have L0:∀r,(s.st.h r).live→(st.h r).live:=fun r hl=>by
  rcases hH r with e | ⟨e,_⟩
  ·rw[e]at hl;exact hl.elim
  ·rw[e];exact hl
 have hI:=hS.inv;refine⟨⟨hI.os,hI.tape,hI.output,hI.size,hI.frame,hI.slt,fun r=>?_,fun r r' b l l'=>hI.inj r r' b (L0 r l) (L0 r' l'),fun r b l=>hI.loc r b (L0 r l),hI.sg,hI.glob⟩,⟨hS.le.gh,fun i hi=>?_,hS.le.keeps⟩,hS.dfs,hS.size,fun i=>?_⟩
 ·rcases hH r with e | ⟨e,e2⟩
  ·rw[e];trivial
  ·have ho:=hI.objs r;rw[e]at ho;generalize s.st.h r=o at ho e2;cases o with
   |cells cs =>
    obtain⟨t,b,E,vs,a1,a2,a3,a4,a5⟩:=ho;exact⟨t,b,E,vs,a1,a2,a3,⟨a4.1,a4.2.1,fun i av x q1 q2=>(a4.2.2 i av x q1 q2).ids (gj e2 q1)⟩,a5⟩
   |hol sz es i c av =>
    obtain⟨t,l,al,b,cap,E,vs,b1,b2,b3,b4,b5,b6,b7,b8,x,b9,YE⟩:=ho;exact⟨t,l,al,b,cap,E,vs,b1,b2,b3,b4,b5,b6,b7,b8,x,b9,YE.ids e2⟩
   |mapU sh BX =>
    obtain⟨t,b,es,ck,a1,a2,a3,a4,a5,a6⟩:=ho;exact⟨t,b,es,ck,a1,a2,a3,a4,fun i kv e q1 q2=>(a5 i kv e q1 q2).ids (cp e2 q1),a6⟩
   |_=>exact ho
 ·have hu:=hS.le.us i hi;unfold Lh at hE;split at hE
  ·exact absurd (hE i) hi
  ·rename_i hx;rw[hx]at h4;exact h4 i (hE i hi).1 (hE i hi).2 hu
 ·show BD g w (AP s.st.h) (Sp s.t i) _;rcases hT i with e | ⟨e,e2⟩
  ·rw[e];exact .junk _ _
  ·rw[←e]at e2⊢;exact(hS.slots i).ids e2
def Ex.real:Ex→Exit
 |.normal=>.normal
 |.exit id=>.exit id
 |.ret=>.ret
def pX(N:Nat)(o:Oper):Bool:=match o.dst with | some d=>Nat.blt d N | none=>true
def En(N:Nat):Code→Bool
 |.region _ ops _=>ops.toList.all (pX N)
 |.seq a b=>En N a&&En N b
 |.cond _ a b=>En N a&&En N b
 |.block _ c=>En N c
 |.loop c=>En N c
 |_=>true
theorem Nl(hP:cx.P=P)(hT:Cn P cx.T)(hm:P.follows .mixedOrders=true)(hE:Lh cx h0)(hY:∀l σ h g w,Ei σ=true→DB w0 g0 h0 h g w→Le h0 g0 w0 h g w→cx.yp l σ (Dq σ g) w)(ro:Option Nat):∀(c:Code),En N c=true→∀{Qa:Ex→St→Prop} {Q:Exit→Act→World→Prop},
  (∀e st g a w,Qa e st→SR N ds w0 g0 h0 st g a w→Q e.real a w)→∀{st:St} {g:Gh} {a:Act} {w:World},SR N ds w0 g0 h0 st g a w→Rc cx c Qa st→c.wpIn (JG ro) 0 P Q a w:=by
 intro c
 induction c with
 |skip=>intro _ Qa Q hQ st g a w hS hk;exact wpIn_skip (hQ .normal _ _ _ _ hk hS)
 |label l=>intro _ Qa Q hQ st g a w hS hk;exact wpIn_label (hQ .normal _ _ _ _ hk hS)
 |exit id=>intro _ Qa Q hQ st g a w hS hk;exact wpIn_exit (hQ (.exit id) _ _ _ _ hk hS)
 |ret=>intro _ Qa Q hQ st g a w hS hk;exact wpIn_ret (hQ .ret _ _ _ _ hk hS)
 |region id ops dr =>
  intro hc Qa Q hQ st g a w hS hk;have hd:∀o∈ops.toList,∀i,o.dst=some i→i<N:=fun o ho i hi=>by
   have:=(Bp.1 hc) o ho
   simpa[pX,hi]using this
  have go:∀(st:St) (g:Gh) (hS:SR N ds w0 g0 h0 st g a w) (oX : Cx),oX.P=P→Cn P oX.T→oX.yp=cx.yp→Mo oX ops dr st (Qa .normal)→(Code.region id ops dr).wpIn (JG ro) 0 P Q a w:=by
   intro st g hS oX hP hT hy hk;have hY:∀l σ h g w,Ei σ=true→DB w0 g0 h0 h g w→Le h0 g0 w0 h g w→oX.yp l σ (Dq σ g) w:=by rw[hy];exact hY
   unfold Mo at hk;split at hk
   ·exact wpIn_region_list (VL hP hT hY (fun D7 g' a' w' q1 q2=>hQ .normal _ _ _ _ q1 q2) ops.toList hd hS hk)
   ·obtain⟨_,FT,hk⟩:=bw hk;obtain⟨i1,i2⟩:=hS.inv.heapEq (w':={ w with drawn:=w.drawn+1 }) ⟨rfl,rfl,rfl⟩ rfl;have SD : SR N ds w0 g0 h0 st g a { w with drawn:=w.drawn+1 }:=⟨i1,hS.le.trans i2,hS.dfs,hS.size,fun i=>(hS.slots i).le i2⟩;exact wpIn_region_any hm (VF hP hT hY (fun D7 g' a' w' q1 q2=>hQ .normal _ _ _ _ q1 q2) (fun j o ho=>hd o (by simpa using Array.mem_of_getElem? ho)) _ _ SD hk)
  have qa:∀(st:St) (g:Gh) (hS:SR N ds w0 g0 h0 st g a w),(match cx.pl.dyn with | []=>Mo cx ops dr st (Qa .normal) | _=>∃n,Mo { cx with nid:=n } ops dr st (Qa .normal))→(Code.region id ops dr).wpIn (JG ro) 0 P Q a w:=by
   intro st g hS hk;split at hk
   ·exact go st g hS cx hP hT rfl hk
   ·obtain⟨n,hk⟩:=hk;exact go st g hS { cx with nid:=n } hP hT rfl hk
  unfold Rc pW at hk;split at hk
  ·split at hk
   ·split at hk
    ·split at hk
     ·obtain⟨h',g',SD,s,h1,h2⟩:=ly hS hk;exact qa s.st _ (SD.weaken hE h1) h2
     ·obtain⟨h',g',SD,s,h1,h2⟩:=mJ hS hk;exact qa s.st _ (SD.weaken hE h1) h2
    ·obtain⟨D7,g',SD,s,h1,h2⟩:=mK hS hk;exact qa s.st _ (SD.weaken hE h1) h2
   ·obtain⟨h',g',SD,s,h1,h2⟩:=mN hS hk;exact qa s.st _ (SD.weaken hE h1) h2
  ·exact qa st _ hS hk
 |seq x y ihx ihy =>
  intro hc Qa Q hQ st g a w hS hk;simp only[En,Af]at hc;refine wpIn_seq (ihx hc.1 (Qa:=fun e D7=>match e with | .normal=>Rc cx y Qa D7 | e=>Qa e D7) (fun e st g a w q hS=>?_) hS hk);cases e with
  |normal=>exact ihy hc.2 hQ hS q
  |exit id=>exact hQ (.exit id) _ _ _ _ q hS
  |ret=>exact hQ .ret _ _ _ _ q hS
 |cond c x y ihx ihy =>
  intro hc Qa Q hQ st g a w hS hk;simp only[En,Af]at hc;have hr:=hS.eval c;unfold Rc at hk;generalize hx:ev st.t c=v at hk hr;split at hk
  ·exact wpIn_cond_true hr.v_eq (ihx hc.1 hQ hS hk)
  ·exact wpIn_cond_false hr.v_eq (ihy hc.2 hQ hS hk)
  ·exact hk.elim
 |block id c ih =>
  intro hc Qa Q hQ st g a w hS hk;refine wpIn_block (ih hc (Qa:=fun e D7=>match e with | .exit j=>(bif Nat.beq j id then Qa .normal D7 else Qa (.exit j) D7) | e=>Qa e D7) (fun e st g a w q hS=>?_) hS hk);cases e with
  |normal=>exact hQ .normal _ _ _ _ q hS
  |ret=>exact hQ .ret _ _ _ _ q hS
  |exit j =>
   show(if j=id then Q .normal a w else Q (.exit j) a w);dsimp only at q
   by_cases e:j=id
   ·rw[Ao e];rw[e,CN,JJ]at q;exact hQ .normal _ _ _ _ q hS
   ·rw[Ah e];rw[Cz e,Ej]at q;exact hQ (.exit j) _ _ _ _ q hS
 |loop c ih =>
  intro hc Qa Q hQ st g a w hS hk;obtain⟨α,I,μ,⟨x,hx⟩,qu⟩:=hk;refine Rp (fun n a w=>∃x g,μ x=n∧SR N ds w0 g0 h0 (I x).st g a w) (μ x) ⟨x,g,rfl,hS.weaken hE hx⟩ ?_
  rintro n a w ⟨x,g,rfl,hS⟩
  refine ih hc (Qa:=fun e D7=>match e with | .normal=>∃y,μ y<μ x∧St.le cx D7 (I y) | e=>Qa e D7) (fun e st g a w q hS=>?_) hS (qu x);cases e with
  |normal =>
   obtain⟨y,q1,q2⟩:=q;exact⟨μ y,q1,y,g,rfl,hS.weaken hE q2⟩
  |exit id=>exact hQ (.exit id) _ _ _ _ q hS
  |ret=>exact hQ .ret _ _ _ _ q hS
 |_=>intro _ Qa Q hQ st g a w hS hk;exact hk.elim
end
section
variable {P:Program}{N:Nat}{ds:List Deferred}{w0:World}{g0:Gh}{h0:Nat→HO}{st:St}{g:Gh}{a:Act}{w:World}
theorem XY{T:Gs}(hT:Cn P T){h:Nat→HO}(ho:∀r,D6 g w (AP h) r (h r)){t:Nat}{p:AV}{vp:Value}{K:AV→Prop}(hp:BD g w (AP h) p vp)(hk:H9 T h t p K) :
  ∃ad,(asAddr vp).run P w=.ok ad w∧BF P h g w (loadVar t ad) K:=by
 obtain⟨x,av,h1,h2,h3⟩:=U8 ho hT hp hk;have fin:∀b off,vp=.pointer (some ⟨b,off,none⟩)→∃ad,(asAddr vp).run P w=.ok ad w∧BF P h g w (loadVar t ad) K:=by
  rintro b off rfl
  refine⟨⟨b,off,none⟩,by simp[asAddr],x,av,?_,h2,h3⟩;simpa[Instr.loadAt,Instr.sureAddr]using h1
 unfold H9 at hk;split at hk
 ·cases hp;exact fin _ _ rfl
 ·cases hp;exact fin _ _ rfl
 ·cases hp;exact fin _ _ rfl
 ·exact hk.elim
def ZK(tmps:Array Value):ResultVar→Sem Value
 |.tmp t=>pure (tmps.getD t undef)
 |.cell ad t=>do loadVar t (←asAddr (tmps.getD ad undef))
theorem NQ(fn:Func)(tmps:Array Value):results fn tmps=(do
 let vs ←fn.results.mapM (ZK tmps)
 pure (if h:vs.size=1 then vs[0]else .tuple vs)):=rfl
theorem Ww{cx:Cx}(hT:Cn P cx.T)(hS:SR N ds w0 g0 h0 st g a w):∀(rs:List ResultVar) {K:List AV→Prop},kU cx.T st rs K →
  ∃l vs,K l∧(rs.mapM (ZK a.tmps)).run P w=.ok vs w∧vs.length=l.length∧vs.length=rs.length ∧
   ∀(i:Nat) (av:AV) (x:Value),l[i]?=some av→vs[i]?=some x→BD g w Fi av x
 | [],K,hk=>⟨[],[],hk,by simp,rfl,rfl,fun i av x h=>by simp at h⟩
 |.tmp t::r,K,hk=>by
  obtain⟨l,vs,h1,h2,h3,h4,h5⟩:=Ww hT hS r hk;refine⟨_,a.tmps.getD t undef::vs,h1,?_,by simp[h3],by simp[h4],fun i av x q1 q2=>?_⟩
  ·rw[Kg];simp only[ZK,Sem.run_bind,Sem.run_pure,Result.andThen_ok,h2]
  ·cases i with
   |zero =>
    simp only[A7,Bi]at q1 q2;subst q1;subst q2;exact BD.str hS.inv.objs (hS.slots t)
   |succ i=>exact h5 i av x (by simpa using q1) (by simpa using q2)
 |.cell ad t::r,K,hk=>by
  obtain⟨addr,e1,x0,y7,e2,J4,e4⟩:=XY hT hS.inv.objs (hS.slots ad) hk;obtain⟨l,vs,h1,h2,h3,h4,h5⟩:=Ww hT hS r J4;refine⟨_,x0::vs,h1,?_,by simp[h3],by simp[h4],fun i av x q1 q2=>?_⟩
  ·rw[Kg];simp only[ZK,Sem.run_bind,Sem.run_pure,Result.andThen_ok,h2,e1,e2]
  ·cases i with
   |zero =>
    simp only[A7,Bi]at q1 q2;subst q1;subst q2;exact BD.str hS.inv.objs e4
   |succ i=>exact h5 i av x (by simpa using q1) (by simpa using q2)
theorem kT{cx:Cx}(hT:Cn P cx.T)(hS:SR N ds w0 g0 h0 st g a w){fn:Func}{K:AV→Prop}(hk:kS cx st fn.results.toList K) :
  ∃g' r v h',K r∧(results fn a.tmps).run P w=.ok v w∧DB w0 g0 h0 h' g' w∧Le h0 g0 w0 h' g' w∧BD g' w Fi r v:=by
 obtain⟨g',i1,i2⟩:=Mu cx.pl.fin hS.inv;have SD : SR N ds w0 g0 h0 ⟨st.t,OF st.h cx.pl.fin⟩ g' a w:=⟨i1,hS.le.trans i2,hS.dfs,hS.size,fun i=>(hS.slots i).le i2⟩;obtain⟨l,vs,h1,h2,h3,h4,h5⟩:=Ww hT SD _ hk;have CD:(results fn a.tmps).run P w=.ok (if h:vs.toArray.size=1 then vs.toArray[0]else .tuple vs.toArray) w:=by
  rw[NQ,show fn.results=fn.results.toList.toArray by simp,List.mapM_toArray];simp only[Sem.run_bind,Sem.run_map,h2,Result.andThen_ok,Sem.run_pure]
 refine⟨g',?_⟩
 match l,vs,h1,h3,h5,CD with
 | [v],[x],h1,h3,h5,CD=>exact⟨v,x,_,h1,by simpa using CD,i1,SD.le,h5 0 v x rfl rfl⟩
 | [],vs,h1,h3,h5,CD =>
  have:vs=[]:=AN h3
  subst this;exact⟨.tup [],.tuple #[],_,h1,by simpa using CD,i1,SD.le,.tup _ _ _ rfl fun i av x q=>by simp at q⟩
 |v::v' :: l,vs,h1,h3,h5,CD =>
  refine⟨.tup (v::v' :: l),.tuple vs.toArray,_,h1,?_,i1,SD.le,.tup _ _ _ (by simpa using h3) fun i av x q1 q2=>h5 i av x q1 (by simpa using q2)⟩;rw[CD]
  have:vs.toArray.size≠1:=by simp[h3]
  simp only[this,dif_neg,not_false_eq_true]
theorem DB.toFree(hI:DB w0 g0 Ab st.h g w):DB w0 g0 Ab Ab g w :=
 ⟨hI.os,hI.tape,hI.output,hI.size,hI.frame,hI.slt,fun _=>trivial,fun _ _ _ h=>h.elim,fun _ _ h=>h.elim,hI.sg,hI.glob⟩
theorem Oo{U:Nat→Prop}{n:Nat}:∀{args:List AV} {vals:List Value},vals.length=args.length→(∀(i:Nat) (av:AV) (x:Value),args[i]?=some av→vals[i]?=some x→BD g w U av x) →
  ∀i,BD g w U (On args i) ((vals++List.replicate n undef).getD i undef)
 | [],[],_,_,i=>by
  have:(([]:List Value)++List.replicate n undef).getD i undef=undef:=by
   rw[Fx,BT,List.getElem?_replicate];split<;>rfl
  rw[this];exact .v _ _
 | [],_::_,h,_,_=>by simp at h
 |_::_,[],h,_,_=>by simp at h
 |x::l,v::vs,h,hr,i=>by
  cases i with
  |zero=>exact hr 0 x v rfl rfl
  |succ i =>
   have:=Oo (n:=n) (args:=l) (vals:=vs) (by simpa using h) (fun i av x q1 q2=>hr (i+1) av x (by simpa using q1) (by simpa using q2)) i
   simpa[On]using this
theorem dW {f : Nat} {fn : Func} {c : Code} {args : List AV} {Q : AV → Prop} (cx : Cx) (hP : cx.P = P) (hT : Cn P cx.T) (hm : P.follows .mixedOrders = true) (hx : cx.ext = false) (hf : P.funcs[f]? = some fn) (hn : (fn.name == "runtime.NumGoroutine") = false)
  (hb:fn.body=some c) (hN:args.length≤fn.ntmps) (hc:En fn.ntmps c=true) (hk:Rc cx c (nf cx fn.results.toList Q) ⟨On args,Ab⟩) (hY:∀l σ g w,cx.yp l σ g w:=by exact fun _ _ _ _=>trivial):A3 P f args Ab fun r h'=>h'=Ab∧Q r:=by
 refine⟨⟨fn,hf,hn,by simp[hb]⟩,fun g w vals hs hv hI=>calls_of_wp hf hb ?_⟩;have hU:AP Ab=Fi:=by funext i;unfold AP Fi Ab;simp
 have hS:SR fn.ntmps [] w g Ab ⟨On args,Ab⟩ g { tmps:=vals++Array.replicate (fn.ntmps-vals.size) undef,defers:=[] } w:=by
  refine⟨hI,.refl _ _ _,rfl,by simp[hs];omega,fun i=>?_⟩
  have:=Oo (n:=fn.ntmps-vals.size) (args:=args) (vals:=vals.toList) (by simpa using hs) (fun i av x q1 q2=>hv i av x q1 (by simpa using q2)) i
  rw[Cg,←A0];rw[BT]at this;simpa using this
 refine wpIn_wide.1 (Nl hP hT hm (by unfold Lh;rw[hx];exact fun _=>rfl) (fun l σ _ _ w _ _ _=>hY l σ _ w) none c hc (fun e st g' a w' hk hS=>?_) hS hk);have out:kS cx st fn.results.toList Q→a.defers=[]∧∃v,(results fn a.tmps).run P w'=.ok v w'∧∃v' r h' g',(Ending.returned v:Ending)=.returned v'∧(h'=Ab∧Q r)∧BD g' w' (AP h') r v'∧DB w g Ab h' g' w'∧Le Ab g w h' g' w':=by
  intro hk;obtain⟨g2,r,v,h',q1,q2,q3,q4,q5⟩:=kT hT hS hk;exact⟨hS.dfs,v,q2,v,r,Ab,g2,rfl,⟨rfl,q1⟩,by rw[hU];exact q5,DB.toFree (st:=⟨st.t,h'⟩) q3,⟨fun i hi=>absurd rfl hi,fun i hi=>absurd rfl hi,q4.keeps⟩⟩
 cases e with
 |normal=>exact out hk
 |ret=>exact out hk
 |exit id=>exact hk.elim
theorem RD{cx:Cx}(hT:Cn P cx.T)(hS:SR N ds w0 g0 h0 st g a w):∀(rs:List ResultVar) {K:List AV→Prop},kV cx.T st rs K →
  ∃l vs,K l∧(rs.mapM (ZK a.tmps)).run P w=.ok vs w∧vs.length=l.length∧vs.length=rs.length ∧
   ∀(i:Nat) (av:AV) (x:Value),l[i]?=some av→vs[i]?=some x→BD g w (AP st.h) av x
 | [],K,hk=>⟨[],[],hk,by simp,rfl,rfl,fun i av x h=>by simp at h⟩
 |.tmp t::r,K,hk=>by
  obtain⟨l,vs,h1,h2,h3,h4,h5⟩:=RD hT hS r hk;refine⟨_,a.tmps.getD t undef::vs,h1,?_,by simp[h3],by simp[h4],fun i av x q1 q2=>?_⟩
  ·rw[Kg];simp only[ZK,Sem.run_bind,Sem.run_pure,Result.andThen_ok,h2]
  ·cases i with
   |zero =>
    simp only[A7,Bi]at q1 q2;subst q1;subst q2;exact hS.slots t
   |succ i=>exact h5 i av x (by simpa using q1) (by simpa using q2)
 |.cell ad t::r,K,hk=>by
  obtain⟨addr,e1,x0,y7,e2,J4,e4⟩:=XY hT hS.inv.objs (hS.slots ad) hk;obtain⟨l,vs,h1,h2,h3,h4,h5⟩:=RD hT hS r J4;refine⟨_,x0::vs,h1,?_,by simp[h3],by simp[h4],fun i av x q1 q2=>?_⟩
  ·rw[Kg];simp only[ZK,Sem.run_bind,Sem.run_pure,Result.andThen_ok,h2,e1,e2]
  ·cases i with
   |zero =>
    simp only[A7,Bi]at q1 q2;subst q1;subst q2;exact e4
   |succ i=>exact h5 i av x (by simpa using q1) (by simpa using q2)
theorem Gj{σ:IV}:∀{H0:List (Nat×HO)},Iq σ H0=true→∀i,Ai H0 Ab i≠.free→1000≤i∧i<2000∧Cf σ i=some i
 | [],_,i,h=>absurd rfl h
 |(a,o)::r,hx,i,h=>by
  simp only[Iq,Af,CV,B9]at hx;obtain⟨⟨⟨h1,h2⟩,h3⟩,h4⟩:=hx
  by_cases e:i=a
  ·subst e;refine⟨h1,h2,?_⟩;split at h3
   ·rename_i j e;rw[e,AH h3]
   ·cases h3
  ·unfold Ai at h;simp only[Cz e,Ej]at h;exact Gj h4 i h
theorem Oq{H0:List (Nat×HO)}{σ:IV}(hσ:GH σ=true)(hx:Iq σ H0=true){h:Nat→HO}(hI:DB w0 g0 (Ai H0 Ab) h g w)(hL:Le (Ai H0 Ab) g0 w0 h g w) :
  Kj (Cf σ) h (Fz σ h) g (Dq σ g) w∧DB w0 g0 (Ai H0 Ab) (Fz σ h) (Dq σ g) w∧Le (Ai H0 Ab) g0 w0 (Fz σ h) (Dq σ g) w:=by
 have inv:=Wp hσ;have Fc:∀j,Fz σ h j=match HL σ j with | some i=>(h i).ren (Cf σ) h | none=>.free:=O0 _ _ σ
 have hR:Kj (Cf σ) h (Fz σ h) g (Dq σ g) w:=by
  refine⟨fun r r' hr hu=>?_,fun b o=>Qq,hI.objs⟩;have hb:=(inv r r').1 hr;refine⟨by simp[Dq,hb],by simp[Dq,hb],by simp[Dq,hb],by simp[Dq,hb],?_⟩;unfold AP;rw[Fc,hb];exact(Md _ _ _).2 hu
 have L0:∀j,(Fz σ h j).live→∃i,HL σ j=some i∧(h i).live:=fun j hl=>by
  rw[Fc]at hl;cases e:HL σ j with
  |none=>rw[e]at hl;exact hl.elim
  |some i=>rw[e]at hl;exact⟨i,rfl,(Mc _ _ _).1 hl⟩
 have Wl:∀j i,HL σ j=some i→(Dq σ g).own j=g.own i:=fun j i e=>by simp[Dq,e]
 refine⟨hR,⟨hI.os,hI.tape,hI.output,hI.size,hI.frame,hI.slt,fun j=>?_,fun j j' b hl PG e e'=>?_,fun j b hl e=>?_,hI.sg,hI.glob⟩,⟨fun i hi=>?_,fun i hi=>?_,hL.keeps⟩⟩
 ·rw[Fc];cases e:HL σ j with
  |none=>trivial
  |some i =>
   by_cases hu:AP h i
   ·exact(hI.objs i).ren hR ((inv i j).2 e) hu
   ·have:h i=.free:=BQ.1 hu
    dsimp only;rw[this];trivial
 ·obtain⟨i,e1,l1⟩:=L0 j hl;obtain⟨i',e2,l2⟩:=L0 j' PG;rw[Wl j i e1]at e;rw[Wl j' i' e2]at e';obtain rfl:=hI.inj i i' b l1 l2 e e'
  have:=(inv i j).2 e1
  rw[(inv i j').2 e2]at this;cases this;rfl
 ·obtain⟨i,e1,l1⟩:=L0 j hl;rw[Wl j i e1]at e;exact hI.loc i b l1 e
 ·obtain⟨_,_,hf⟩:=Gj hx i hi;have hb:=(inv i i).1 hf;have e1:(Dq σ g).ρ i=g.ρ i∧(Dq σ g).ln i=g.ln i∧(Dq σ g).tk i=g.tk i:=by simp[Dq,hb]
  obtain⟨k1,k2,k3,k4⟩:=hL.gh i hi;exact⟨e1.2.2.trans k1,by omega,fun t=>e1.1.trans (k3 t),fun l=>e1.1.trans (k4 (by omega))⟩
 ·obtain⟨_,_,hf⟩:=Gj hx i hi;have hb:=(inv i i).1 hf;unfold AP;rw[Fc,hb];exact(Md _ _ _).2 (hL.us i hi)
theorem XB{f:Nat}{fn:Func}{c:Code}{args:List AV}{H0:List (Nat×HO)}{Q:AV→(Nat→HO)→Prop}(cx:Cx)(σ:IV)(hP:cx.P=P)(hT:Cn P cx.T)(hm:P.follows .mixedOrders=true)(hx:cx.ext=true)(hf:P.funcs[f]?=some fn)
  (_hn : (fn.name == "runtime.NumGoroutine") = false) (hb : fn.body = some c) (hN : args.length ≤ fn.ntmps) (hc : En fn.ntmps c = true) (hσ : (GH σ && Iq σ H0) = true)
  (hk:Rc cx c (Xl cx fn.results.toList σ Q) ⟨On args,Ai H0 Ab⟩)
  {g:Gh} {w:World} {vals:Array Value} (hs:vals.size=args.length) (hv:∀(i:Nat) (av:AV) (x:Value),args[i]?=some av→vals[i]?=some x→BD g w (AP (Ai H0 Ab)) av x) (hI:DB w g (Ai H0 Ab) (Ai H0 Ab) g w)
  (hY:∀l σ h' g' w',Ei σ=true→DB w g (Ai H0 Ab) h' g' w'→Le (Ai H0 Ab) g w h' g' w'→cx.yp l σ (Dq σ g') w') :
  Calls P f vals w fun e w'=>∃v r h' g',e=.returned v∧Q r h'∧BD g' w' (AP h') r v∧DB w g (Ai H0 Ab) h' g' w'∧Le (Ai H0 Ab) g w h' g' w':=by
 simp only[Af]at hσ;obtain⟨hσ,ma⟩:=hσ;refine calls_of_wp hf hb ?_;have hS:SR fn.ntmps [] w g (Ai H0 Ab) ⟨On args,Ai H0 Ab⟩ g { tmps:=vals++Array.replicate (fn.ntmps-vals.size) undef,defers:=[] } w:=by
  refine⟨hI,.refl _ _ _,rfl,by simp[hs];omega,fun i=>?_⟩
  have:=Oo (n:=fn.ntmps-vals.size) (args:=args) (vals:=vals.toList) (by simpa using hs) (fun i av x q1 q2=>hv i av x q1 (by simpa using q2)) i
  rw[Cg,←A0];rw[BT]at this;simpa using this
 refine wpIn_wide.1 (Nl hP hT hm (by unfold Lh;rw[hx];exact fun i hi=>⟨(Gj ma i hi).1,(Gj ma i hi).2.1⟩) hY none c hc (fun e st g' a w' hk hS=>?_) hS hk);have out:cX cx st fn.results.toList σ Q→a.defers=[]∧∃v,(results fn a.tmps).run P w'=.ok v w'∧∃v' r h' g',(Ending.returned v:Ending)=.returned v'∧Q r h'∧BD g' w' (AP h') r v'∧DB w g (Ai H0 Ab) h' g' w'∧Le (Ai H0 Ab) g w h' g' w':=by
  intro hk;obtain⟨g2,i1,i2⟩:=Mu cx.pl.fin hS.inv;have SD : SR fn.ntmps [] w g (Ai H0 Ab) ⟨st.t,OF st.h cx.pl.fin⟩ g2 a w':=⟨i1,hS.le.trans i2,hS.dfs,hS.size,fun i=>(hS.slots i).le i2⟩;obtain⟨l,vs,h1,h2,h3,h4,h5⟩:=RD hT SD _ hk;obtain⟨hR,j1,j2⟩:=Oq hσ ma i1 SD.le;have CD:(results fn a.tmps).run P w'=.ok (if h:vs.toArray.size=1 then vs.toArray[0]else .tuple vs.toArray) w':=by
   rw[NQ,show fn.results=fn.results.toList.toArray by simp,List.mapM_toArray];simp only[Sem.run_bind,Sem.run_map,h2,Result.andThen_ok,Sem.run_pure]
  refine⟨hS.dfs,?_⟩
  match l,vs,h1,h3,h5,CD with
  | [v],[x],h1,h3,h5,CD=>exact⟨x,by simpa using CD,x,_,_,_,rfl,h1,(h5 0 v x rfl rfl).ren hR,j1,j2⟩
  | [],vs,h1,h3,h5,CD =>
   have:vs=[]:=AN h3
   subst this;exact⟨.tuple #[],by simpa using CD,.tuple #[],_,_,_,rfl,h1,BD.ren hR (.tup _ [] _ rfl fun i av x q=>by simp at q),j1,j2⟩
  |v::v' :: l,vs,h1,h3,h5,CD =>
   refine⟨.tuple vs.toArray,?_,.tuple vs.toArray,_,_,_,rfl,h1,BD.ren hR (.tup _ _ _ (by simpa using h3) fun i av x q1 q2=>h5 i av x q1 (by simpa using q2)),j1,j2⟩;rw[CD]
   have:vs.toArray.size≠1:=by simp[h3]
   simp only[this,dif_neg,not_false_eq_true]
 cases e with
 |normal=>exact out hk
 |ret=>exact out hk
 |exit id=>exact hk.elim
theorem fu{f:Nat}{fn:Func}{c:Code}{args:List AV}{H0:List (Nat×HO)}{Q:AV→(Nat→HO)→Prop}(cx:Cx)(σ:IV)(hP:cx.P=P)(hT:Cn P cx.T)(hm:P.follows .mixedOrders=true)(hx:cx.ext=true)(hf:P.funcs[f]?=some fn)
  (hn : (fn.name == "runtime.NumGoroutine") = false) (hb : fn.body = some c) (hN : args.length ≤ fn.ntmps) (hc : En fn.ntmps c = true) (hσ : (GH σ && Iq σ H0) = true)
  (hk:Rc cx c (Xl cx fn.results.toList σ Q) ⟨On args,Ai H0 Ab⟩) (hY:∀l σ g w,cx.yp l σ g w:=by exact fun _ _ _ _=>trivial):A3 P f args (Ai H0 Ab) Q :=
 ⟨⟨fn,hf,hn,by simp[hb]⟩,fun g w vals hs hv hI=>XB cx σ hP hT hm hx hf hn hb hN hc hσ hk hs hv hI (fun l σ _ _ w _ _ _=>hY l σ _ w)⟩
end
def Hk(r r' : AV):Prop:=∀(g:Gh) (w:World) (U:Nat→Prop) (x:Value),BD g w U r x→BD g w U r' x
theorem Hk.refl(r:AV):Hk r r:=fun _ _ _ _ h=>h
theorem Hk.of_eq{r r' : AV}(h:r=r'):Hk r r':=h▸.refl r
theorem Hk.trans{a b c:AV}(h:Hk a b)(k:Hk b c):Hk a c:=fun g w U x r=>k g w U x (h g w U x r)
theorem Hk.nil:Hk (.v (.slice none 0 0)) (.slice .none []):=fun _ _ _ _ h=>by cases h;exact .snil _ _ _
def Pq:List AV→List AV→Prop
 | [],[]=>True
 |a::r,b::s=>Hk a b∧Pq r s
 |_,_=>False
theorem Pq.len:∀{l l' : List AV},Pq l l'→l'.length=l.length
 | [],[],_=>rfl
 |_::_,_::_,h=>Ac (·+1) h.2.len
 | [],_::_,h=>h.elim
 |_::_,[],h=>h.elim
theorem Pq.get:∀{l l' : List AV},Pq l l'→∀(i:Nat) (b:AV),l'[i]?=some b→∃a,l[i]?=some a∧Hk a b
 | [],[],_,i,b,h=>by simp at h
 |a::r,b::s,hs,i,c,h=>by
  cases i with
  |zero=>simp only[A7,Bi]at h;subst h;exact⟨a,rfl,hs.1⟩
  |succ i=>exact Pq.get hs.2 i c (by simpa using h)
 | [],_::_,h,_,_,_=>h.elim
 |_::_,[],h,_,_,_=>h.elim
theorem Hk.tup{l l' : List AV}(h:Pq l l'):Hk (.tup l) (.tup l'):=fun g w U x r=>by
 cases r with
 |tup _ _ vs hs hr =>
  refine .tup _ _ vs (by rw[hs,h.len]) fun i av x q1 q2=>?_;obtain⟨a,e1,e2⟩:=h.get i av q1;exact e2 _ _ _ _ (hr i a x e1 q2)
theorem Hk.agg{l l' : List AV}(h:Pq l l'):Hk (.agg l) (.agg l'):=fun g w U x r=>by
 cases r with
 |agg _ _ vs hs h1 hr =>
  refine .agg _ _ vs (by rw[hs,h.len]) h1 fun i av x q1 q2=>?_;obtain⟨a,e1,e2⟩:=h.get i av q1;exact e2 _ _ _ _ (hr i a x e1 q2)
def YL:List (List AV)→List (List AV)→Prop
 | [],[]=>True
 |a::r,b::s=>Pq a b∧YL r s
 |_,_=>False
theorem YL.len:∀{l l' : List (List AV)},YL l l'→l'.length=l.length
 | [],[],_=>rfl
 |_::_,_::_,h=>Ac (·+1) h.2.len
 | [],_::_,h=>h.elim
 |_::_,[],h=>h.elim
theorem YL.get:∀{l l' : List (List AV)},YL l l'→∀(i:Nat) (b:List AV),l'[i]?=some b→∃a,l[i]?=some a∧Pq a b
 | [],[],_,i,b,h=>by simp at h
 |a::r,b::s,hs,i,c,h=>by
  cases i with
  |zero=>simp only[A7,Bi]at h;subst h;exact⟨a,rfl,hs.1⟩
  |succ i=>exact YL.get hs.2 i c (by simpa using h)
 | [],_::_,h,_,_,_=>h.elim
 |_::_,[],h,_,_,_=>h.elim
theorem Hk.slice{l l' : List (List AV)}(h:YL l l'):Hk (.slice .none l) (.slice .none l'):=fun g w U x r=>by
 have Cq:=h.len;cases r with
 |snil _ a cap =>
  have:l'=[]:=AN (by rw[Cq];rfl)
  subst this;exact .snil _ a cap
 |slice _ _ b off sz cap val hc hl Dw Ed =>
  rw[←Cq];refine .slice _ _ b off sz cap val (by rw[Cq];exact hc) (fun i cs hi=>?_) (fun i cs j av hi hj=>?_) (fun i cs j av hi hj=>?_)
  ·obtain⟨a,e1,e2⟩:=h.get i cs hi;rw[e2.len];exact hl i a e1
  ·obtain⟨a,e1,e2⟩:=h.get i cs hi;obtain⟨c,f1,f2⟩:=e2.get j av hj;exact Dw i a j c e1 f1
  ·obtain⟨a,e1,e2⟩:=h.get i cs hi;obtain⟨c,f1,f2⟩:=e2.get j av hj;exact f2 _ _ _ _ (Ed i a j c e1 f1)
section
variable {P:Program}
theorem A3.mono{f:Nat}{args:List AV}{h0:Nat→HO}{Q Q' : AV→(Nat→HO)→Prop}(h:A3 P f args h0 Q)(hq:∀r h',Q r h'→∃r',Hk r r'∧Q' r' h'):A3 P f args h0 Q' :=
 ⟨h.1,fun g w vals q1 q2 q3=>(h.2 g w vals q1 q2 q3).mono fun _ _ ⟨v,r,h',g',e1,e2,e3,rest⟩ =>
  let ⟨r',s,k⟩:=hq r h' e2
  ⟨v,r',h',g',e1,k,s _ _ _ _ e3,rest⟩⟩
theorem A3.args{f:Nat}{args args' : List AV}{h0:Nat→HO}{Q:AV→(Nat→HO)→Prop}(h:A3 P f args h0 Q)(hs:Pq args' args):A3 P f args' h0 Q :=
 ⟨h.1,fun g w vals q1 q2 q3=>h.2 g w vals (by rw[q1,hs.len]) (fun i av x e1 e2=>by
  obtain⟨a,f1,f2⟩:=hs.get i av e1;exact f2 _ _ _ _ (q2 i a x f1 e2)) q3⟩
theorem Jc.args{f:Nat}{args args' : List AV}{res:AV}(h:Jc P f args res)(hs:Pq args' args):Jc P f args' res:=A3.args h hs
theorem FZ {f : Nat} {fn : Func} {c : Code} {args : List AV} {res : AV} (cx : Cx) (hP : cx.P = P) (hT : Cn P cx.T) (hm : P.follows .mixedOrders = true) (hx : cx.ext = false) (hf : P.funcs[f]? = some fn) (hn : (fn.name == "runtime.NumGoroutine") = false)
  (hb:fn.body=some c) (hN:args.length≤fn.ntmps) (hc:En fn.ntmps c=true) (hk:Rc cx c (nf cx fn.results.toList fun r=>Hk r res) ⟨On args,Ab⟩) (hY:∀l σ g w,cx.yp l σ g w:=by exact fun _ _ _ _=>trivial):Jc P f args res :=
 (dW cx hP hT hm hx hf hn hb hN hc hk hY).mono fun _ _ ⟨e1,e2⟩=>⟨res,e2,rfl,e1⟩
end
end Go.Eng
namespace Go.Eng
open Go.ChangeShapes Go.WideShapes
def ft(w:World):Gh:=⟨fun _=>undef,fun _=>0,fun _=>false,fun _=>none,fun b _=>b<w.heap.size⟩
theorem Z0{w:World}{b o:Nat}{v:Value}(h:w.cell? ⟨b,o,none⟩=some v):b<w.heap.size:=by
 unfold World.cell? at h;cases hh:w.heap[b]? with
 |none=>simp[hh]at h
 |some x=>exact(Bl.1 hh).1
theorem rf{w:World}(hg:∃m,w.cell? ⟨0,0,none⟩=some (.int .i64 m))(ht:∀x∈p7,x.1<w.heap.size∧w.cell? ⟨x.1,x.2.1,none⟩=x.2.2):DB w (ft w) Ab Ab (ft w) w where
 os:=rfl
 tape:=rfl
 output:=rfl
 size:=Al _
 frame:=fun _ _ _=>rfl
 slt:=fun _ _ h=>h
 objs:=fun _=>trivial
 inj:=fun _ _ _ h=>h.elim
 loc:=fun _ _ h=>h.elim
 sg:=fun _ _ h=>.inl h
 glob:=⟨⟨by obtain⟨m,h⟩:=hg;exact Z0 h,hg⟩,fun x hx=>ht x hx⟩
theorem Tf{α β:Type}{f:α→Option β}:∀{l:List α} {r:List β},l.mapM f=some r→r.length=l.length∧∀(i:Nat) x,l[i]?=some x→∃y,r[i]?=some y∧f x=some y
 | [],r,h=>by simp at h;subst h;simp
 |a::l,r,h=>by
  rw[Kg]at h;cases ha:f a with
  |none=>simp[ha]at h
  |some b =>
   cases hl:l.mapM f with
   |none=>simp[ha,hl]at h
   |some s =>
    simp[ha,hl]at h;subst h;obtain⟨h1,h2⟩:=Tf hl;refine⟨by simp[h1],fun i x hx=>?_⟩;cases i with
    |zero=>simp at hx;subst hx;exact⟨b,by simp,ha⟩
    |succ i=>obtain⟨y,h3,h4⟩:=h2 i x (by simpa using hx);exact⟨y,by simpa using h3,h4⟩
theorem UK{w:World}{base:Nat}{a:Addr}{n:Nat}{cs:List Value}(h:w.cells? base a n=some cs) :
  cs.length=n∧(0<n→a.spot=none)∧∀j,j<n→∃v,cs[j]?=some v∧w.cell? ⟨a.block,a.off+j,none⟩=some v:=by
 unfold World.cells? at h;split at h
 ·obtain⟨h1,h2⟩:=Tf h;have one:∀j,j<n→∃v,cs[j]?=some v∧w.cell? (a.add j)=some v:=fun j hj=>by
   obtain⟨v,e1,e2⟩:=h2 j j (by simp[hj]);exact⟨v,e1,e2⟩
  have rc:0<n→a.spot=none:=fun hn=>by
   obtain⟨v,_,hv⟩:=one 0 hn;simp only[Addr.add,Ao]at hv;cases hs:a.spot with
   |none=>rfl
   |some s =>
    simp only[World.cell?]at hv;split at hv
    ·simp[hs]at hv
    ·cases hv
  refine⟨by simpa using h1,rc,fun j hj=>?_⟩;obtain⟨v,e1,e2⟩:=one j hj;refine⟨v,e1,?_⟩;have hs:=rc (by omega);have e:a.add j=⟨a.block,a.off+j,none⟩:=by
   unfold Addr.add;split
   ·rename_i h0;subst h0;cases a;simp_all
   ·rfl
  rw[←e];exact e2
 ·cases h
section
variable {H:Type}{enc:TypeId×Value→H}{P:Program}{w:World}{bk:DataW H→Nat}{N:Nat}
structure VA(bk:DataW H→Nat):Prop where
 slice:∀es sp,es.length≤bk (.slice es sp)∧∀d∈es,bk d≤bk (.slice es sp)
 agg:∀ps,∀d∈ps,bk d≤bk (.agg ps)
 str:∀b:List UInt8,b.length≤bk (.lit (.string b))
def JH(enc:TypeId×Value→H)(P:Program)(w:World)(bk:DataW H→Nat)(N:Nat)(t:TypeId){α:Type}(e:α→List AV)(ok:α→Prop):Prop :=
 ∀(fuel:Nat) (cs:List Value) (d:DataW H) (ps:List MemPlace),DataW.trod enc P w 0 (fun _=>true) true fuel t cs=some (d,ps)→bk d≤N→∃x:α,Cu (ft w) w Fi (e x) cs∧ok x
theorem Qp{g:Gh}{U:Nat→Prop}{a:AV}{v:Value}(h1:v.oneCell'=true)(h2:BD g w U a v):Cu g w U [a] [v]:=by
 refine⟨rfl,fun x hx=>by simp at hx;subst hx;exact h1,fun i av x q1 q2=>?_⟩;cases i with
 |zero=>simp at q1 q2;subst q1;subst q2;exact h2
 |succ i=>simp at q1
theorem dG{g:Gh}{U:Nat→Prop}{a b:List AV}{c d:List Value}(h:Cu g w U a c)(k:Cu g w U b d):Cu g w U (a++b) (c++d):=by
 obtain⟨h1,h2,h3⟩:=h;obtain⟨k1,k2,k3⟩:=k;refine⟨by simp[h1,k1],fun x hx=>(AU.1 hx).elim (h2 x) (k2 x),fun i av x q1 q2=>?_⟩
 by_cases hi:i<a.length
 ·rw[AX hi]at q1;rw[AX (by omega)]at q2;exact h3 i av x q1 q2
 ·rw[AY (by omega)]at q1;rw[AY (by omega),h1]at q2;exact k3 _ av x q1 q2
theorem oU{g:Gh}{U:Nat→Prop}:Cu g w U [] []:=⟨rfl,(fun x hx=>by cases hx),fun i av x q1=>by simp at q1⟩
theorem Vg{t:TypeId}{k:IntKind}(hu:P.underlying t=some (.int k)):JH enc P w bk N t (fun n:Int=>[AV.v (.int k n)]) (fun n=>k.min≤n∧n≤k.max):=by
 intro fuel cs d ps h _;cases fuel with
 |zero=>simp[DataW.trod]at h
 |succ fuel =>
  rw[DataW.trod_step]at h;unfold DataW.trodStep at h;rw[hu]at h;split at h<;>rename_i he<;>first | cases he | skip
  all_goals first | (split at h<;>first | cases h | skip) | cases h | skip
  rename_i n hc _;obtain⟨rfl,hw⟩:=hc;simp only[Lit.wf,Af,As]at hw;exact⟨_,Qp rfl (.v _ _),hw⟩
theorem Zw{t:TypeId}(hu:P.underlying t=some .bool):JH enc P w bk N t (fun b:Bool=>[AV.v (.bool b)]) (fun _=>True):=by
 intro fuel cs d ps h _;cases fuel with
 |zero=>simp[DataW.trod]at h
 |succ fuel =>
  rw[DataW.trod_step]at h;unfold DataW.trodStep at h;rw[hu]at h;split at h<;>rename_i he<;>first | cases he | skip
  all_goals first | cases h | skip
  exact⟨_,Qp rfl (.v _ _),trivial⟩
theorem Wv{t:TypeId}(hB:VA bk)(hu:P.underlying t=some .string):JH enc P w bk N t (fun s:ByteArray=>[AV.v (.string s)]) (fun s=>s.size≤N):=by
 intro fuel cs d ps h hb;cases fuel with
 |zero=>simp[DataW.trod]at h
 |succ fuel =>
  rw[DataW.trod_step]at h;unfold DataW.trodStep at h;rw[hu]at h;split at h<;>rename_i he<;>first | cases he | skip
  all_goals first | (split at h<;>first | cases h | skip) | cases h | skip
  rename_i s hs;refine⟨s,Qp rfl (.v _ _),?_⟩
  have:=hB.str s.data.toList
  have e:s.data.toList.length=s.size:=by rw[BY];rfl
  omega
theorem Iy{t e:TypeId}{α:Type}{E:α→List AV}{ok:α→Prop}{m:Nat}(hB:VA bk)(hu:P.underlying t=some (.slice e))(hm:P.cellsOf e=m+1)(hE:∀x,(E x).length=m+1)(he:JH enc P w bk N e E ok) :
  JH enc P w bk N t (fun l:List α=>[AV.slice .none (l.map E)]) (fun l=>l.length≤N∧∀x∈l,ok x):=by
 intro fuel cs d ps h hb;cases fuel with
 |zero=>simp[DataW.trod]at h
 |succ fuel =>
  rw[DataW.trod_step]at h;unfold DataW.trodStep at h;rw[hu]at h;split at h<;>rename_i hq<;>first | cases hq | skip
  all_goals first | (cases h;done) | skip
  ·cases h
   exact⟨[],Qp rfl (.snil _ _ _),AJ _,fun x hx=>by cases hx⟩
  ·rename_i a len cap;simp only at h;split at h
   ·rename_i hc;simp only[AW,RN]at h;obtain⟨lH,zV,rest,_,hd⟩:=h;simp only[FM]at hd;obtain⟨hd,_⟩:=hd;obtain⟨hl,Fc⟩:=Tf zV;rw[Qs]at hl;have uQ:=hB.slice (lH.map (·.1)) (rest.map (·.1));rw[hd]at uQ;rw[A6]at uQ;have one:∀i,i<len→∃(x:α) (vs:List Value),w.cells? 0 (a.add (i*P.cellsOf e)) (P.cellsOf e)=some vs∧Cu (ft w) w Fi (E x) vs∧ok x:=fun i hi=>by
     obtain⟨y,hy,hf⟩:=Fc i i (by simp[hi]);simp only[RN]at hf;obtain⟨vs,hv,ht⟩:=hf;obtain⟨x,r1,r2⟩:=he fuel vs y.1 y.2 ht (Br (uQ.2 y.1 (Ak.2 ⟨y,Ar hy,rfl⟩)) hb);exact⟨x,vs,hv,r1,r2⟩
    have build:∀k,k≤len→∃l:List α,l.length=k∧∀(i:Nat) x,l[i]?=some x→∃vs:List Value,w.cells? 0 (a.add (i*P.cellsOf e)) (P.cellsOf e)=some vs∧Cu (ft w) w Fi (E x) vs∧ok x:=fun k=>by
     induction k with
     |zero=>exact fun _=>⟨[],rfl,fun i x q=>by simp at q⟩
     |succ k ih =>
      intro hk;obtain⟨l,h1,h2⟩:=ih (by omega);obtain⟨x,hx⟩:=one k (by omega);refine⟨l++[x],by simp[h1],fun i y q=>?_⟩
      by_cases hi:i<l.length
      ·rw[AX hi]at q;exact h2 i y q
      ·rw[AY (by omega)]at q
       have:i-l.length=0:=by
        cases hz:i-l.length with
        |zero=>rfl
        |succ z=>rw[hz]at q;simp at q
       rw[this]at q;simp only[A7,Bi]at q;subst q
       have:i=k:=by omega
       subst this;exact hx
    obtain⟨l,h1,h2⟩:=build len (Al _);refine⟨l,Qp rfl ?_,by omega,fun x hx=>?_⟩
    ·cases Cq:len with
     |zero =>
      have:l=[]:=AN (by omega)
      subst this;exact .snil _ _ _
     |succ n =>
      have rc:a.spot=none:=by
       obtain⟨x,vs,hv,_⟩:=one 0 (by omega)
       have:=(UK hv).2.1 (by omega)
       simpa[Addr.add]using this
      have ea:a=⟨a.block,a.off,none⟩:=by cases a;simp_all
      rw[←Cq,←h1,show l.length=(l.map E).length by simp,ea];have cell:∀(i:Nat) (c:List AV) (j:Nat) (av:AV),(l.map E)[i]?=some c→c[j]?=some av→∃v,w.cell? ⟨a.block,a.off+i*(m+1)+j,none⟩=some v∧v.oneCell'=true∧BD (ft w) w Fi av v:=by
       intro i c j av q1 q2;rw[AG,AW]at q1;obtain⟨x,q1,rfl⟩:=q1;obtain⟨vs,hv,hr,_⟩:=h2 i x q1;obtain⟨k1,_,k3⟩:=UK hv;have hj:j<m+1:=by
        have:=(Ap.1 q2).1
        rw[hE]at this;exact this
       obtain⟨v,e1,e2⟩:=k3 j (by omega);refine⟨v,?_,hr.2.1 v (Ar e1),hr.2.2 j av v q2 e1⟩;rw[←e2,hm];unfold Addr.add;split
       ·rename_i h0;rw[h0];simp
       ·rfl
      refine .slice _ _ a.block a.off (m+1) cap (fun i j=>(w.cell? ⟨a.block,a.off+i*(m+1)+j,none⟩).getD undef) (by rw[A6];omega) (fun i c q=>?_) (fun i c j av q1 q2=>?_) (fun i c j av q1 q2=>?_)
      ·rw[AG,AW]at q;obtain⟨x,_,rfl⟩:=q;exact hE x
      ·obtain⟨v,e1,e2,_⟩:=cell i c j av q1 q2;exact⟨Z0 e1,by rw[e1];rfl,by rw[e1];exact e2⟩
      ·obtain⟨v,e1,_,e3⟩:=cell i c j av q1 q2;rw[e1];exact e3
    ·obtain⟨i,hi⟩:=B4.1 hx;obtain⟨_,_,_,h⟩:=h2 i x hi;exact h
   ·cases h
theorem MH{t e:TypeId}(hu:P.underlying t=some (.slice e)):JH enc P w bk N t (fun _:Unit=>[AV.junk]) (fun _=>True):=by
 intro fuel cs d ps h _;cases fuel with
 |zero=>simp[DataW.trod]at h
 |succ fuel =>
  rw[DataW.trod_step]at h;unfold DataW.trodStep at h;rw[hu]at h;split at h<;>rename_i hq<;>first | cases hq | skip
  all_goals first | (cases h;done) | skip
  all_goals exact⟨(),Qp rfl (.junk _ _),trivial⟩
theorem JH.to{t:TypeId}{α β:Type}{e:α→List AV}{ok:α→Prop}{e' : β→List AV}{rv : β→Prop}(h:JH enc P w bk N t e ok)(f:α→β)(hf:∀x,ok x→e' (f x)=e x∧rv (f x)):JH enc P w bk N t e' rv:=by
 intro fuel cs d ps k hb;obtain⟨x,h1,h2⟩:=h fuel cs d ps k hb;obtain⟨e1,e2⟩:=hf x h2;exact⟨f x,by rw[e1];exact h1,e2⟩
def VD(enc:TypeId×Value→H)(P:Program)(w:World)(bk:DataW H→Nat)(N L:Nat)(l:List Field)(o:Nat){α:Type}(e:α→List AV)(ok:α→Prop):Prop :=
 ∀(fuel:Nat) (cs:List Value) (xs:List (DataW H×List MemPlace)),cs.length=L→l.mapM (fun f=>DataW.trod enc P w 0 (fun _=>true) true fuel f.type ((cs.drop f.offset).take (P.cellsOf f.type)))=some xs→(∀x∈xs,bk x.1≤N) →
  ∃x:α,Cu (ft w) w Fi (e x) (cs.drop o)∧ok x
theorem G1{L:Nat}:VD enc P w bk N L [] L (fun _:Unit=>[]) (fun _=>True):=by
 intro fuel cs xs hl _ _;refine⟨(),?_,trivial⟩;rw[T4 (by omega)];exact oU
theorem Cc{L o n:Nat}{f:Field}{l:List Field}{α β:Type}{e:α→List AV}{ok:α→Prop}{e' : β→List AV}{rv : β→Prop}(ho:f.offset=o)(hn:P.cellsOf f.type=n)(h:JH enc P w bk N f.type e ok)(k:VD enc P w bk N L l (o+n) e' rv) :
  VD enc P w bk N L (f::l) o (fun p:α×β=>e p.1++e' p.2) (fun p=>ok p.1∧rv p.2):=by
 intro fuel cs xs hl hx hb;rw[Kg]at hx;simp only[Option.bind_eq_bind,RN]at hx;obtain⟨y,hy,ys,hys,ji⟩:=hx;simp only[Option.pure_def,Bi]at ji;subst ji;obtain⟨x,r1,r2⟩:=h fuel _ y.1 y.2 hy (hb y (Aa ..));obtain⟨z,s1,s2⟩:=k fuel cs ys hl hys (fun q hq=>hb q (Ag _ hq));refine⟨(x,z),?_,r2,s2⟩;have e:cs.drop o=(cs.drop o).take n++cs.drop (o+n):=by rw[←List.drop_drop,Li]
 rw[e];rw[ho,hn]at r1;exact dG r1 s1
theorem FV{t:TypeId}{L:Nat}{fs:Array Field}{α:Type}{e:α→List AV}{ok:α→Prop}(hB:VA bk)(hu:P.underlying t=some (.struct fs))(hL:P.cellsOf t=L)(h:VD enc P w bk N L fs.toList 0 e ok):JH enc P w bk N t e ok:=by
 intro fuel cs d ps k hb;cases fuel with
 |zero=>simp[DataW.trod]at k
 |succ fuel =>
  rw[DataW.trod_step]at k;unfold DataW.trodStep at k;rw[hu]at k
  change (if cs.length=P.cellsOf t then(fs.toList.mapM fun f=>DataW.trod enc P w 0 (fun _=>true) true fuel f.type ((cs.drop f.offset).take (P.cellsOf f.type))).map fun xs=>(DataW.agg (xs.map (·.1)),xs.flatMap (·.2))else none)=some (d,ps)at k
  split at k
  ·rename_i hc;simp only[AW,FM]at k;obtain⟨xs,hx,hd,_⟩:=k;have xR:=hB.agg (xs.map (·.1));rw[hd]at xR;obtain⟨x,r1,r2⟩:=h fuel cs xs (by omega) hx (fun y hy=>Br (xR y.1 (Ak.2 ⟨y,hy,rfl⟩)) hb);exact⟨x,r1,r2⟩
  ·cases k
theorem Yg{t:TypeId}{α:Type}{e:α→AV}{ok:α→Prop}(h:JH enc P w bk N t (fun x=>[e x]) ok){v:Value}{d:DataW H}{p:List MemPlace}(hv:v.oneCell'=true)(k:DataW.Trod enc P w 0 (fun _=>true) true t v d p)(hb:bk d≤N) :
  ∃x,BD (ft w) w Fi (e x) v∧ok x:=by
 obtain⟨fuel,k⟩:=k;have ec:v.cells.toList=[v]:=by cases v<;>first | rfl | cases hv
 rw[ec]at k;obtain⟨x,r1,r2⟩:=h fuel _ d p k hb;exact⟨x,r1.2.2 0 _ _ rfl rfl,r2⟩
theorem gY{t:TypeId}{α:Type}{e:α→List AV}{ok:α→Prop}(h:JH enc P w bk N t e ok){cs:Array Value}{d:DataW H}{p:List MemPlace}(k:DataW.Trod enc P w 0 (fun _=>true) true t (.agg cs) d p)(hb:bk d≤N) :
  ∃x,BD (ft w) w Fi (.agg (e x)) (.agg cs)∧ok x:=by
 obtain⟨fuel,k⟩:=k;obtain⟨x,r1,r2⟩:=h fuel cs.toList d p k hb;refine⟨x,.agg _ _ _ (by have:=r1.1;simpa using this) (fun i y q=>r1.2.1 y (by rw[Array.mem_toList_iff];exact Array.mem_of_getElem? q)) (fun i av y q1 q2=>r1.2.2 i av y q1 (by simpa using q2)),r2⟩
end
end Go.Eng
