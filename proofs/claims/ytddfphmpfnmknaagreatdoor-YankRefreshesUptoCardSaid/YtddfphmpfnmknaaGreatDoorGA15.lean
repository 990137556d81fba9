/- Lemmas for the claims of this seat, without a condition: part 15 (EngZD, EngZE, EngZF, EngZL). -/
import Derived.Test.YtddfphmpfnmknaaGreatDoorGA14
import Derived.Deep.LoopGhost
import Derived.ReadAgain
import Derived.RowKit
namespace Go.Eng
variable {h:Nat→HO}{fn:Func}{c:Code}{U:Nat→Prop}{K:AV→Prop}{av:AV}{cs:List AV}{i:Nat}{w:World}{x:Value}{f:Nat}{g:Gh}(cx:Cx)(σ:JO)
theorem FH{r:Nat}(e:Tf h r=true):AT h r:=by
 unfold Tf at e;unfold AT;split at e
 ·cases e
 ·rename_i hh;exact hh
theorem BP.ids0(r:BP g w U av x)(e:ids0 h av=true):BP g w (AT h) av x:=by
 cases r with
 |v=>exact .v _ _
 |junk=>exact .junk _ _
 |snil=>exact .snil _ _ _
 |slice _ es b off sz cap val hc hl DP EG=>exact .slice _ es b off sz cap val hc hl DP EG
 |tok _ r sz es x hs hl hu ht hn hx=>exact .tok _ r sz es x ((BP.slice_none hs).up _) hl (FH e) ht hn hx
 |ver _ r sz v es x hs hl hu ht hn hx=>exact .ver _ r sz v es x ((BP.slice_none hs).up _) hl (FH e) ht hn hx
 |full _ sz es x hs hl hx=>exact .full _ sz es x ((BP.slice_none hs).up _) hl hx
 |msl _ r n a cap hu ht hn ha hx=>exact .msl _ r n a cap (FH e) ht hn ha hx
 |agg=>cases e
 |tup=>cases e
 |cptr _ cs b off val DP EG=>exact .cptr _ cs b off val DP EG
 |ref _ r off b hu ht hx=>exact .ref _ r off b (FH e) ht hx
 |eref _ r n sz i off b cap hu ht hn hx=>exact .eref _ r n sz i off b cap (FH e) ht hn hx
 |mref _ r b hu ht hx=>exact .mref _ r b (FH e) ht hx
 |cmap _ sh B8 b es ck hS hb hm hv=>exact .cmap _ sh B8 b es ck hS hb hm hv
 |clo=>cases e
theorem UF(e:ZV h cs=true)(hi:cs[i]?=some av):ids0 h av=true:=by
 induction cs generalizing i with
 |nil=>simp at hi
 |cons c cs ih =>
  unfold ZV at e;split at e
  ·rename_i hc;cases i with
   |zero=>simp only[A9,Bq]at hi;exact hi▸hc
   |succ i=>exact ih e (by simpa using hi)
  ·cases e
theorem kX(e:oL h cs=true)(hi:cs[i]?=some av):VY h av=true:=by
 induction cs generalizing i with
 |nil=>simp at hi
 |cons c cs ih =>
  unfold oL at e;split at e
  ·rename_i hc;cases i with
   |zero=>simp only[A9,Bq]at hi;exact hi▸hc
   |succ i=>exact ih e (by simpa using hi)
  ·cases e
theorem gI{B8:List (Value×AV)}(e:Sz h B8=true){kv:Value×AV}(hi:B8[i]?=some kv):VY h kv.2=true:=by
 induction B8 generalizing i with
 |nil=>simp at hi
 |cons c cs ih =>
  unfold Sz at e;split at e
  ·rename_i hc;cases i with
   |zero=>simp only[A9,Bq]at hi;exact hi▸hc
   |succ i=>exact ih e (by simpa using hi)
  ·cases e
theorem BP.ids(r:BP g w U av x)(e:VY h av=true):BP g w (AT h) av x:=by
 cases r with
 |agg _ cs vs hs h1 hr=>exact .agg _ cs vs hs h1 fun i av x q1 q2=>(hr i av x q1 q2).ids0 (UF e q1)
 |tup _ cs vs hs hr=>exact .tup _ cs vs hs fun i av x q1 q2=>(hr i av x q1 q2).ids0 (UF e q1)
 |clo _ f cs vs hs hr=>exact .clo _ f cs vs hs fun i av x q1 q2=>(hr i av x q1 q2).ids0 (UF e q1)
 |v=>exact .v _ _
 |junk=>exact .junk _ _
 |snil=>exact .snil _ _ _
 |slice _ es b off sz cap val hc hl DP EG=>exact .slice _ es b off sz cap val hc hl DP EG
 |tok _ r sz es x hs hl hu ht hn hx=>exact .tok _ r sz es x ((BP.slice_none hs).up _) hl (FH e) ht hn hx
 |ver _ r sz v es x hs hl hu ht hn hx=>exact .ver _ r sz v es x ((BP.slice_none hs).up _) hl (FH e) ht hn hx
 |full _ sz es x hs hl hx=>exact .full _ sz es x ((BP.slice_none hs).up _) hl hx
 |msl _ r n a cap hu ht hn ha hx=>exact .msl _ r n a cap (FH e) ht hn ha hx
 |cptr _ cs b off val DP EG=>exact .cptr _ cs b off val DP EG
 |ref _ r off b hu ht hx=>exact .ref _ r off b (FH e) ht hx
 |eref _ r n sz i off b cap hu ht hn hx=>exact .eref _ r n sz i off b cap (FH e) ht hn hx
 |mref _ r b hu ht hx=>exact .mref _ r b (FH e) ht hx
 |cmap _ sh B8 b es ck hS hb hm hv=>exact .cmap _ sh B8 b es ck hS hb hm hv
theorem aj{st:St}{h:Nat→HO}:∀{l:List (Nat×AV)},yr st h l→∀i,Ui l i=.junk∨(st.t i=Ui l i∧VY h (Ui l i)=true)
 | [],_,i=>.inl rfl
 |(j,a)::l,⟨h1,h2⟩,i=>by
  unfold Ui
  by_cases e:i=j
  ·subst e;simp only[Dh,KF];exact .inr h1
  ·simp only[CX e,EM];exact aj h2 i
theorem ai{st:St}{h hb:Nat→HO}(hhb:∀j,hb j=.free∨(st.h j=hb j∧ZU h (hb j)=true)):∀{l:List (Nat×HO)},yq st h l→∀i,Ak l hb i=.free∨(st.h i=Ak l hb i∧ZU h (Ak l hb i)=true)
 | [],_,i=>hhb i
 |(j,a)::l,⟨h1,h2⟩,i=>by
  unfold Ak
  by_cases e:i=j
  ·subst e;simp only[Dh,KF];exact .inr h1
  ·simp only[CX e,EM];exact ai hhb h2 i
def Mj(h0:Nat→HO):Prop:=match cx.ext with | false=>∀i,h0 i=.free | true=>∀i,h0 i≠.free→1000≤i∧i<2000
section
variable {P:Program}{N:Nat}{ds:List Deferred}{w0:World}{g0:Gh}{h0:Nat→HO}{st:St}{g:Gh}{a:Act}{w:World}{cx:Cx}
theorem SR.weaken(hE:Mj cx h0)(hS:SR N ds w0 g0 h0 st g a w){s:LS}(HD:St.le cx st s):SR N ds w0 g0 h0 s.st g a w:=by
 obtain⟨h1,h2,h3,h4⟩:=HD;have hT:=aj h1;have hH:∀i,s.st.h i=.free∨(st.h i=s.st.h i∧ZU s.st.h (s.st.h i)=true):=ai h3 h2;have M4:∀r,(s.st.h r).live→(st.h r).live:=fun r hl=>by
  rcases hH r with e | ⟨e,_⟩
  ·rw[e]at hl;exact hl.elim
  ·rw[e];exact hl
 have hI:=hS.inv;refine⟨⟨hI.os,hI.tape,hI.output,hI.size,hI.frame,hI.slt,fun r=>?_,fun r r' b l l'=>hI.inj r r' b (M4 r l) (M4 r' l'),fun r b l=>hI.loc r b (M4 r l),hI.sg,hI.glob⟩,⟨hS.le.gh,fun i hi=>?_,hS.le.keeps⟩,hS.dfs,hS.size,fun i=>?_⟩
 ·rcases hH r with e | ⟨e,e2⟩
  ·rw[e];trivial
  ·have ho:=hI.objs r;rw[e]at ho;generalize s.st.h r=o at ho e2;cases o with
   |cells cs =>
    obtain⟨t,b,E,vs,a1,a2,a3,a4,a5⟩:=ho;exact⟨t,b,E,vs,a1,a2,a3,⟨a4.1,a4.2.1,fun i av x q1 q2=>(a4.2.2 i av x q1 q2).ids (kX e2 q1)⟩,a5⟩
   |hol sz es i c av =>
    obtain⟨t,l,al,b,cap,E,vs,b1,b2,b3,b4,b5,b6,b7,b8,x,b9,YO⟩:=ho;exact⟨t,l,al,b,cap,E,vs,b1,b2,b3,b4,b5,b6,b7,b8,x,b9,YO.ids e2⟩
   |mapU sh B8 =>
    obtain⟨t,b,es,ck,a1,a2,a3,a4,a5,a6⟩:=ho;exact⟨t,b,es,ck,a1,a2,a3,a4,fun i kv e q1 q2=>(a5 i kv e q1 q2).ids (gI e2 q1),a6⟩
   |_=>exact ho
 ·have hu:=hS.le.us i hi;unfold Mj at hE;split at hE
  ·exact absurd (hE i) hi
  ·rename_i hx;rw[hx]at h4;exact h4 i (hE i hi).1 (hE i hi).2 hu
 ·show BP g w (AT s.st.h) (Ui s.t i) _;rcases hT i with e | ⟨e,e2⟩
  ·rw[e];exact .junk _ _
  ·rw[←e]at e2⊢;exact(hS.slots i).ids e2
def Ex.real:Ex→Exit
 |.normal=>.normal
 |.exit id=>.exit id
 |.ret=>.ret
def uR(N:Nat)(o:Oper):Bool:=match o.dst with | some d=>Nat.blt d N | none=>true
def ES(N:Nat):Code→Bool
 |.region _ ops _=>ops.toList.all (uR N)
 |.seq a b=>ES N a&&ES N b
 |.cond _ a b=>ES N a&&ES N b
 |.block _ c=>ES N c
 |.loop c=>ES N c
 |_=>true
theorem OA(hP:cx.P=P)(hT:CL P cx.T)(hm:P.follows .mixedOrders=true)(hE:Mj cx h0)(hY:∀l σ h g w,EK σ=true→DV w0 g0 h0 h g w→Le h0 g0 w0 h g w→cx.yp l σ (DK σ g) w)(ro:Option Nat):∀(c:Code),ES N c=true→∀{Qa:Ex→St→Prop} {Q:Exit→Act→World→Prop},
  (∀e st g a w,Qa e st→SR N ds w0 g0 h0 st g a w→Q e.real a w)→∀{st:St} {g:Gh} {a:Act} {w:World},SR N ds w0 g0 h0 st g a w→Re cx c Qa st→c.wpIn (KA ro) 0 P Q a w:=by
 intro c
 induction c with
 |skip=>intro _ Qa Q hQ st g a w hS hk;exact wpIn_skip (hQ .normal _ _ _ _ hk hS)
 |label l=>intro _ Qa Q hQ st g a w hS hk;exact wpIn_label (hQ .normal _ _ _ _ hk hS)
 |exit id=>intro _ Qa Q hQ st g a w hS hk;exact wpIn_exit (hQ (.exit id) _ _ _ _ hk hS)
 |ret=>intro _ Qa Q hQ st g a w hS hk;exact wpIn_ret (hQ .ret _ _ _ _ hk hS)
 |region id ops dr =>
  intro hc Qa Q hQ st g a w hS hk;have hd:∀o∈ops.toList,∀i,o.dst=some i→i<N:=fun o ho i hi=>by
   have:=(AZ.1 hc) o ho
   simpa[uR,hi]using this
  have go:∀(st:St) (g:Gh) (hS:SR N ds w0 g0 h0 st g a w) (tE : Cx),tE.P=P→CL P tE.T→tE.yp=cx.yp→Nw tE ops dr st (Qa .normal)→(Code.region id ops dr).wpIn (KA ro) 0 P Q a w:=by
   intro st g hS tE hP hT hy hk;have hY:∀l σ h g w,EK σ=true→DV w0 g0 h0 h g w→Le h0 g0 w0 h g w→tE.yp l σ (DK σ g) w:=by rw[hy];exact hY
   unfold Nw at hk;split at hk
   ·exact wpIn_region_list (XQ hP hT hY (fun EA g' a' w' q1 q2=>hQ .normal _ _ _ _ q1 q2) ops.toList hd hS hk)
   ·obtain⟨_,FT,hk⟩:=fA hk;obtain⟨i1,i2⟩:=hS.inv.heapEq (w':={ w with drawn:=w.drawn+1 }) ⟨rfl,rfl,rfl⟩ rfl;have Ut : SR N ds w0 g0 h0 st g a { w with drawn:=w.drawn+1 }:=⟨i1,hS.le.trans i2,hS.dfs,hS.size,fun i=>(hS.slots i).le i2⟩;exact wpIn_region_any hm (XL hP hT hY (fun EA g' a' w' q1 q2=>hQ .normal _ _ _ _ q1 q2) (fun j o ho=>hd o (by simpa using Array.mem_of_getElem? ho)) _ _ Ut hk)
  have uZ:∀(st:St) (g:Gh) (hS:SR N ds w0 g0 h0 st g a w),(match cx.pl.dyn with | []=>Nw cx ops dr st (Qa .normal) | _=>∃n,Nw { cx with nid:=n } ops dr st (Qa .normal))→(Code.region id ops dr).wpIn (KA ro) 0 P Q a w:=by
   intro st g hS hk;split at hk
   ·exact go st g hS cx hP hT rfl hk
   ·obtain⟨n,hk⟩:=hk;exact go st g hS { cx with nid:=n } hP hT rfl hk
  unfold Re uQ at hk;split at hk
  ·split at hk
   ·split at hk
    ·split at hk
     ·obtain⟨h',g',Ut,s,h1,h2⟩:=pY hS hk;exact uZ s.st _ (Ut.weaken hE h1) h2
     ·obtain⟨h',g',Ut,s,h1,h2⟩:=qZ hS hk;exact uZ s.st _ (Ut.weaken hE h1) h2
    ·obtain⟨EA,g',Ut,s,h1,h2⟩:=ra hS hk;exact uZ s.st _ (Ut.weaken hE h1) h2
   ·obtain⟨h',g',Ut,s,h1,h2⟩:=rd hS hk;exact uZ s.st _ (Ut.weaken hE h1) h2
  ·exact uZ st _ hS hk
 |seq x y ihx ihy =>
  intro hc Qa Q hQ st g a w hS hk;simp only[ES,Ai]at hc;refine wpIn_seq (ihx hc.1 (Qa:=fun e EA=>match e with | .normal=>Re cx y Qa EA | e=>Qa e EA) (fun e st g a w q hS=>?_) hS hk);cases e with
  |normal=>exact ihy hc.2 hQ hS q
  |exit id=>exact hQ (.exit id) _ _ _ _ q hS
  |ret=>exact hQ .ret _ _ _ _ q hS
 |cond c x y ihx ihy =>
  intro hc Qa Q hQ st g a w hS hk;simp only[ES,Ai]at hc;have hr:=hS.eval c;unfold Re at hk;generalize hx:ev st.t c=v at hk hr;split at hk
  ·exact wpIn_cond_true hr.v_eq (ihx hc.1 hQ hS hk)
  ·exact wpIn_cond_false hr.v_eq (ihy hc.2 hQ hS hk)
  ·exact hk.elim
 |block id c ih =>
  intro hc Qa Q hQ st g a w hS hk;refine wpIn_block (ih hc (Qa:=fun e EA=>match e with | .exit j=>(bif Nat.beq j id then Qa .normal EA else Qa (.exit j) EA) | e=>Qa e EA) (fun e st g a w q hS=>?_) hS hk);cases e with
  |normal=>exact hQ .normal _ _ _ _ q hS
  |ret=>exact hQ .ret _ _ _ _ q hS
  |exit j =>
   show(if j=id then Q .normal a w else Q (.exit j) a w);dsimp only at q
   by_cases e:j=id
   ·rw[Al e];rw[e,Dh,KF]at q;exact hQ .normal _ _ _ _ q hS
   ·rw[Ae e];rw[CX e,EM]at q;exact hQ (.exit j) _ _ _ _ q hS
 |loop c ih =>
  intro hc Qa Q hQ st g a w hS hk;obtain⟨α,I,μ,⟨x,hx⟩,vu⟩:=hk;refine Tj (fun n a w=>∃x g,μ x=n∧SR N ds w0 g0 h0 (I x).st g a w) (μ x) ⟨x,g,rfl,hS.weaken hE hx⟩ ?_
  rintro n a w ⟨x,g,rfl,hS⟩
  refine ih hc (Qa:=fun e EA=>match e with | .normal=>∃y,μ y<μ x∧St.le cx EA (I y) | e=>Qa e EA) (fun e st g a w q hS=>?_) hS (vu x);cases e with
  |normal =>
   obtain⟨y,q1,q2⟩:=q;exact⟨μ y,q1,y,g,rfl,hS.weaken hE q2⟩
  |exit id=>exact hQ (.exit id) _ _ _ _ q hS
  |ret=>exact hQ .ret _ _ _ _ q hS
 |_=>intro _ Qa Q hQ st g a w hS hk;exact hk.elim
end
section
variable {P:Program}{N:Nat}{ds:List Deferred}{w0:World}{g0:Gh}{h0:Nat→HO}{st:St}{g:Gh}{a:Act}{w:World}
theorem am{T:G4}(hT:CL P T){h:Nat→HO}(ho:∀r,Ez g w (AT h) r (h r)){t:Nat}{p:AV}{vp:Value}(hp:BP g w (AT h) p vp)(hk:IZ T h t p K) :
  ∃ad,(asAddr vp).run P w=.ok ad w∧BV P h g w (loadVar t ad) K:=by
 obtain⟨x,av,h1,h2,h3⟩:=W4 ho hT hp hk;have fin:∀b off,vp=.pointer (some ⟨b,off,none⟩)→∃ad,(asAddr vp).run P w=.ok ad w∧BV P h g w (loadVar t ad) K:=by
  rintro b off rfl
  refine⟨⟨b,off,none⟩,by simp[asAddr],x,av,?_,h2,h3⟩;simpa[Instr.loadAt,Instr.sureAddr]using h1
 unfold IZ at hk;split at hk
 ·cases hp;exact fin _ _ rfl
 ·cases hp;exact fin _ _ rfl
 ·cases hp;exact fin _ _ rfl
 ·exact hk.elim
def da(tmps:Array Value):ResultVar→Sem Value
 |.tmp t=>pure (tmps.getD t undef)
 |.cell ad t=>do loadVar t (←asAddr (tmps.getD ad undef))
theorem Pd(fn:Func)(tmps:Array Value):results fn tmps=(do
 let vs ←fn.results.mapM (da tmps)
 pure (if h:vs.size=1 then vs[0]else .tuple vs)):=rfl
theorem Yy{cx:Cx}(hT:CL P cx.T)(hS:SR N ds w0 g0 h0 st g a w):∀(rs:List ResultVar) {K:List AV→Prop},po cx.T st rs K →
  ∃l vs,K l∧(rs.mapM (da a.tmps)).run P w=.ok vs w∧vs.length=l.length∧vs.length=rs.length ∧
   ∀(i:Nat) (av:AV) (x:Value),l[i]?=some av→vs[i]?=some x→BP g w FQ av x
 | [],K,hk=>⟨[],[],hk,by simp,rfl,rfl,fun i av x h=>by simp at h⟩
 |.tmp t::r,K,hk=>by
  obtain⟨l,vs,h1,h2,h3,h4,h5⟩:=Yy hT hS r hk;refine⟨_,a.tmps.getD t undef::vs,h1,?_,by simp[h3],by simp[h4],fun i av x q1 q2=>?_⟩
  ·rw[Lh];simp only[da,Sem.run_bind,Sem.run_pure,Result.andThen_ok,h2]
  ·cases i with
   |zero =>
    simp only[A9,Bq]at q1 q2;subst q1;subst q2;exact BP.str hS.inv.objs (hS.slots t)
   |succ i=>exact h5 i av x (by simpa using q1) (by simpa using q2)
 |.cell ad t::r,K,hk=>by
  obtain⟨addr,e1,x0,av0,e2,KX,e4⟩:=am hT hS.inv.objs (hS.slots ad) hk;obtain⟨l,vs,h1,h2,h3,h4,h5⟩:=Yy hT hS r KX;refine⟨_,x0::vs,h1,?_,by simp[h3],by simp[h4],fun i av x q1 q2=>?_⟩
  ·rw[Lh];simp only[da,Sem.run_bind,Sem.run_pure,Result.andThen_ok,h2,e1,e2]
  ·cases i with
   |zero =>
    simp only[A9,Bq]at q1 q2;subst q1;subst q2;exact BP.str hS.inv.objs e4
   |succ i=>exact h5 i av x (by simpa using q1) (by simpa using q2)
theorem pn{cx:Cx}(hT:CL P cx.T)(hS:SR N ds w0 g0 h0 st g a w)(hk:pm cx st fn.results.toList K) :
  ∃g' r v h',K r∧(results fn a.tmps).run P w=.ok v w∧DV w0 g0 h0 h' g' w∧Le h0 g0 w0 h' g' w∧BP g' w FQ r v:=by
 obtain⟨g',i1,i2⟩:=NE cx.pl.fin hS.inv;have Ut : SR N ds w0 g0 h0 ⟨st.t,Qc st.h cx.pl.fin⟩ g' a w:=⟨i1,hS.le.trans i2,hS.dfs,hS.size,fun i=>(hS.slots i).le i2⟩;obtain⟨l,vs,h1,h2,h3,h4,h5⟩:=Yy hT Ut _ hk;have Da:(results fn a.tmps).run P w=.ok (if h:vs.toArray.size=1 then vs.toArray[0]else .tuple vs.toArray) w:=by
  rw[Pd,show fn.results=fn.results.toList.toArray by simp,List.mapM_toArray];simp only[Sem.run_bind,Sem.run_map,h2,Result.andThen_ok,Sem.run_pure]
 refine⟨g',?_⟩
 match l,vs,h1,h3,h5,Da with
 | [v],[x],h1,h3,h5,Da=>exact⟨v,x,_,h1,by simpa using Da,i1,Ut.le,h5 0 v x rfl rfl⟩
 | [],vs,h1,h3,h5,Da =>
  have:vs=[]:=AK h3
  subst this;exact⟨.tup [],.tuple #[],_,h1,by simpa using Da,i1,Ut.le,.tup _ _ _ rfl fun i av x q=>by simp at q⟩
 |v::v' :: l,vs,h1,h3,h5,Da =>
  refine⟨.tup (v::v' :: l),.tuple vs.toArray,_,h1,?_,i1,Ut.le,.tup _ _ _ (by simpa using h3) fun i av x q1 q2=>h5 i av x q1 (by simpa using q2)⟩;rw[Da]
  have:vs.toArray.size≠1:=by simp[h3]
  simp only[this,dif_neg,not_false_eq_true]
theorem DV.toFree(hI:DV w0 g0 Af st.h g w):DV w0 g0 Af Af g w :=
 ⟨hI.os,hI.tape,hI.output,hI.size,hI.frame,hI.slt,fun _=>trivial,fun _ _ _ h=>h.elim,fun _ _ h=>h.elim,hI.sg,hI.glob⟩
theorem PO{U:Nat→Prop}{n:Nat}:∀{args:List AV} {vals:List Value},vals.length=args.length→(∀(i:Nat) (av:AV) (x:Value),args[i]?=some av→vals[i]?=some x→BP g w U av x) →
  ∀i,BP g w U (PN args i) ((vals++List.replicate n undef).getD i undef)
 | [],[],_,_,i=>by
  have:(([]:List Value)++List.replicate n undef).getD i undef=undef:=by
   rw[Fi,B6,List.getElem?_replicate];split<;>rfl
  rw[this];exact .v _ _
 | [],_::_,h,_,_=>by simp at h
 |_::_,[],h,_,_=>by simp at h
 |x::l,v::vs,h,hr,i=>by
  cases i with
  |zero=>exact hr 0 x v rfl rfl
  |succ i =>
   have:=PO (n:=n) (args:=l) (vals:=vs) (by simpa using h) (fun i av x q1 q2=>hr (i+1) av x (by simpa using q1) (by simpa using q2)) i
   simpa[PN]using this
theorem jn {f : Nat}{args : List AV}{Q : AV → Prop}(hP : cx.P = P)(hT : CL P cx.T)(hm : P.follows .mixedOrders = true)(hx : cx.ext = false)(hf : P.funcs[f]? = some fn)(hn : (fn.name == "runtime.NumGoroutine") = false)(hb:fn.body=some c)(hN:args.length≤fn.ntmps)(hc:ES fn.ntmps c=true)(hk:Re cx c (rH cx fn.results.toList Q) ⟨PN args,Af⟩)(hY:∀l σ g w,cx.yp l σ g w:=by exact fun _ _ _ _=>trivial):A1 P f args Af fun r h'=>h'=Af∧Q r:=by
 refine⟨⟨fn,hf,hn,by simp[hb]⟩,fun g w vals hs hv hI=>calls_of_wp hf hb ?_⟩;have hU:AT Af=FQ:=by funext i;unfold AT FQ Af;simp
 have hS:SR fn.ntmps [] w g Af ⟨PN args,Af⟩ g { tmps:=vals++Array.replicate (fn.ntmps-vals.size) undef,defers:=[] } w:=by
  refine⟨hI,.refl _ _ _,rfl,by simp[hs];omega,fun i=>?_⟩
  have:=PO (n:=fn.ntmps-vals.size) (args:=args) (vals:=vals.toList) (by simpa using hs) (fun i av x q1 q2=>hv i av x q1 (by simpa using q2)) i
  rw[CD,←AQ];rw[B6]at this;simpa using this
 refine wpIn_wide.1 (OA hP hT hm (by unfold Mj;rw[hx];exact fun _=>rfl) (fun l σ _ _ w _ _ _=>hY l σ _ w) none c hc (fun e st g' a w' hk hS=>?_) hS hk);have out:pm cx st fn.results.toList Q→a.defers=[]∧∃v,(results fn a.tmps).run P w'=.ok v w'∧∃v' r h' g',(Ending.returned v:Ending)=.returned v'∧(h'=Af∧Q r)∧BP g' w' (AT h') r v'∧DV w g Af h' g' w'∧Le Af g w h' g' w':=by
  intro hk;obtain⟨g2,r,v,h',q1,q2,q3,q4,q5⟩:=pn hT hS hk;exact⟨hS.dfs,v,q2,v,r,Af,g2,rfl,⟨rfl,q1⟩,by rw[hU];exact q5,DV.toFree (st:=⟨st.t,h'⟩) q3,⟨fun i hi=>absurd rfl hi,fun i hi=>absurd rfl hi,q4.keeps⟩⟩
 cases e with
 |normal=>exact out hk
 |ret=>exact out hk
 |exit id=>exact hk.elim
theorem TB{cx:Cx}(hT:CL P cx.T)(hS:SR N ds w0 g0 h0 st g a w):∀(rs:List ResultVar) {K:List AV→Prop},pp cx.T st rs K →
  ∃l vs,K l∧(rs.mapM (da a.tmps)).run P w=.ok vs w∧vs.length=l.length∧vs.length=rs.length ∧
   ∀(i:Nat) (av:AV) (x:Value),l[i]?=some av→vs[i]?=some x→BP g w (AT st.h) av x
 | [],K,hk=>⟨[],[],hk,by simp,rfl,rfl,fun i av x h=>by simp at h⟩
 |.tmp t::r,K,hk=>by
  obtain⟨l,vs,h1,h2,h3,h4,h5⟩:=TB hT hS r hk;refine⟨_,a.tmps.getD t undef::vs,h1,?_,by simp[h3],by simp[h4],fun i av x q1 q2=>?_⟩
  ·rw[Lh];simp only[da,Sem.run_bind,Sem.run_pure,Result.andThen_ok,h2]
  ·cases i with
   |zero =>
    simp only[A9,Bq]at q1 q2;subst q1;subst q2;exact hS.slots t
   |succ i=>exact h5 i av x (by simpa using q1) (by simpa using q2)
 |.cell ad t::r,K,hk=>by
  obtain⟨addr,e1,x0,av0,e2,KX,e4⟩:=am hT hS.inv.objs (hS.slots ad) hk;obtain⟨l,vs,h1,h2,h3,h4,h5⟩:=TB hT hS r KX;refine⟨_,x0::vs,h1,?_,by simp[h3],by simp[h4],fun i av x q1 q2=>?_⟩
  ·rw[Lh];simp only[da,Sem.run_bind,Sem.run_pure,Result.andThen_ok,h2,e1,e2]
  ·cases i with
   |zero =>
    simp only[A9,Bq]at q1 q2;subst q1;subst q2;exact e4
   |succ i=>exact h5 i av x (by simpa using q1) (by simpa using q2)
theorem GY{σ:JO}:∀{H0:List (Nat×HO)},Ji σ H0=true→∀i,Ak H0 Af i≠.free→1000≤i∧i<2000∧CC σ i=some i
 | [],_,i,h=>absurd rfl h
 |(a,o)::r,hx,i,h=>by
  simp only[Ji,Ai,Do,Cm]at hx;obtain⟨⟨⟨h1,h2⟩,h3⟩,h4⟩:=hx
  by_cases e:i=a
  ·subst e;refine⟨h1,h2,?_⟩;split at h3
   ·rename_i j e;rw[e,AM h3]
   ·cases h3
  ·unfold Ak at h;simp only[CX e,EM]at h;exact GY h4 i h
theorem PQ{H0:List (Nat×HO)}{σ:JO}(hσ:Hm σ=true)(hx:Ji σ H0=true){h:Nat→HO}(hI:DV w0 g0 (Ak H0 Af) h g w)(hL:Le (Ak H0 Af) g0 w0 h g w) :
  Lk (CC σ) h (F4 σ h) g (DK σ g) w∧DV w0 g0 (Ak H0 Af) (F4 σ h) (DK σ g) w∧Le (Ak H0 Af) g0 w0 (F4 σ h) (DK σ g) w:=by
 have inv:=Ym hσ;have FN:∀j,F4 σ h j=match IC σ j with | some i=>(h i).ren (CC σ) h | none=>.free:=QC _ _ σ
 have hR:Lk (CC σ) h (F4 σ h) g (DK σ g) w:=by
  refine⟨fun r r' hr hu=>?_,fun b o=>Sg,hI.objs⟩;have hb:=(inv r r').1 hr;refine⟨by simp[DK,hb],by simp[DK,hb],by simp[DK,hb],by simp[DK,hb],?_⟩;unfold AT;rw[FN,hb];exact(Nk _ _ _).2 hu
 have M4:∀j,(F4 σ h j).live→∃i,IC σ j=some i∧(h i).live:=fun j hl=>by
  rw[FN]at hl;cases e:IC σ j with
  |none=>rw[e]at hl;exact hl.elim
  |some i=>rw[e]at hl;exact⟨i,rfl,(Nj _ _ _).1 hl⟩
 have Yh:∀j i,IC σ j=some i→(DK σ g).own j=g.own i:=fun j i e=>by simp[DK,e]
 refine⟨hR,⟨hI.os,hI.tape,hI.output,hI.size,hI.frame,hI.slt,fun j=>?_,fun j j' b hl Rs e e'=>?_,fun j b hl e=>?_,hI.sg,hI.glob⟩,⟨fun i hi=>?_,fun i hi=>?_,hL.keeps⟩⟩
 ·rw[FN];cases e:IC σ j with
  |none=>trivial
  |some i =>
   by_cases hu:AT h i
   ·exact(hI.objs i).ren hR ((inv i j).2 e) hu
   ·have:h i=.free:=BB.1 hu
    dsimp only;rw[this];trivial
 ·obtain⟨i,e1,l1⟩:=M4 j hl;obtain⟨i',e2,l2⟩:=M4 j' Rs;rw[Yh j i e1]at e;rw[Yh j' i' e2]at e';obtain rfl:=hI.inj i i' b l1 l2 e e'
  have:=(inv i j).2 e1
  rw[(inv i j').2 e2]at this;cases this;rfl
 ·obtain⟨i,e1,l1⟩:=M4 j hl;rw[Yh j i e1]at e;exact hI.loc i b l1 e
 ·obtain⟨_,_,hf⟩:=GY hx i hi;have hb:=(inv i i).1 hf;have e1:(DK σ g).ρ i=g.ρ i∧(DK σ g).ln i=g.ln i∧(DK σ g).tk i=g.tk i:=by simp[DK,hb]
  obtain⟨k1,k2,k3,k4⟩:=hL.gh i hi;exact⟨e1.2.2.trans k1,by omega,fun t=>e1.1.trans (k3 t),fun l=>e1.1.trans (k4 ch)⟩
 ·obtain⟨_,_,hf⟩:=GY hx i hi;have hb:=(inv i i).1 hf;unfold AT;rw[FN,hb];exact(Nk _ _ _).2 (hL.us i hi)
theorem Zz{f:Nat}{args:List AV}{H0:List (Nat×HO)}{Q:AV→(Nat→HO)→Prop}(hP:cx.P=P)(hT:CL P cx.T)(hm:P.follows .mixedOrders=true)(hx:cx.ext=true)(hf:P.funcs[f]?=some fn)(_hn : (fn.name == "runtime.NumGoroutine") = false)(hb : fn.body = some c)(hN : args.length ≤ fn.ntmps)(hc : ES fn.ntmps c = true)(hσ : (Hm σ && Ji σ H0) = true)(hk:Re cx c (Zi cx fn.results.toList σ Q) ⟨PN args,Ak H0 Af⟩){g:Gh}{w:World}{vals:Array Value}(hs:vals.size=args.length)(hv:∀(i:Nat) (av:AV) (x:Value),args[i]?=some av→vals[i]?=some x→BP g w (AT (Ak H0 Af)) av x)(hI:DV w g (Ak H0 Af) (Ak H0 Af) g w)(hY:∀l σ h' g' w',EK σ=true→DV w g (Ak H0 Af) h' g' w'→Le (Ak H0 Af) g w h' g' w'→cx.yp l σ (DK σ g') w') :
  Calls P f vals w fun e w'=>∃v r h' g',e=.returned v∧Q r h'∧BP g' w' (AT h') r v∧DV w g (Ak H0 Af) h' g' w'∧Le (Ak H0 Af) g w h' g' w':=by
 simp only[Ai]at hσ;obtain⟨hσ,qz⟩:=hσ;refine calls_of_wp hf hb ?_;have hS:SR fn.ntmps [] w g (Ak H0 Af) ⟨PN args,Ak H0 Af⟩ g { tmps:=vals++Array.replicate (fn.ntmps-vals.size) undef,defers:=[] } w:=by
  refine⟨hI,.refl _ _ _,rfl,by simp[hs];omega,fun i=>?_⟩
  have:=PO (n:=fn.ntmps-vals.size) (args:=args) (vals:=vals.toList) (by simpa using hs) (fun i av x q1 q2=>hv i av x q1 (by simpa using q2)) i
  rw[CD,←AQ];rw[B6]at this;simpa using this
 refine wpIn_wide.1 (OA hP hT hm (by unfold Mj;rw[hx];exact fun i hi=>⟨(GY qz i hi).1,(GY qz i hi).2.1⟩) hY none c hc (fun e st g' a w' hk hS=>?_) hS hk);have out:ip cx st fn.results.toList σ Q→a.defers=[]∧∃v,(results fn a.tmps).run P w'=.ok v w'∧∃v' r h' g',(Ending.returned v:Ending)=.returned v'∧Q r h'∧BP g' w' (AT h') r v'∧DV w g (Ak H0 Af) h' g' w'∧Le (Ak H0 Af) g w h' g' w':=by
  intro hk;obtain⟨g2,i1,i2⟩:=NE cx.pl.fin hS.inv;have Ut : SR fn.ntmps [] w g (Ak H0 Af) ⟨st.t,Qc st.h cx.pl.fin⟩ g2 a w':=⟨i1,hS.le.trans i2,hS.dfs,hS.size,fun i=>(hS.slots i).le i2⟩;obtain⟨l,vs,h1,h2,h3,h4,h5⟩:=TB hT Ut _ hk;obtain⟨hR,j1,j2⟩:=PQ hσ qz i1 Ut.le;have Da:(results fn a.tmps).run P w'=.ok (if h:vs.toArray.size=1 then vs.toArray[0]else .tuple vs.toArray) w':=by
   rw[Pd,show fn.results=fn.results.toList.toArray by simp,List.mapM_toArray];simp only[Sem.run_bind,Sem.run_map,h2,Result.andThen_ok,Sem.run_pure]
  refine⟨hS.dfs,?_⟩
  match l,vs,h1,h3,h5,Da with
  | [v],[x],h1,h3,h5,Da=>exact⟨x,by simpa using Da,x,_,_,_,rfl,h1,(h5 0 v x rfl rfl).ren hR,j1,j2⟩
  | [],vs,h1,h3,h5,Da =>
   have:vs=[]:=AK h3
   subst this;exact⟨.tuple #[],by simpa using Da,.tuple #[],_,_,_,rfl,h1,BP.ren hR (.tup _ [] _ rfl fun i av x q=>by simp at q),j1,j2⟩
  |v::v' :: l,vs,h1,h3,h5,Da =>
   refine⟨.tuple vs.toArray,?_,.tuple vs.toArray,_,_,_,rfl,h1,BP.ren hR (.tup _ _ _ (by simpa using h3) fun i av x q1 q2=>h5 i av x q1 (by simpa using q2)),j1,j2⟩;rw[Da]
   have:vs.toArray.size≠1:=by simp[h3]
   simp only[this,dif_neg,not_false_eq_true]
 cases e with
 |normal=>exact out hk
 |ret=>exact out hk
 |exit id=>exact hk.elim
theorem kj{f:Nat}{args:List AV}{H0:List (Nat×HO)}{Q:AV→(Nat→HO)→Prop}(hP:cx.P=P)(hT:CL P cx.T)(hm:P.follows .mixedOrders=true)(hx:cx.ext=true)(hf:P.funcs[f]?=some fn)(hn : (fn.name == "runtime.NumGoroutine") = false)(hb : fn.body = some c)(hN : args.length ≤ fn.ntmps)(hc : ES fn.ntmps c = true)(hσ : (Hm σ && Ji σ H0) = true)(hk:Re cx c (Zi cx fn.results.toList σ Q) ⟨PN args,Ak H0 Af⟩)(hY:∀l σ g w,cx.yp l σ g w:=by exact fun _ _ _ _=>trivial):A1 P f args (Ak H0 Af) Q :=
 ⟨⟨fn,hf,hn,by simp[hb]⟩,fun g w vals hs hv hI=>Zz cx σ hP hT hm hx hf hn hb hN hc hσ hk hs hv hI (fun l σ _ _ w _ _ _=>hY l σ _ w)⟩
end
def GF(r r' : AV):Prop:=∀(g:Gh) (w:World) (U:Nat→Prop) (x:Value),BP g w U r x→BP g w U r' x
theorem GF.refl(r:AV):GF r r:=fun _ _ _ _ h=>h
theorem GF.of_eq{r r' : AV}(h:r=r'):GF r r':=h▸.refl r
theorem GF.trans{a b c:AV}(h:GF a b)(k:GF b c):GF a c:=fun g w U x r=>k g w U x (h g w U x r)
theorem GF.nil:GF Ce (.slice .none []):=fun _ _ _ _ h=>by cases h;exact .snil _ _ _
def Ra:List AV→List AV→Prop
 | [],[]=>True
 |a::r,b::s=>GF a b∧Ra r s
 |_,_=>False
theorem Ra.len:∀{l l' : List AV},Ra l l'→l'.length=l.length
 | [],[],_=>rfl
 |_::_,_::_,h=>Ab (·+1) h.2.len
 | [],_::_,h=>h.elim
 |_::_,[],h=>h.elim
theorem Ra.get:∀{l l' : List AV},Ra l l'→∀(i:Nat) (b:AV),l'[i]?=some b→∃a,l[i]?=some a∧GF a b
 | [],[],_,i,b,h=>by simp at h
 |a::r,b::s,hs,i,c,h=>by
  cases i with
  |zero=>simp only[A9,Bq]at h;subst h;exact⟨a,rfl,hs.1⟩
  |succ i=>exact Ra.get hs.2 i c (by simpa using h)
 | [],_::_,h,_,_,_=>h.elim
 |_::_,[],h,_,_,_=>h.elim
theorem GF.tup{l l' : List AV}(h:Ra l l'):GF (.tup l) (.tup l'):=fun g w U x r=>by
 cases r with
 |tup _ _ vs hs hr =>
  refine .tup _ _ vs (by rw[hs,h.len]) fun i av x q1 q2=>?_;obtain⟨a,e1,e2⟩:=h.get i av q1;exact e2 _ _ _ _ (hr i a x e1 q2)
theorem GF.agg{l l' : List AV}(h:Ra l l'):GF (.agg l) (.agg l'):=fun g w U x r=>by
 cases r with
 |agg _ _ vs hs h1 hr =>
  refine .agg _ _ vs (by rw[hs,h.len]) h1 fun i av x q1 q2=>?_;obtain⟨a,e1,e2⟩:=h.get i av q1;exact e2 _ _ _ _ (hr i a x e1 q2)
def bD:List (List AV)→List (List AV)→Prop
 | [],[]=>True
 |a::r,b::s=>Ra a b∧bD r s
 |_,_=>False
theorem bD.len:∀{l l' : List (List AV)},bD l l'→l'.length=l.length
 | [],[],_=>rfl
 |_::_,_::_,h=>Ab (·+1) h.2.len
 | [],_::_,h=>h.elim
 |_::_,[],h=>h.elim
theorem bD.get:∀{l l' : List (List AV)},bD l l'→∀(i:Nat) (b:List AV),l'[i]?=some b→∃a,l[i]?=some a∧Ra a b
 | [],[],_,i,b,h=>by simp at h
 |a::r,b::s,hs,i,c,h=>by
  cases i with
  |zero=>simp only[A9,Bq]at h;subst h;exact⟨a,rfl,hs.1⟩
  |succ i=>exact bD.get hs.2 i c (by simpa using h)
 | [],_::_,h,_,_,_=>h.elim
 |_::_,[],h,_,_,_=>h.elim
theorem GF.slice{l l' : List (List AV)}(h:bD l l'):GF (.slice .none l) (.slice .none l'):=fun g w U x r=>by
 have CB:=h.len;cases r with
 |snil _ a cap =>
  have:l'=[]:=AK (by rw[CB];rfl)
  subst this;exact .snil _ a cap
 |slice _ _ b off sz cap val hc hl DP EG =>
  rw[←CB];refine .slice _ _ b off sz cap val (by rw[CB];exact hc) (fun i cs hi=>?_) (fun i cs j av hi hj=>?_) (fun i cs j av hi hj=>?_)
  ·obtain⟨a,e1,e2⟩:=h.get i cs hi;rw[e2.len];exact hl i a e1
  ·obtain⟨a,e1,e2⟩:=h.get i cs hi;obtain⟨c,f1,f2⟩:=e2.get j av hj;exact DP i a j c e1 f1
  ·obtain⟨a,e1,e2⟩:=h.get i cs hi;obtain⟨c,f1,f2⟩:=e2.get j av hj;exact f2 _ _ _ _ (EG i a j c e1 f1)
section
variable {P:Program}
theorem A1.mono{f:Nat}{args:List AV}{h0:Nat→HO}{Q Q' : AV→(Nat→HO)→Prop}(h:A1 P f args h0 Q)(hq:∀r h',Q r h'→∃r',GF r r'∧Q' r' h'):A1 P f args h0 Q' :=
 ⟨h.1,fun g w vals q1 q2 q3=>(h.2 g w vals q1 q2 q3).mono fun _ _ ⟨v,r,h',g',e1,e2,e3,rest⟩ =>
  let ⟨r',s,k⟩:=hq r h' e2
  ⟨v,r',h',g',e1,k,s _ _ _ _ e3,rest⟩⟩
theorem A1.args{args args' : List AV}{h0:Nat→HO}{Q:AV→(Nat→HO)→Prop}(h:A1 P f args h0 Q)(hs:Ra args' args):A1 P f args' h0 Q :=
 ⟨h.1,fun g w vals q1 q2 q3=>h.2 g w vals (by rw[q1,hs.len]) (fun i av x e1 e2=>by
  obtain⟨a,f1,f2⟩:=hs.get i av e1;exact f2 _ _ _ _ (q2 i a x f1 e2)) q3⟩
theorem J9.args{f:Nat}{args args' : List AV}{res:AV}(h:J9 P f args res)(hs:Ra args' args):J9 P f args' res:=A1.args h hs
theorem GB {args : List AV}{res : AV}(hP : cx.P = P)(hT : CL P cx.T)(hm : P.follows .mixedOrders = true)(hx : cx.ext = false)(hf : P.funcs[f]? = some fn)(hn : (fn.name == "runtime.NumGoroutine") = false)(hb:fn.body=some c)(hN:args.length≤fn.ntmps)(hc:ES fn.ntmps c=true)(hk:Re cx c (rH cx fn.results.toList fun r=>GF r res) ⟨PN args,Af⟩)(hY:∀l σ g w,cx.yp l σ g w:=by exact fun _ _ _ _=>trivial):J9 P f args res :=
 (jn cx hP hT hm hx hf hn hb hN hc hk hY).mono fun _ _ ⟨e1,e2⟩=>⟨res,e2,rfl,e1⟩
end
end Go.Eng
namespace Go.Eng
open Go.ChangeShapes Go.WideShapes
variable {p:List MemPlace}{w:World}{g:Gh}
def ki(w:World):Gh:=⟨fun _=>undef,fun _=>0,fun _=>false,fun _=>none,fun b _=>b<w.heap.size⟩
theorem dy{b o:Nat}{v:Value}(h:w.cell? ⟨b,o,none⟩=some v):b<w.heap.size:=by
 unfold World.cell? at h;cases hh:w.heap[b]? with
 |none=>simp[hh]at h
 |some x=>exact(Bw.1 hh).1
theorem wz(hg:∃m,w.cell? ⟨0,0,none⟩=some (.int .i64 m))(ht:∀x∈uW,x.1<w.heap.size∧w.cell? ⟨x.1,x.2.1,none⟩=x.2.2):DV w (ki w) Af Af (ki w) w where
 os:=rfl
 tape:=rfl
 output:=rfl
 size:=Ao _
 frame:=fun _ _ _=>rfl
 slt:=fun _ _ h=>h
 objs:=fun _=>trivial
 inj:=fun _ _ _ h=>h.elim
 loc:=fun _ _ h=>h.elim
 sg:=fun _ _ h=>.inl h
 glob:=⟨⟨by obtain⟨m,h⟩:=hg;exact dy h,hg⟩,fun x hx=>ht x hx⟩
theorem UU{α β:Type}{f:α→Option β}:∀{l:List α} {r:List β},l.mapM f=some r→r.length=l.length∧∀(i:Nat) x,l[i]?=some x→∃y,r[i]?=some y∧f x=some y
 | [],r,h=>by simp at h;subst h;simp
 |a::l,r,h=>by
  rw[Lh]at h;cases ha:f a with
  |none=>simp[ha]at h
  |some b =>
   cases hl:l.mapM f with
   |none=>simp[ha,hl]at h
   |some s =>
    simp[ha,hl]at h;subst h;obtain⟨h1,h2⟩:=UU hl;refine⟨by simp[h1],fun i x hx=>?_⟩;cases i with
    |zero=>simp at hx;subst hx;exact⟨b,by simp,ha⟩
    |succ i=>obtain⟨y,h3,h4⟩:=h2 i x (by simpa using hx);exact⟨y,by simpa using h3,h4⟩
theorem WA{base:Nat}{a:Addr}{n:Nat}{cs:List Value}(h:w.cells? base a n=some cs) :
  cs.length=n∧(0<n→a.spot=none)∧∀j,j<n→∃v,cs[j]?=some v∧w.cell? ⟨a.block,a.off+j,none⟩=some v:=by
 unfold World.cells? at h;split at h
 ·obtain⟨h1,h2⟩:=UU h;have one:∀j,j<n→∃v,cs[j]?=some v∧w.cell? (a.add j)=some v:=fun j hj=>by
   obtain⟨v,e1,e2⟩:=h2 j j (by simp[hj]);exact⟨v,e1,e2⟩
  have wv:0<n→a.spot=none:=fun hn=>by
   obtain⟨v,_,hv⟩:=one 0 hn;simp only[Addr.add,Al]at hv;cases hs:a.spot with
   |none=>rfl
   |some s =>
    simp only[World.cell?]at hv;split at hv
    ·simp[hs]at hv
    ·cases hv
  refine⟨by simpa using h1,wv,fun j hj=>?_⟩;obtain⟨v,e1,e2⟩:=one j hj;refine⟨v,e1,?_⟩;have hs:=wv ch;have e:a.add j=⟨a.block,a.off+j,none⟩:=by
   unfold Addr.add;split
   ·rename_i h0;subst h0;cases a;simp_all
   ·rfl
  rw[←e];exact e2
 ·cases h
section
variable {H:Type}{enc:TypeId×Value→H}{P:Program}{w:World}{bk:DataW H→Nat}{N:Nat}
structure XH(bk:DataW H→Nat):Prop where
 slice:∀es sp,es.length≤bk (.slice es sp)∧∀d∈es,bk d≤bk (.slice es sp)
 agg:∀ps,∀d∈ps,bk d≤bk (.agg ps)
 str:∀b:List UInt8,b.length≤bk (.lit (.string b))
def KD(enc:TypeId×Value→H)(P:Program)(w:World)(bk:DataW H→Nat)(N:Nat)(t:TypeId){α:Type}(e:α→List AV)(ok:α→Prop):Prop :=
 ∀(fuel:Nat) (cs:List Value) (d:DataW H) (ps:List MemPlace),DataW.trod enc P w 0 (fun _=>true) true fuel t cs=some (d,ps)→bk d≤N→∃x:α,CU (ki w) w FQ (e x) cs∧ok x
theorem Sf{U:Nat→Prop}{a:AV}{v:Value}(h1:v.oneCell'=true)(h2:BP g w U a v):CU g w U [a] [v]:=by
 refine⟨rfl,fun x hx=>by simp at hx;subst hx;exact h1,fun i av x q1 q2=>?_⟩;cases i with
 |zero=>simp at q1 q2;subst q1;subst q2;exact h2
 |succ i=>simp at q1
theorem iU{U:Nat→Prop}{a b:List AV}{c d:List Value}(h:CU g w U a c)(k:CU g w U b d):CU g w U (a++b) (c++d):=by
 obtain⟨h1,h2,h3⟩:=h;obtain⟨k1,k2,k3⟩:=k;refine⟨by simp[h1,k1],fun x hx=>(AY.1 hx).elim (h2 x) (k2 x),fun i av x q1 q2=>?_⟩
 by_cases hi:i<a.length
 ·rw[A2 hi]at q1;rw[A2 ch]at q2;exact h3 i av x q1 q2
 ·rw[AR ch]at q1;rw[AR ch,h1]at q2;exact k3 _ av x q1 q2
theorem tB{U:Nat→Prop}:CU g w U [] []:=⟨rfl,(fun x hx=>by cases hx),fun i av x q1=>by simp at q1⟩
theorem io{t:TypeId}{k:IntKind}(hu:P.underlying t=some (.int k)):KD enc P w bk N t (fun n:Int=>[AV.v (.int k n)]) (fun n=>k.min≤n∧n≤k.max):=by
 intro fuel cs d ps h _;cases fuel with
 |zero=>simp[DataW.trod]at h
 |succ fuel =>
  rw[DataW.trod_step]at h;unfold DataW.trodStep at h;rw[hu]at h;split at h<;>rename_i he<;>first | cases he | skip
  all_goals first | (split at h<;>first | cases h | skip) | cases h | skip
  rename_i n hc _;obtain⟨rfl,hw⟩:=hc;simp only[Lit.wf,Ai,Az]at hw;exact⟨_,Sf rfl (.v _ _),hw⟩
theorem cO{t:TypeId}(hu:P.underlying t=some .bool):KD enc P w bk N t (fun b:Bool=>[AV.v (.bool b)]) (fun _=>True):=by
 intro fuel cs d ps h _;cases fuel with
 |zero=>simp[DataW.trod]at h
 |succ fuel =>
  rw[DataW.trod_step]at h;unfold DataW.trodStep at h;rw[hu]at h;split at h<;>rename_i he<;>first | cases he | skip
  all_goals first | cases h | skip
  exact⟨_,Sf rfl (.v _ _),trivial⟩
theorem Yx{t:TypeId}(hB:XH bk)(hu:P.underlying t=some .string):KD enc P w bk N t (fun s:ByteArray=>[AV.v (.string s)]) (fun s=>s.size≤N):=by
 intro fuel cs d ps h hb;cases fuel with
 |zero=>simp[DataW.trod]at h
 |succ fuel =>
  rw[DataW.trod_step]at h;unfold DataW.trodStep at h;rw[hu]at h;split at h<;>rename_i he<;>first | cases he | skip
  all_goals first | (split at h<;>first | cases h | skip) | cases h | skip
  rename_i s hs;refine⟨s,Sf rfl (.v _ _),?_⟩
  have:=hB.str s.data.toList
  have e:s.data.toList.length=s.size:=by rw[B9];rfl
  omega
theorem Jq{t e:TypeId}{α:Type}{E:α→List AV}{ok:α→Prop}{m:Nat}(hB:XH bk)(hu:P.underlying t=some (.slice e))(hm:P.cellsOf e=m+1)(hE:∀x,(E x).length=m+1)(he:KD enc P w bk N e E ok) :
  KD enc P w bk N t (fun l:List α=>[AV.slice .none (l.map E)]) (fun l=>l.length≤N∧∀x∈l,ok x):=by
 intro fuel cs d ps h hb;cases fuel with
 |zero=>simp[DataW.trod]at h
 |succ fuel =>
  rw[DataW.trod_step]at h;unfold DataW.trodStep at h;rw[hu]at h;split at h<;>rename_i hq<;>first | cases hq | skip
  all_goals first | (cases h;done) | skip
  ·cases h
   exact⟨[],Sf rfl (.snil _ _ _),AA _,fun x hx=>by cases hx⟩
  ·rename_i a len cap;simp only at h;split at h
   ·rename_i hc;simp only[AW,TQ]at h;obtain⟨qh,hel,rest,_,hd⟩:=h;simp only[Gk]at hd;obtain⟨hd,_⟩:=hd;obtain⟨hl,FN⟩:=UU hel;rw[Si]at hl;have hbs:=hB.slice (qh.map (·.1)) (rest.map (·.1));rw[hd]at hbs;rw[A8]at hbs;have one:∀i,i<len→∃(x:α) (vs:List Value),w.cells? 0 (a.add (i*P.cellsOf e)) (P.cellsOf e)=some vs∧CU (ki w) w FQ (E x) vs∧ok x:=fun i hi=>by
     obtain⟨y,hy,hf⟩:=FN i i (by simp[hi]);simp only[TQ]at hf;obtain⟨vs,hv,ht⟩:=hf;obtain⟨x,r1,r2⟩:=he fuel vs y.1 y.2 ht (Bf (hbs.2 y.1 (Am.2 ⟨y,Ay hy,rfl⟩)) hb);exact⟨x,vs,hv,r1,r2⟩
    have build:∀k,k≤len→∃l:List α,l.length=k∧∀(i:Nat) x,l[i]?=some x→∃vs:List Value,w.cells? 0 (a.add (i*P.cellsOf e)) (P.cellsOf e)=some vs∧CU (ki w) w FQ (E x) vs∧ok x:=fun k=>by
     induction k with
     |zero=>exact fun _=>⟨[],rfl,fun i x q=>by simp at q⟩
     |succ k ih =>
      intro hk;obtain⟨l,h1,h2⟩:=ih ch;obtain⟨x,hx⟩:=one k ch;refine⟨l++[x],by simp[h1],fun i y q=>?_⟩
      by_cases hi:i<l.length
      ·rw[A2 hi]at q;exact h2 i y q
      ·rw[AR ch]at q
       have:i-l.length=0:=by
        cases hz:i-l.length with
        |zero=>rfl
        |succ z=>rw[hz]at q;simp at q
       rw[this]at q;simp only[A9,Bq]at q;subst q
       have:i=k:=by omega
       subst this;exact hx
    obtain⟨l,h1,h2⟩:=build len (Ao _);refine⟨l,Sf rfl ?_,by omega,fun x hx=>?_⟩
    ·cases CB:len with
     |zero =>
      have:l=[]:=AK ch
      subst this;exact .snil _ _ _
     |succ n =>
      have wv:a.spot=none:=by
       obtain⟨x,vs,hv,_⟩:=one 0 ch
       have:=(WA hv).2.1 ch
       simpa[Addr.add]using this
      have ea:a=⟨a.block,a.off,none⟩:=by cases a;simp_all
      rw[←CB,←h1,show l.length=(l.map E).length by simp,ea];have cell:∀(i:Nat) (c:List AV) (j:Nat) (av:AV),(l.map E)[i]?=some c→c[j]?=some av→∃v,w.cell? ⟨a.block,a.off+i*(m+1)+j,none⟩=some v∧v.oneCell'=true∧BP (ki w) w FQ av v:=by
       intro i c j av q1 q2;rw[AL,AW]at q1;obtain⟨x,q1,rfl⟩:=q1;obtain⟨vs,hv,hr,_⟩:=h2 i x q1;obtain⟨k1,_,k3⟩:=WA hv;have hj:j<m+1:=by
        have:=(Aw.1 q2).1
        rw[hE]at this;exact this
       obtain⟨v,e1,e2⟩:=k3 j ch;refine⟨v,?_,hr.2.1 v (Ay e1),hr.2.2 j av v q2 e1⟩;rw[←e2,hm];unfold Addr.add;split
       ·rename_i h0;rw[h0];simp
       ·rfl
      refine .slice _ _ a.block a.off (m+1) cap (fun i j=>(w.cell? ⟨a.block,a.off+i*(m+1)+j,none⟩).getD undef) (by rw[A8];omega) (fun i c q=>?_) (fun i c j av q1 q2=>?_) (fun i c j av q1 q2=>?_)
      ·rw[AL,AW]at q;obtain⟨x,_,rfl⟩:=q;exact hE x
      ·obtain⟨v,e1,e2,_⟩:=cell i c j av q1 q2;exact⟨dy e1,by rw[e1];rfl,by rw[e1];exact e2⟩
      ·obtain⟨v,e1,_,e3⟩:=cell i c j av q1 q2;rw[e1];exact e3
    ·obtain⟨i,hi⟩:=Cg.1 hx;obtain⟨_,_,_,h⟩:=h2 i x hi;exact h
   ·cases h
theorem NP{t e:TypeId}(hu:P.underlying t=some (.slice e)):KD enc P w bk N t (fun _:Unit=>[AV.junk]) (fun _=>True):=by
 intro fuel cs d ps h _;cases fuel with
 |zero=>simp[DataW.trod]at h
 |succ fuel =>
  rw[DataW.trod_step]at h;unfold DataW.trodStep at h;rw[hu]at h;split at h<;>rename_i hq<;>first | cases hq | skip
  all_goals first | (cases h;done) | skip
  all_goals exact⟨(),Sf rfl (.junk _ _),trivial⟩
theorem KD.to{t:TypeId}{α β:Type}{e:α→List AV}{ok:α→Prop}{e' : β→List AV}{wJ : β→Prop}(h:KD enc P w bk N t e ok)(f:α→β)(hf:∀x,ok x→e' (f x)=e x∧wJ (f x)):KD enc P w bk N t e' wJ:=by
 intro fuel cs d ps k hb;obtain⟨x,h1,h2⟩:=h fuel cs d ps k hb;obtain⟨e1,e2⟩:=hf x h2;exact⟨f x,by rw[e1];exact h1,e2⟩
def XJ(enc:TypeId×Value→H)(P:Program)(w:World)(bk:DataW H→Nat)(N L:Nat)(l:List Field)(o:Nat){α:Type}(e:α→List AV)(ok:α→Prop):Prop :=
 ∀(fuel:Nat) (cs:List Value) (xs:List (DataW H×List MemPlace)),cs.length=L→l.mapM (fun f=>DataW.trod enc P w 0 (fun _=>true) true fuel f.type ((cs.drop f.offset).take (P.cellsOf f.type)))=some xs→(∀x∈xs,bk x.1≤N) →
  ∃x:α,CU (ki w) w FQ (e x) (cs.drop o)∧ok x
theorem HG{L:Nat}:XJ enc P w bk N L [] L (fun _:Unit=>[]) (fun _=>True):=by
 intro fuel cs xs hl _ _;refine⟨(),?_,trivial⟩;rw[H3 ch];exact tB
theorem Cu{L o n:Nat}{f:Field}{l:List Field}{α β:Type}{e:α→List AV}{ok:α→Prop}{e' : β→List AV}{wJ : β→Prop}(ho:f.offset=o)(hn:P.cellsOf f.type=n)(h:KD enc P w bk N f.type e ok)(k:XJ enc P w bk N L l (o+n) e' wJ) :
  XJ enc P w bk N L (f::l) o (fun p:α×β=>e p.1++e' p.2) (fun p=>ok p.1∧wJ p.2):=by
 intro fuel cs xs hl hx hb;rw[Lh]at hx;simp only[Option.bind_eq_bind,TQ]at hx;obtain⟨y,hy,ys,hys,na⟩:=hx;simp only[Option.pure_def,Bq]at na;subst na;obtain⟨x,r1,r2⟩:=h fuel _ y.1 y.2 hy (hb y (Aa ..));obtain⟨z,s1,s2⟩:=k fuel cs ys hl hys (fun q hq=>hb q (Ah _ hq));refine⟨(x,z),?_,r2,s2⟩;have e:cs.drop o=(cs.drop o).take n++cs.drop (o+n):=by rw[←List.drop_drop,Fr]
 rw[e];rw[ho,hn]at r1;exact iU r1 s1
theorem Gt{t:TypeId}{L:Nat}{fs:Array Field}{α:Type}{e:α→List AV}{ok:α→Prop}(hB:XH bk)(hu:P.underlying t=some (.struct fs))(hL:P.cellsOf t=L)(h:XJ enc P w bk N L fs.toList 0 e ok):KD enc P w bk N t e ok:=by
 intro fuel cs d ps k hb;cases fuel with
 |zero=>simp[DataW.trod]at k
 |succ fuel =>
  rw[DataW.trod_step]at k;unfold DataW.trodStep at k;rw[hu]at k
  change (if cs.length=P.cellsOf t then(fs.toList.mapM fun f=>DataW.trod enc P w 0 (fun _=>true) true fuel f.type ((cs.drop f.offset).take (P.cellsOf f.type))).map fun xs=>(DataW.agg (xs.map (·.1)),xs.flatMap (·.2))else none)=some (d,ps)at k
  split at k
  ·rename_i hc;simp only[AW,Gk]at k;obtain⟨xs,hx,hd,_⟩:=k;have hba:=hB.agg (xs.map (·.1));rw[hd]at hba;obtain⟨x,r1,r2⟩:=h fuel cs xs ch hx (fun y hy=>Bf (hba y.1 (Am.2 ⟨y,hy,rfl⟩)) hb);exact⟨x,r1,r2⟩
  ·cases k
theorem aM{t:TypeId}{α:Type}{e:α→AV}{ok:α→Prop}(h:KD enc P w bk N t (fun x=>[e x]) ok){v:Value}{d:DataW H}(hv:v.oneCell'=true)(k:DataW.Trod enc P w 0 (fun _=>true) true t v d p)(hb:bk d≤N) :
  ∃x,BP (ki w) w FQ (e x) v∧ok x:=by
 obtain⟨fuel,k⟩:=k;have ec:v.cells.toList=[v]:=by cases v<;>first | rfl | cases hv
 rw[ec]at k;obtain⟨x,r1,r2⟩:=h fuel _ d p k hb;exact⟨x,r1.2.2 0 _ _ rfl rfl,r2⟩
theorem aL{t:TypeId}{α:Type}{e:α→List AV}{ok:α→Prop}(h:KD enc P w bk N t e ok){cs:Array Value}{d:DataW H}(k:DataW.Trod enc P w 0 (fun _=>true) true t (.agg cs) d p)(hb:bk d≤N) :
  ∃x,BP (ki w) w FQ (.agg (e x)) (.agg cs)∧ok x:=by
 obtain⟨fuel,k⟩:=k;obtain⟨x,r1,r2⟩:=h fuel cs.toList d p k hb;refine⟨x,.agg _ _ _ (by have:=r1.1;simpa using this) (fun i y q=>r1.2.1 y (by rw[Array.mem_toList_iff];exact Array.mem_of_getElem? q)) (fun i av y q1 q2=>r1.2.2 i av y q1 (by simpa using q2)),r2⟩
end
end Go.Eng
