/- Lemmas for the claims of this seat, without a condition: part 15 (EngZD, EngZE, EngZF, EngZL, Tab). -/
import Derived.Test.YteaiieomnhbmgaaGreatDoorA14
import Derived.Deep.LoopGhost
import Derived.ReadAgain
import Derived.RowKit
import Derived.Test.YteaiieomnhbmgaaGreatDoorProg
namespace Go.Eng
variable {h:Nat->HO}{fn:Func}{c:Code}{U:Nat->Prop}{K:AV->Prop}{av:AV}{cs:List AV}{i:Nat}{w:World}{x:Value}{f:Nat}{g:Gh}(cx:Cx)(σ:JA)
theorem Ft{r:Nat}(e:SJ h r=true):AQ h r:=by
 unfold SJ at e;unfold AQ;split at e
 .cases e
 .rename_i hh;exact hh
theorem BM.ids0(r:BM g w U av x)(e:ids0 h av=true):BM g w (AQ h) av x:=by
 cases r with
 |v=>exact .v _ _
 |junk=>exact .junk _ _
 |snil=>exact .snil _ _ _
 |slice _ es b off sz cap val hc hl DN Es=>exact .slice _ es b off sz cap val hc hl DN Es
 |tok _ r sz es x hs hl hu ht hn hx=>exact .tok _ r sz es x ((BM.slice_none hs).up _) hl (Ft e) ht hn hx
 |ver _ r sz v es x hs hl hu ht hn hx=>exact .ver _ r sz v es x ((BM.slice_none hs).up _) hl (Ft e) ht hn hx
 |full _ sz es x hs hl hx=>exact .full _ sz es x ((BM.slice_none hs).up _) hl hx
 |msl _ r n a cap hu ht hn ha hx=>exact .msl _ r n a cap (Ft e) ht hn ha hx
 |agg=>cases e
 |tup=>cases e
 |cptr _ cs b off val DN Es=>exact .cptr _ cs b off val DN Es
 |ref _ r off b hu ht hx=>exact .ref _ r off b (Ft e) ht hx
 |eref _ r n sz i off b cap hu ht hn hx=>exact .eref _ r n sz i off b cap (Ft e) ht hn hx
 |mref _ r b hu ht hx=>exact .mref _ r b (Ft e) ht hx
 |cmap _ sh B7 b es ck hS hb hm hv=>exact .cmap _ sh B7 b es ck hS hb hm hv
 |clo=>cases e
theorem Uw(e:ab h cs=true)(hi:cs[i]?=some av):ids0 h av=true:=by
 induction cs generalizing i with
 |nil=>simp at hi
 |cons c cs ih =>
  unfold ab at e;split at e
  .rename_i hc;cases i with
   |zero=>simp only[Be,Bw]at hi;exact hi▸hc
   |succ i=>exact ih e (by simpa using hi)
  .cases e
theorem lP(e:Yp h cs=true)(hi:cs[i]?=some av):VQ h av=true:=by
 induction cs generalizing i with
 |nil=>simp at hi
 |cons c cs ih =>
  unfold Yp at e;split at e
  .rename_i hc;cases i with
   |zero=>simp only[Be,Bw]at hi;exact hi▸hc
   |succ i=>exact ih e (by simpa using hi)
  .cases e
theorem io{B7:List (Value×AV)}(e:Sb h B7=true){kv:Value×AV}(hi:B7[i]?=some kv):VQ h kv.2=true:=by
 induction B7 generalizing i with
 |nil=>simp at hi
 |cons c cs ih =>
  unfold Sb at e;split at e
  .rename_i hc;cases i with
   |zero=>simp only[Be,Bw]at hi;exact hi▸hc
   |succ i=>exact ih e (by simpa using hi)
  .cases e
theorem BM.ids(r:BM g w U av x)(e:VQ h av=true):BM g w (AQ h) av x:=by
 cases r with
 |agg _ cs vs hs h1 hr=>exact .agg _ cs vs hs h1 fun i av x q1 q2=>(hr i av x q1 q2).ids0 (Uw e q1)
 |tup _ cs vs hs hr=>exact .tup _ cs vs hs fun i av x q1 q2=>(hr i av x q1 q2).ids0 (Uw e q1)
 |clo _ f cs vs hs hr=>exact .clo _ f cs vs hs fun i av x q1 q2=>(hr i av x q1 q2).ids0 (Uw e q1)
 |v=>exact .v _ _
 |junk=>exact .junk _ _
 |snil=>exact .snil _ _ _
 |slice _ es b off sz cap val hc hl DN Es=>exact .slice _ es b off sz cap val hc hl DN Es
 |tok _ r sz es x hs hl hu ht hn hx=>exact .tok _ r sz es x ((BM.slice_none hs).up _) hl (Ft e) ht hn hx
 |ver _ r sz v es x hs hl hu ht hn hx=>exact .ver _ r sz v es x ((BM.slice_none hs).up _) hl (Ft e) ht hn hx
 |full _ sz es x hs hl hx=>exact .full _ sz es x ((BM.slice_none hs).up _) hl hx
 |msl _ r n a cap hu ht hn ha hx=>exact .msl _ r n a cap (Ft e) ht hn ha hx
 |cptr _ cs b off val DN Es=>exact .cptr _ cs b off val DN Es
 |ref _ r off b hu ht hx=>exact .ref _ r off b (Ft e) ht hx
 |eref _ r n sz i off b cap hu ht hn hx=>exact .eref _ r n sz i off b cap (Ft e) ht hn hx
 |mref _ r b hu ht hx=>exact .mref _ r b (Ft e) ht hx
 |cmap _ sh B7 b es ck hS hb hm hv=>exact .cmap _ sh B7 b es ck hS hb hm hv
theorem am{st:St}{h:Nat->HO}:∀{l:List (Nat×AV)},zS st h l->∀i,T6 l i=.junk\/(st.t i=T6 l i/\VQ h (T6 l i)=true)
 | [],_,i=>.inl rfl
 |(j,a)::l,⟨h1,h2⟩,i=>by
  unfold T6
  by_cases e:i=j
  .subst e;simp only[Di,KC];exact .inr h1
  .simp only[CW e,Ek];exact am h2 i
theorem aj{st:St}{h hb:Nat->HO}(hhb:∀j,hb j=.free\/(st.h j=hb j/\SK h (hb j)=true)):∀{l:List (Nat×HO)},zR st h l->∀i,Ao l hb i=.free\/(st.h i=Ao l hb i/\SK h (Ao l hb i)=true)
 | [],_,i=>hhb i
 |(j,a)::l,⟨h1,h2⟩,i=>by
  unfold Ao
  by_cases e:i=j
  .subst e;simp only[Di,KC];exact .inr h1
  .simp only[CW e,Ek];exact aj hhb h2 i
def Me(h0:Nat->HO):Prop:=match cx.ext with | false=>∀i,h0 i=.free | true=>∀i,h0 i≠.free->1000<=i/\i<2000
section
variable {P:Program}{N:Nat}{ds:List Deferred}{w0:World}{g0:Gh}{h0:Nat->HO}{st:St}{g:Gh}{a:Act}{w:World}{cx:Cx}
theorem SR.weaken(hE:Me cx h0)(hS:SR N ds w0 g0 h0 st g a w){s:LS}(H2:St.le cx st s):SR N ds w0 g0 h0 s.st g a w:=by
 obtain⟨h1,h2,h3,h4⟩:=H2;have hT:=am h1;have hH:∀i,s.st.h i=.free\/(st.h i=s.st.h i/\SK s.st.h (s.st.h i)=true):=aj h3 h2;have J5:∀r,(s.st.h r).live->(st.h r).live:=fun r hl=>by
  rcases hH r with e | ⟨e,_⟩
  .rw[e]at hl;exact hl.elim
  .rw[e];exact hl
 have hI:=hS.inv;refine⟨⟨hI.os,hI.tape,hI.output,hI.size,hI.frame,hI.slt,fun r=>?_,fun r r' b l l'=>hI.inj r r' b (J5 r l) (J5 r' l'),fun r b l=>hI.loc r b (J5 r l),hI.sg,hI.glob⟩,⟨hS.le.gh,fun i hi=>?_,hS.le.keeps⟩,hS.dfs,hS.size,fun i=>?_⟩
 .rcases hH r with e | ⟨e,e2⟩
  .rw[e];trivial
  .have ho:=hI.objs r;rw[e]at ho;generalize s.st.h r=o at ho e2;cases o with
   |cells cs =>
    obtain⟨t,b,E,vs,a1,a2,a3,a4,a5⟩:=ho;exact⟨t,b,E,vs,a1,a2,a3,⟨a4.1,a4.2.1,fun i av x q1 q2=>(a4.2.2 i av x q1 q2).ids (lP e2 q1)⟩,a5⟩
   |hol sz es i c av =>
    obtain⟨t,l,al,b,cap,E,vs,b1,b2,b3,b4,b5,b6,b7,b8,x,b9,Wp⟩:=ho;exact⟨t,l,al,b,cap,E,vs,b1,b2,b3,b4,b5,b6,b7,b8,x,b9,Wp.ids e2⟩
   |mapU sh B7 =>
    obtain⟨t,b,es,ck,a1,a2,a3,a4,a5,a6⟩:=ho;exact⟨t,b,es,ck,a1,a2,a3,a4,fun i kv e q1 q2=>(a5 i kv e q1 q2).ids (io e2 q1),a6⟩
   |_=>exact ho
 .have hu:=hS.le.us i hi;unfold Me at hE;split at hE
  .exact absurd (hE i) hi
  .rename_i hx;rw[hx]at h4;exact h4 i (hE i hi).1 (hE i hi).2 hu
 .show BM g w (AQ s.st.h) (T6 s.t i) _;rcases hT i with e | ⟨e,e2⟩
  .rw[e];exact .junk _ _
  .rw[<-e]at e2⊢;exact(hS.slots i).ids e2
def Ex.real:Ex->Exit
 |.normal=>.normal
 |.exit id=>.exit id
 |.ret=>.ret
def wz(N:Nat)(o:Oper):Bool:=match o.dst with | some d=>Nat.blt d N | none=>true
def EK(N:Nat):Code->Bool
 |.region _ ops _=>ops.toList.all (wz N)
 |.seq a b=>EK N a&&EK N b
 |.cond _ a b=>EK N a&&EK N b
 |.block _ c=>EK N c
 |.loop c=>EK N c
 |_=>true
theorem Ok(hP:cx.P=P)(hT:CF P cx.T)(hm:P.follows .mixedOrders=true)(hE:Me cx h0)(hY:∀l σ h g w,ED σ=true->DX w0 g0 h0 h g w->Le h0 g0 w0 h g w->cx.yp l σ (DM σ g) w)(ro:Option Nat):∀(c:Code),EK N c=true->∀{Qa:Ex->St->Prop} {Q:Exit->Act->World->Prop},
  (∀e st g a w,Qa e st->SR N ds w0 g0 h0 st g a w->Q e.real a w)->∀{st:St} {g:Gh} {a:Act} {w:World},SR N ds w0 g0 h0 st g a w->SC cx c Qa st->c.wpIn (Kt ro) 0 P Q a w:=by
 intro c
 induction c with
 |skip=>intro _ Qa Q hQ st g a w hS hk;exact wpIn_skip (hQ .normal _ _ _ _ hk hS)
 |label l=>intro _ Qa Q hQ st g a w hS hk;exact wpIn_label (hQ .normal _ _ _ _ hk hS)
 |exit id=>intro _ Qa Q hQ st g a w hS hk;exact wpIn_exit (hQ (.exit id) _ _ _ _ hk hS)
 |ret=>intro _ Qa Q hQ st g a w hS hk;exact wpIn_ret (hQ .ret _ _ _ _ hk hS)
 |region id ops dr =>
  intro hc Qa Q hQ st g a w hS hk;have hd:∀o∈ops.toList,∀i,o.dst=some i->i<N:=fun o ho i hi=>by
   have:=(Bc.1 hc) o ho
   simpa[wz,hi]using this
  have go:∀(st:St) (g:Gh) (hS:SR N ds w0 g0 h0 st g a w) (vr : Cx),vr.P=P->CF P vr.T->vr.yp=cx.yp->Nj vr ops dr st (Qa .normal)->(Code.region id ops dr).wpIn (Kt ro) 0 P Q a w:=by
   intro st g hS vr hP hT hy hk;have hY:∀l σ h g w,ED σ=true->DX w0 g0 h0 h g w->Le h0 g0 w0 h g w->vr.yp l σ (DM σ g) w:=by rw[hy];exact hY
   unfold Nj at hk;split at hk
   .exact wpIn_region_list (XN hP hT hY (fun Et g' a' w' q1 q2=>hQ .normal _ _ _ _ q1 q2) ops.toList hd hS hk)
   .obtain⟨_,FT,hk⟩:=gm hk;obtain⟨i1,i2⟩:=hS.inv.heapEq (w':={ w with drawn:=w.drawn+1 }) ⟨rfl,rfl,rfl⟩ rfl;have Uk : SR N ds w0 g0 h0 st g a { w with drawn:=w.drawn+1 }:=⟨i1,hS.le.trans i2,hS.dfs,hS.size,fun i=>(hS.slots i).le i2⟩;exact wpIn_region_any hm (XH hP hT hY (fun Et g' a' w' q1 q2=>hQ .normal _ _ _ _ q1 q2) (fun j o ho=>hd o (by simpa using Array.mem_of_getElem? ho)) _ _ Uk hk)
  have wH:∀(st:St) (g:Gh) (hS:SR N ds w0 g0 h0 st g a w),(match cx.pl.dyn with | []=>Nj cx ops dr st (Qa .normal) | _=>∃n,Nj { cx with nid:=n } ops dr st (Qa .normal))->(Code.region id ops dr).wpIn (Kt ro) 0 P Q a w:=by
   intro st g hS hk;split at hk
   .exact go st g hS cx hP hT rfl hk
   .obtain⟨n,hk⟩:=hk;exact go st g hS { cx with nid:=n } hP hT rfl hk
  unfold SC wy at hk;split at hk
  .split at hk
   .split at hk
    .split at hk
     .obtain⟨h',g',Uk,s,h1,h2⟩:=qM hS hk;exact wH s.st _ (Uk.weaken hE h1) h2
     .obtain⟨h',g',Uk,s,h1,h2⟩:=su hS hk;exact wH s.st _ (Uk.weaken hE h1) h2
    .obtain⟨Et,g',Uk,s,h1,h2⟩:=sy hS hk;exact wH s.st _ (Uk.weaken hE h1) h2
   .obtain⟨h',g',Uk,s,h1,h2⟩:=sE hS hk;exact wH s.st _ (Uk.weaken hE h1) h2
  .exact wH st _ hS hk
 |seq x y ihx ihy =>
  intro hc Qa Q hQ st g a w hS hk;simp only[EK,Ae]at hc;refine wpIn_seq (ihx hc.1 (Qa:=fun e Et=>match e with | .normal=>SC cx y Qa Et | e=>Qa e Et) (fun e st g a w q hS=>?_) hS hk);cases e with
  |normal=>exact ihy hc.2 hQ hS q
  |exit id=>exact hQ (.exit id) _ _ _ _ q hS
  |ret=>exact hQ .ret _ _ _ _ q hS
 |cond c x y ihx ihy =>
  intro hc Qa Q hQ st g a w hS hk;simp only[EK,Ae]at hc;have hr:=hS.eval c;unfold SC at hk;generalize hx:ev st.t c=v at hk hr;split at hk
  .exact wpIn_cond_true hr.v_eq (ihx hc.1 hQ hS hk)
  .exact wpIn_cond_false hr.v_eq (ihy hc.2 hQ hS hk)
  .exact hk.elim
 |block id c ih =>
  intro hc Qa Q hQ st g a w hS hk;refine wpIn_block (ih hc (Qa:=fun e Et=>match e with | .exit j=>(bif Nat.beq j id then Qa .normal Et else Qa (.exit j) Et) | e=>Qa e Et) (fun e st g a w q hS=>?_) hS hk);cases e with
  |normal=>exact hQ .normal _ _ _ _ q hS
  |ret=>exact hQ .ret _ _ _ _ q hS
  |exit j =>
   show(if j=id then Q .normal a w else Q (.exit j) a w);dsimp only at q
   by_cases e:j=id
   .rw[Al e];rw[e,Di,KC]at q;exact hQ .normal _ _ _ _ q hS
   .rw[Ai e];rw[CW e,Ek]at q;exact hQ (.exit j) _ _ _ _ q hS
 |loop c ih =>
  intro hc Qa Q hQ st g a w hS hk;obtain⟨α,I,μ,⟨x,hx⟩,wY⟩:=hk;refine SU (fun n a w=>∃x g,μ x=n/\SR N ds w0 g0 h0 (I x).st g a w) (μ x) ⟨x,g,rfl,hS.weaken hE hx⟩ ?_
  rintro n a w ⟨x,g,rfl,hS⟩
  refine ih hc (Qa:=fun e Et=>match e with | .normal=>∃y,μ y<μ x/\St.le cx Et (I y) | e=>Qa e Et) (fun e st g a w q hS=>?_) hS (wY x);cases e with
  |normal =>
   obtain⟨y,q1,q2⟩:=q;exact⟨μ y,q1,y,g,rfl,hS.weaken hE q2⟩
  |exit id=>exact hQ (.exit id) _ _ _ _ q hS
  |ret=>exact hQ .ret _ _ _ _ q hS
 |_=>intro _ Qa Q hQ st g a w hS hk;exact hk.elim
end
section
variable {P:Program}{N:Nat}{ds:List Deferred}{w0:World}{g0:Gh}{h0:Nat->HO}{st:St}{g:Gh}{a:Act}{w:World}
theorem ao{T:GU}(hT:CF P T){h:Nat->HO}(ho:∀r,Ep g w (AQ h) r (h r)){t:Nat}{p:AV}{vp:Value}(hp:BM g w (AQ h) p vp)(hk:IK T h t p K) :
  ∃ad,(asAddr vp).run P w=.ok ad w/\BO P h g w (loadVar t ad) K:=by
 obtain⟨x,av,h1,h2,h3⟩:=WU ho hT hp hk;have fin:∀b off,vp=.pointer (some ⟨b,off,none⟩)->∃ad,(asAddr vp).run P w=.ok ad w/\BO P h g w (loadVar t ad) K:=by
  rintro b off rfl
  refine⟨⟨b,off,none⟩,by simp[asAddr],x,av,?_,h2,h3⟩;simpa[Instr.loadAt,Instr.sureAddr]using h1
 unfold IK at hk;split at hk
 .cases hp;exact fin _ _ rfl
 .cases hp;exact fin _ _ rfl
 .cases hp;exact fin _ _ rfl
 .exact hk.elim
def dt(tmps:Array Value):ResultVar->Sem Value
 |.tmp t=>pure (tmps.getD t undef)
 |.cell ad t=>do loadVar t (<-asAddr (tmps.getD ad undef))
theorem OK(fn:Func)(tmps:Array Value):results fn tmps=(do
 let vs <-fn.results.mapM (dt tmps)
 pure (if h:vs.size=1 then vs[0]else .tuple vs)):=rfl
theorem YB{cx:Cx}(hT:CF P cx.T)(hS:SR N ds w0 g0 h0 st g a w):∀(rs:List ResultVar) {K:List AV->Prop},qi cx.T st rs K ->
  ∃l vs,K l/\(rs.mapM (dt a.tmps)).run P w=.ok vs w/\vs.length=l.length/\vs.length=rs.length /\
   ∀(i:Nat) (av:AV) (x:Value),l[i]?=some av->vs[i]?=some x->BM g w Fw av x
 | [],K,hk=>⟨[],[],hk,by simp,rfl,rfl,fun i av x h=>by simp at h⟩
 |.tmp t::r,K,hk=>by
  obtain⟨l,vs,h1,h2,h3,h4,h5⟩:=YB hT hS r hk;refine⟨_,a.tmps.getD t undef::vs,h1,?_,by simp[h3],by simp[h4],fun i av x q1 q2=>?_⟩
  .rw[Lb];simp only[dt,Sem.run_bind,Sem.run_pure,Result.andThen_ok,h2]
  .cases i with
   |zero =>
    simp only[Be,Bw]at q1 q2;subst q1;subst q2;exact BM.str hS.inv.objs (hS.slots t)
   |succ i=>exact h5 i av x (by simpa using q1) (by simpa using q2)
 |.cell ad t::r,K,hk=>by
  obtain⟨addr,e1,x0,av0,e2,hk',e4⟩:=ao hT hS.inv.objs (hS.slots ad) hk;obtain⟨l,vs,h1,h2,h3,h4,h5⟩:=YB hT hS r hk';refine⟨_,x0::vs,h1,?_,by simp[h3],by simp[h4],fun i av x q1 q2=>?_⟩
  .rw[Lb];simp only[dt,Sem.run_bind,Sem.run_pure,Result.andThen_ok,h2,e1,e2]
  .cases i with
   |zero =>
    simp only[Be,Bw]at q1 q2;subst q1;subst q2;exact BM.str hS.inv.objs e4
   |succ i=>exact h5 i av x (by simpa using q1) (by simpa using q2)
theorem qh{cx:Cx}(hT:CF P cx.T)(hS:SR N ds w0 g0 h0 st g a w)(hk:qg cx st fn.results.toList K) :
  ∃g' r v h',K r/\(results fn a.tmps).run P w=.ok v w/\DX w0 g0 h0 h' g' w/\Le h0 g0 w0 h' g' w/\BM g' w Fw r v:=by
 obtain⟨g',i1,i2⟩:=Ns cx.pl.fin hS.inv;have Uk : SR N ds w0 g0 h0 ⟨st.t,PM st.h cx.pl.fin⟩ g' a w:=⟨i1,hS.le.trans i2,hS.dfs,hS.size,fun i=>(hS.slots i).le i2⟩;obtain⟨l,vs,h1,h2,h3,h4,h5⟩:=YB hT Uk _ hk;have CP:(results fn a.tmps).run P w=.ok (if h:vs.toArray.size=1 then vs.toArray[0]else .tuple vs.toArray) w:=by
  rw[OK,show fn.results=fn.results.toList.toArray by simp,List.mapM_toArray];simp only[Sem.run_bind,Sem.run_map,h2,Result.andThen_ok,Sem.run_pure]
 refine⟨g',?_⟩
 match l,vs,h1,h3,h5,CP with
 | [v],[x],h1,h3,h5,CP=>exact⟨v,x,_,h1,by simpa using CP,i1,Uk.le,h5 0 v x rfl rfl⟩
 | [],vs,h1,h3,h5,CP =>
  have:vs=[]:=AP h3
  subst this;exact⟨.tup [],.tuple #[],_,h1,by simpa using CP,i1,Uk.le,.tup _ _ _ rfl fun i av x q=>by simp at q⟩
 |v::v' :: l,vs,h1,h3,h5,CP =>
  refine⟨.tup (v::v' :: l),.tuple vs.toArray,_,h1,?_,i1,Uk.le,.tup _ _ _ (by simpa using h3) fun i av x q1 q2=>h5 i av x q1 (by simpa using q2)⟩;rw[CP]
  have:vs.toArray.size≠1:=by simp[h3]
  simp only[this,dif_neg,not_false_eq_true]
theorem DX.toFree(hI:DX w0 g0 Af st.h g w):DX w0 g0 Af Af g w :=
 ⟨hI.os,hI.tape,hI.output,hI.size,hI.frame,hI.slt,fun _=>trivial,fun _ _ _ h=>h.elim,fun _ _ h=>h.elim,hI.sg,hI.glob⟩
theorem Px{U:Nat->Prop}{n:Nat}:∀{args:List AV} {vals:List Value},vals.length=args.length->(∀(i:Nat) (av:AV) (x:Value),args[i]?=some av->vals[i]?=some x->BM g w U av x) ->
  ∀i,BM g w U (Pw args i) ((vals++List.replicate n undef).getD i undef)
 | [],[],_,_,i=>by
  have:(([]:List Value)++List.replicate n undef).getD i undef=undef:=by
   rw[FL,B5,List.getElem?_replicate];split<;>rfl
  rw[this];exact .v _ _
 | [],_::_,h,_,_=>by simp at h
 |_::_,[],h,_,_=>by simp at h
 |x::l,v::vs,h,hr,i=>by
  cases i with
  |zero=>exact hr 0 x v rfl rfl
  |succ i =>
   have:=Px (n:=n) (args:=l) (vals:=vs) (by simpa using h) (fun i av x q1 q2=>hr (i+1) av x (by simpa using q1) (by simpa using q2)) i
   simpa[Pw]using this
theorem jU {f : Nat}{args : List AV}{Q : AV -> Prop}(hP : cx.P = P)(hT : CF P cx.T)(hm : P.follows .mixedOrders = true)(hx : cx.ext = false)(hf : P.funcs[f]? = some fn)(hn : (fn.name == "runtime.NumGoroutine") = false)(hb:fn.body=some c)(hN:args.length<=fn.ntmps)(hc:EK fn.ntmps c=true)(hk:SC cx c (s5 cx fn.results.toList Q) ⟨Pw args,Af⟩)(hY:∀l σ g w,cx.yp l σ g w:=by exact fun _ _ _ _=>trivial):A9 P f args Af fun r h'=>h'=Af/\Q r:=by
 refine⟨⟨fn,hf,hn,by simp[hb]⟩,fun g w vals hs hv hI=>calls_of_wp hf hb ?_⟩;have hU:AQ Af=Fw:=by funext i;unfold AQ Fw Af;simp
 have hS:SR fn.ntmps [] w g Af ⟨Pw args,Af⟩ g { tmps:=vals++Array.replicate (fn.ntmps-vals.size) undef,defers:=[] } w:=by
  refine⟨hI,.refl _ _ _,rfl,by simp[hs];omega,fun i=>?_⟩
  have:=Px (n:=fn.ntmps-vals.size) (args:=args) (vals:=vals.toList) (by simpa using hs) (fun i av x q1 q2=>hv i av x q1 (by simpa using q2)) i
  rw[CD,<-A3];rw[B5]at this;simpa using this
 refine wpIn_wide.1 (Ok hP hT hm (by unfold Me;rw[hx];exact fun _=>rfl) (fun l σ _ _ w _ _ _=>hY l σ _ w) none c hc (fun e st g' a w' hk hS=>?_) hS hk);have out:qg cx st fn.results.toList Q->a.defers=[]/\∃v,(results fn a.tmps).run P w'=.ok v w'/\∃v' r h' g',(Ending.returned v:Ending)=.returned v'/\(h'=Af/\Q r)/\BM g' w' (AQ h') r v'/\DX w g Af h' g' w'/\Le Af g w h' g' w':=by
  intro hk;obtain⟨g2,r,v,h',q1,q2,q3,q4,q5⟩:=qh hT hS hk;exact⟨hS.dfs,v,q2,v,r,Af,g2,rfl,⟨rfl,q1⟩,by rw[hU];exact q5,DX.toFree (st:=⟨st.t,h'⟩) q3,⟨fun i hi=>absurd rfl hi,fun i hi=>absurd rfl hi,q4.keeps⟩⟩
 cases e with
 |normal=>exact out hk
 |ret=>exact out hk
 |exit id=>exact hk.elim
theorem Tj{cx:Cx}(hT:CF P cx.T)(hS:SR N ds w0 g0 h0 st g a w):∀(rs:List ResultVar) {K:List AV->Prop},qj cx.T st rs K ->
  ∃l vs,K l/\(rs.mapM (dt a.tmps)).run P w=.ok vs w/\vs.length=l.length/\vs.length=rs.length /\
   ∀(i:Nat) (av:AV) (x:Value),l[i]?=some av->vs[i]?=some x->BM g w (AQ st.h) av x
 | [],K,hk=>⟨[],[],hk,by simp,rfl,rfl,fun i av x h=>by simp at h⟩
 |.tmp t::r,K,hk=>by
  obtain⟨l,vs,h1,h2,h3,h4,h5⟩:=Tj hT hS r hk;refine⟨_,a.tmps.getD t undef::vs,h1,?_,by simp[h3],by simp[h4],fun i av x q1 q2=>?_⟩
  .rw[Lb];simp only[dt,Sem.run_bind,Sem.run_pure,Result.andThen_ok,h2]
  .cases i with
   |zero =>
    simp only[Be,Bw]at q1 q2;subst q1;subst q2;exact hS.slots t
   |succ i=>exact h5 i av x (by simpa using q1) (by simpa using q2)
 |.cell ad t::r,K,hk=>by
  obtain⟨addr,e1,x0,av0,e2,hk',e4⟩:=ao hT hS.inv.objs (hS.slots ad) hk;obtain⟨l,vs,h1,h2,h3,h4,h5⟩:=Tj hT hS r hk';refine⟨_,x0::vs,h1,?_,by simp[h3],by simp[h4],fun i av x q1 q2=>?_⟩
  .rw[Lb];simp only[dt,Sem.run_bind,Sem.run_pure,Result.andThen_ok,h2,e1,e2]
  .cases i with
   |zero =>
    simp only[Be,Bw]at q1 q2;subst q1;subst q2;exact e4
   |succ i=>exact h5 i av x (by simpa using q1) (by simpa using q2)
theorem GK{σ:JA}:∀{H0:List (Nat×HO)},I3 σ H0=true->∀i,Ao H0 Af i≠.free->1000<=i/\i<2000/\CC σ i=some i
 | [],_,i,h=>absurd rfl h
 |(a,o)::r,hx,i,h=>by
  simp only[I3,Ae,Dm,Cs]at hx;obtain⟨⟨⟨h1,h2⟩,h3⟩,h4⟩:=hx
  by_cases e:i=a
  .subst e;refine⟨h1,h2,?_⟩;split at h3
   .rename_i j e;rw[e,AK h3]
   .cases h3
  .unfold Ao at h;simp only[CW e,Ek]at h;exact GK h4 i h
theorem Py{H0:List (Nat×HO)}{σ:JA}(hσ:Hd σ=true)(hx:I3 σ H0=true){h:Nat->HO}(hI:DX w0 g0 (Ao H0 Af) h g w)(hL:Le (Ao H0 Af) g0 w0 h g w) :
  Li (CC σ) h (FO σ h) g (DM σ g) w/\DX w0 g0 (Ao H0 Af) (FO σ h) (DM σ g) w/\Le (Ao H0 Af) g0 w0 (FO σ h) (DM σ g) w:=by
 have inv:=Yr hσ;have Fz:∀j,FO σ h j=match Ip σ j with | some i=>(h i).ren (CC σ) h | none=>.free:=Qj _ _ σ
 have hR:Li (CC σ) h (FO σ h) g (DM σ g) w:=by
  refine⟨fun r r' hr hu=>?_,fun b o=>RH,hI.objs⟩;have hb:=(inv r r').1 hr;refine⟨by simp[DM,hb],by simp[DM,hb],by simp[DM,hb],by simp[DM,hb],?_⟩;unfold AQ;rw[Fz,hb];exact(M8 _ _ _).2 hu
 have J5:∀j,(FO σ h j).live->∃i,Ip σ j=some i/\(h i).live:=fun j hl=>by
  rw[Fz]at hl;cases e:Ip σ j with
  |none=>rw[e]at hl;exact hl.elim
  |some i=>rw[e]at hl;exact⟨i,rfl,(M7 _ _ _).1 hl⟩
 have Yn:∀j i,Ip σ j=some i->(DM σ g).own j=g.own i:=fun j i e=>by simp[DM,e]
 refine⟨hR,⟨hI.os,hI.tape,hI.output,hI.size,hI.frame,hI.slt,fun j=>?_,fun j j' b hl QU e e'=>?_,fun j b hl e=>?_,hI.sg,hI.glob⟩,⟨fun i hi=>?_,fun i hi=>?_,hL.keeps⟩⟩
 .rw[Fz];cases e:Ip σ j with
  |none=>trivial
  |some i =>
   by_cases hu:AQ h i
   .exact(hI.objs i).ren hR ((inv i j).2 e) hu
   .have:h i=.free:=B3.1 hu
    dsimp only;rw[this];trivial
 .obtain⟨i,e1,l1⟩:=J5 j hl;obtain⟨i',e2,l2⟩:=J5 j' QU;rw[Yn j i e1]at e;rw[Yn j' i' e2]at e';obtain rfl:=hI.inj i i' b l1 l2 e e'
  have:=(inv i j).2 e1
  rw[(inv i j').2 e2]at this;cases this;rfl
 .obtain⟨i,e1,l1⟩:=J5 j hl;rw[Yn j i e1]at e;exact hI.loc i b l1 e
 .obtain⟨_,_,hf⟩:=GK hx i hi;have hb:=(inv i i).1 hf;have e1:(DM σ g).ρ i=g.ρ i/\(DM σ g).ln i=g.ln i/\(DM σ g).tk i=g.tk i:=by simp[DM,hb]
  obtain⟨k1,k2,k3,k4⟩:=hL.gh i hi;exact⟨e1.2.2.trans k1,by omega,fun t=>e1.1.trans (k3 t),fun l=>e1.1.trans (k4 ch)⟩
 .obtain⟨_,_,hf⟩:=GK hx i hi;have hb:=(inv i i).1 hf;unfold AQ;rw[Fz,hb];exact(M8 _ _ _).2 (hL.us i hi)
theorem ZO{f:Nat}{args:List AV}{H0:List (Nat×HO)}{Q:AV->(Nat->HO)->Prop}(hP:cx.P=P)(hT:CF P cx.T)(hm:P.follows .mixedOrders=true)(hx:cx.ext=true)(hf:P.funcs[f]?=some fn)(_hn : (fn.name == "runtime.NumGoroutine") = false)(hb : fn.body = some c)(hN : args.length <= fn.ntmps)(hc : EK fn.ntmps c = true)(hσ : (Hd σ && I3 σ H0) = true)(hk:SC cx c (Zx cx fn.results.toList σ Q) ⟨Pw args,Ao H0 Af⟩){g:Gh}{w:World}{vals:Array Value}(hs:vals.size=args.length)(hv:∀(i:Nat) (av:AV) (x:Value),args[i]?=some av->vals[i]?=some x->BM g w (AQ (Ao H0 Af)) av x)(hI:DX w g (Ao H0 Af) (Ao H0 Af) g w)(hY:∀l σ h' g' w',ED σ=true->DX w g (Ao H0 Af) h' g' w'->Le (Ao H0 Af) g w h' g' w'->cx.yp l σ (DM σ g') w') :
  Calls P f vals w fun e w'=>∃v r h' g',e=.returned v/\Q r h'/\BM g' w' (AQ h') r v/\DX w g (Ao H0 Af) h' g' w'/\Le (Ao H0 Af) g w h' g' w':=by
 simp only[Ae]at hσ;obtain⟨hσ,rL⟩:=hσ;refine calls_of_wp hf hb ?_;have hS:SR fn.ntmps [] w g (Ao H0 Af) ⟨Pw args,Ao H0 Af⟩ g { tmps:=vals++Array.replicate (fn.ntmps-vals.size) undef,defers:=[] } w:=by
  refine⟨hI,.refl _ _ _,rfl,by simp[hs];omega,fun i=>?_⟩
  have:=Px (n:=fn.ntmps-vals.size) (args:=args) (vals:=vals.toList) (by simpa using hs) (fun i av x q1 q2=>hv i av x q1 (by simpa using q2)) i
  rw[CD,<-A3];rw[B5]at this;simpa using this
 refine wpIn_wide.1 (Ok hP hT hm (by unfold Me;rw[hx];exact fun i hi=>⟨(GK rL i hi).1,(GK rL i hi).2.1⟩) hY none c hc (fun e st g' a w' hk hS=>?_) hS hk);have out:iV cx st fn.results.toList σ Q->a.defers=[]/\∃v,(results fn a.tmps).run P w'=.ok v w'/\∃v' r h' g',(Ending.returned v:Ending)=.returned v'/\Q r h'/\BM g' w' (AQ h') r v'/\DX w g (Ao H0 Af) h' g' w'/\Le (Ao H0 Af) g w h' g' w':=by
  intro hk;obtain⟨g2,i1,i2⟩:=Ns cx.pl.fin hS.inv;have Uk : SR fn.ntmps [] w g (Ao H0 Af) ⟨st.t,PM st.h cx.pl.fin⟩ g2 a w':=⟨i1,hS.le.trans i2,hS.dfs,hS.size,fun i=>(hS.slots i).le i2⟩;obtain⟨l,vs,h1,h2,h3,h4,h5⟩:=Tj hT Uk _ hk;obtain⟨hR,j1,j2⟩:=Py hσ rL i1 Uk.le;have CP:(results fn a.tmps).run P w'=.ok (if h:vs.toArray.size=1 then vs.toArray[0]else .tuple vs.toArray) w':=by
   rw[OK,show fn.results=fn.results.toList.toArray by simp,List.mapM_toArray];simp only[Sem.run_bind,Sem.run_map,h2,Result.andThen_ok,Sem.run_pure]
  refine⟨hS.dfs,?_⟩
  match l,vs,h1,h3,h5,CP with
  | [v],[x],h1,h3,h5,CP=>exact⟨x,by simpa using CP,x,_,_,_,rfl,h1,(h5 0 v x rfl rfl).ren hR,j1,j2⟩
  | [],vs,h1,h3,h5,CP =>
   have:vs=[]:=AP h3
   subst this;exact⟨.tuple #[],by simpa using CP,.tuple #[],_,_,_,rfl,h1,BM.ren hR (.tup _ [] _ rfl fun i av x q=>by simp at q),j1,j2⟩
  |v::v' :: l,vs,h1,h3,h5,CP =>
   refine⟨.tuple vs.toArray,?_,.tuple vs.toArray,_,_,_,rfl,h1,BM.ren hR (.tup _ _ _ (by simpa using h3) fun i av x q1 q2=>h5 i av x q1 (by simpa using q2)),j1,j2⟩;rw[CP]
   have:vs.toArray.size≠1:=by simp[h3]
   simp only[this,dif_neg,not_false_eq_true]
 cases e with
 |normal=>exact out hk
 |ret=>exact out hk
 |exit id=>exact hk.elim
theorem ld{f:Nat}{args:List AV}{H0:List (Nat×HO)}{Q:AV->(Nat->HO)->Prop}(hP:cx.P=P)(hT:CF P cx.T)(hm:P.follows .mixedOrders=true)(hx:cx.ext=true)(hf:P.funcs[f]?=some fn)(hn : (fn.name == "runtime.NumGoroutine") = false)(hb : fn.body = some c)(hN : args.length <= fn.ntmps)(hc : EK fn.ntmps c = true)(hσ : (Hd σ && I3 σ H0) = true)(hk:SC cx c (Zx cx fn.results.toList σ Q) ⟨Pw args,Ao H0 Af⟩)(hY:∀l σ g w,cx.yp l σ g w:=by exact fun _ _ _ _=>trivial):A9 P f args (Ao H0 Af) Q :=
 ⟨⟨fn,hf,hn,by simp[hb]⟩,fun g w vals hs hv hI=>ZO cx σ hP hT hm hx hf hn hb hN hc hσ hk hs hv hI (fun l σ _ _ w _ _ _=>hY l σ _ w)⟩
end
def CZ(r r' : AV):Prop:=∀(g:Gh) (w:World) (U:Nat->Prop) (x:Value),BM g w U r x->BM g w U r' x
theorem CZ.refl(r:AV):CZ r r:=fun _ _ _ _ h=>h
theorem CZ.of_eq{r r' : AV}(h:r=r'):CZ r r':=h▸.refl r
theorem CZ.trans{a b c:AV}(h:CZ a b)(k:CZ b c):CZ a c:=fun g w U x r=>k g w U x (h g w U x r)
theorem CZ.nil:CZ nzA (.slice .none []):=fun _ _ _ _ h=>by cases h;exact .snil _ _ _
def KP:List AV->List AV->Prop
 | [],[]=>True
 |a::r,b::s=>CZ a b/\KP r s
 |_,_=>False
theorem KP.refl:∀l:List AV,KP l l
 | []=>trivial
 |a::l=>⟨.refl a,KP.refl l⟩
theorem KP.len:∀{l l' : List AV},KP l l'->l'.length=l.length
 | [],[],_=>rfl
 |_::_,_::_,h=>Aa (·+1) h.2.len
 | [],_::_,h=>h.elim
 |_::_,[],h=>h.elim
theorem KP.get:∀{l l' : List AV},KP l l'->∀(i:Nat) (b:AV),l'[i]?=some b->∃a,l[i]?=some a/\CZ a b
 | [],[],_,i,b,h=>by simp at h
 |a::r,b::s,hs,i,c,h=>by
  cases i with
  |zero=>simp only[Be,Bw]at h;subst h;exact⟨a,rfl,hs.1⟩
  |succ i=>exact KP.get hs.2 i c (by simpa using h)
 | [],_::_,h,_,_,_=>h.elim
 |_::_,[],h,_,_,_=>h.elim
theorem CZ.tup{l l' : List AV}(h:KP l l'):CZ (.tup l) (.tup l'):=fun g w U x r=>by
 cases r with
 |tup _ _ vs hs hr =>
  refine .tup _ _ vs (by rw[hs,h.len]) fun i av x q1 q2=>?_;obtain⟨a,e1,e2⟩:=h.get i av q1;exact e2 _ _ _ _ (hr i a x e1 q2)
theorem CZ.agg{l l' : List AV}(h:KP l l'):CZ (.agg l) (.agg l'):=fun g w U x r=>by
 cases r with
 |agg _ _ vs hs h1 hr =>
  refine .agg _ _ vs (by rw[hs,h.len]) h1 fun i av x q1 q2=>?_;obtain⟨a,e1,e2⟩:=h.get i av q1;exact e2 _ _ _ _ (hr i a x e1 q2)
def bF:List (List AV)->List (List AV)->Prop
 | [],[]=>True
 |a::r,b::s=>KP a b/\bF r s
 |_,_=>False
theorem bF.len:∀{l l' : List (List AV)},bF l l'->l'.length=l.length
 | [],[],_=>rfl
 |_::_,_::_,h=>Aa (·+1) h.2.len
 | [],_::_,h=>h.elim
 |_::_,[],h=>h.elim
theorem bF.get:∀{l l' : List (List AV)},bF l l'->∀(i:Nat) (b:List AV),l'[i]?=some b->∃a,l[i]?=some a/\KP a b
 | [],[],_,i,b,h=>by simp at h
 |a::r,b::s,hs,i,c,h=>by
  cases i with
  |zero=>simp only[Be,Bw]at h;subst h;exact⟨a,rfl,hs.1⟩
  |succ i=>exact bF.get hs.2 i c (by simpa using h)
 | [],_::_,h,_,_,_=>h.elim
 |_::_,[],h,_,_,_=>h.elim
theorem CZ.slice{l l' : List (List AV)}(h:bF l l'):CZ (.slice .none l) (.slice .none l'):=fun g w U x r=>by
 have CL:=h.len;cases r with
 |snil _ a cap =>
  have:l'=[]:=AP (by rw[CL];rfl)
  subst this;exact .snil _ a cap
 |slice _ _ b off sz cap val hc hl DN Es =>
  rw[<-CL];refine .slice _ _ b off sz cap val (by rw[CL];exact hc) (fun i cs hi=>?_) (fun i cs j av hi hj=>?_) (fun i cs j av hi hj=>?_)
  .obtain⟨a,e1,e2⟩:=h.get i cs hi;rw[e2.len];exact hl i a e1
  .obtain⟨a,e1,e2⟩:=h.get i cs hi;obtain⟨c,f1,f2⟩:=e2.get j av hj;exact DN i a j c e1 f1
  .obtain⟨a,e1,e2⟩:=h.get i cs hi;obtain⟨c,f1,f2⟩:=e2.get j av hj;exact f2 _ _ _ _ (Es i a j c e1 f1)
section
variable {P:Program}
theorem A9.mono{f:Nat}{args:List AV}{h0:Nat->HO}{Q Q' : AV->(Nat->HO)->Prop}(h:A9 P f args h0 Q)(hq:∀r h',Q r h'->∃r',CZ r r'/\Q' r' h'):A9 P f args h0 Q' :=
 ⟨h.1,fun g w vals q1 q2 q3=>(h.2 g w vals q1 q2 q3).mono fun _ _ ⟨v,r,h',g',e1,e2,e3,rest⟩ =>
  let ⟨r',s,k⟩:=hq r h' e2
  ⟨v,r',h',g',e1,k,s _ _ _ _ e3,rest⟩⟩
theorem A9.args{args args' : List AV}{h0:Nat->HO}{Q:AV->(Nat->HO)->Prop}(h:A9 P f args h0 Q)(hs:KP args' args):A9 P f args' h0 Q :=
 ⟨h.1,fun g w vals q1 q2 q3=>h.2 g w vals (by rw[q1,hs.len]) (fun i av x e1 e2=>by
  obtain⟨a,f1,f2⟩:=hs.get i av e1;exact f2 _ _ _ _ (q2 i a x f1 e2)) q3⟩
theorem IY.args{f:Nat}{args args' : List AV}{res:AV}(h:IY P f args res)(hs:KP args' args):IY P f args' res:=A9.args h hs
theorem FZ {args : List AV}{res : AV}(hP : cx.P = P)(hT : CF P cx.T)(hm : P.follows .mixedOrders = true)(hx : cx.ext = false)(hf : P.funcs[f]? = some fn)(hn : (fn.name == "runtime.NumGoroutine") = false)(hb:fn.body=some c)(hN:args.length<=fn.ntmps)(hc:EK fn.ntmps c=true)(hk:SC cx c (s5 cx fn.results.toList fun r=>CZ r res) ⟨Pw args,Af⟩)(hY:∀l σ g w,cx.yp l σ g w:=by exact fun _ _ _ _=>trivial):IY P f args res :=
 (jU cx hP hT hm hx hf hn hb hN hc hk hY).mono fun _ _ ⟨e1,e2⟩=>⟨res,e2,rfl,e1⟩
end
end Go.Eng
namespace Go.Eng
open Go.ChangeShapes Go.WideShapes
variable {w:World}{g:Gh}
def oc(w:World):Gh:=⟨fun _=>undef,fun _=>0,fun _=>false,fun _=>none,fun b _=>b<w.heap.size⟩
theorem XZ{b o:Nat}{v:Value}(h:w.cell? ⟨b,o,none⟩=some v):b<w.heap.size:=by
 unfold World.cell? at h;cases hh:w.heap[b]? with
 |none=>simp[hh]at h
 |some x=>exact(Bp.1 hh).1
theorem xQ(hg:∃m,w.cell? ⟨0,0,none⟩=some (.int .i64 m))(ht:∀x∈lc,x.1<w.heap.size/\w.cell? ⟨x.1,x.2.1,none⟩=x.2.2):DX w (oc w) Af Af (oc w) w where
 os:=rfl
 tape:=rfl
 output:=rfl
 size:=Aj _
 frame:=fun _ _ _=>rfl
 slt:=fun _ _ h=>h
 objs:=fun _=>trivial
 inj:=fun _ _ _ h=>h.elim
 loc:=fun _ _ h=>h.elim
 sg:=fun _ _ h=>.inl h
 glob:=⟨⟨by obtain⟨m,h⟩:=hg;exact XZ h,hg⟩,fun x hx=>ht x hx⟩
theorem UL{α β:Type}{f:α->Option β}:∀{l:List α} {r:List β},l.mapM f=some r->r.length=l.length/\∀(i:Nat) x,l[i]?=some x->∃y,r[i]?=some y/\f x=some y
 | [],r,h=>by simp at h;subst h;simp
 |a::l,r,h=>by
  rw[Lb]at h;cases ha:f a with
  |none=>simp[ha]at h
  |some b =>
   cases hl:l.mapM f with
   |none=>simp[ha,hl]at h
   |some s =>
    simp[ha,hl]at h;subst h;obtain⟨h1,h2⟩:=UL hl;refine⟨by simp[h1],fun i x hx=>?_⟩;cases i with
    |zero=>simp at hx;subst hx;exact⟨b,by simp,ha⟩
    |succ i=>obtain⟨y,h3,h4⟩:=h2 i x (by simpa using hx);exact⟨y,by simpa using h3,h4⟩
theorem Ww{base:Nat}{a:Addr}{n:Nat}{cs:List Value}(h:w.cells? base a n=some cs) :
  cs.length=n/\(0<n->a.spot=none)/\∀j,j<n->∃v,cs[j]?=some v/\w.cell? ⟨a.block,a.off+j,none⟩=some v:=by
 unfold World.cells? at h;split at h
 .obtain⟨h1,h2⟩:=UL h;have one:∀j,j<n->∃v,cs[j]?=some v/\w.cell? (a.add j)=some v:=fun j hj=>by
   obtain⟨v,e1,e2⟩:=h2 j j (by simp[hj]);exact⟨v,e1,e2⟩
  have xJ:0<n->a.spot=none:=fun hn=>by
   obtain⟨v,_,hv⟩:=one 0 hn;simp only[Addr.add,Al]at hv;cases hs:a.spot with
   |none=>rfl
   |some s =>
    simp only[World.cell?]at hv;split at hv
    .simp[hs]at hv
    .cases hv
  refine⟨by simpa using h1,xJ,fun j hj=>?_⟩;obtain⟨v,e1,e2⟩:=one j hj;refine⟨v,e1,?_⟩;have hs:=xJ ch;have e:a.add j=⟨a.block,a.off+j,none⟩:=by
   unfold Addr.add;split
   .rename_i h0;subst h0;cases a;simp_all
   .rfl
  rw[<-e];exact e2
 .cases h
section
variable {H:Type}{enc:TypeId×Value->H}{P:Program}{w:World}{bk:DataW H->Nat}{N:Nat}
structure XC(bk:DataW H->Nat):Prop where
 slice:∀es sp,es.length<=bk (.slice es sp)/\∀d∈es,bk d<=bk (.slice es sp)
 agg:∀ps,∀d∈ps,bk d<=bk (.agg ps)
 str:∀b:List UInt8,b.length<=bk (.lit (.string b))
def Lh(enc:TypeId×Value->H)(P:Program)(w:World)(bk:DataW H->Nat)(N:Nat)(t:TypeId){α:Type}(e:α->List AV)(ok:α->Prop):Prop :=
 ∀(fuel:Nat) (cs:List Value) (d:DataW H) (ps:List MemPlace),DataW.trod enc P w 0 (fun _=>true) true fuel t cs=some (d,ps)->bk d<=N->∃x:α,CO (oc w) w Fw (e x) cs/\ok x
theorem RG{U:Nat->Prop}{a:AV}{v:Value}(h1:v.oneCell'=true)(h2:BM g w U a v):CO g w U [a] [v]:=by
 refine⟨rfl,fun x hx=>by simp at hx;subst hx;exact h1,fun i av x q1 q2=>?_⟩;cases i with
 |zero=>simp at q1 q2;subst q1;subst q2;exact h2
 |succ i=>simp at q1
theorem jD{U:Nat->Prop}{a b:List AV}{c d:List Value}(h:CO g w U a c)(k:CO g w U b d):CO g w U (a++b) (c++d):=by
 obtain⟨h1,h2,h3⟩:=h;obtain⟨k1,k2,k3⟩:=k;refine⟨by simp[h1,k1],fun x hx=>(AO.1 hx).elim (h2 x) (k2 x),fun i av x q1 q2=>?_⟩
 by_cases hi:i<a.length
 .rw[AY hi]at q1;rw[AY ch]at q2;exact h3 i av x q1 q2
 .rw[AZ ch]at q1;rw[AZ ch,h1]at q2;exact k3 _ av x q1 q2
theorem vd{U:Nat->Prop}:CO g w U [] []:=⟨rfl,(fun x hx=>by cases hx),fun i av x q1=>by simp at q1⟩
theorem Rh{t:TypeId}{k:IntKind}(hu:P.underlying t=some (.int k)):Lh enc P w bk N t (fun n:Int=>[AV.v (.int k n)]) (fun n=>k.min<=n/\n<=k.max):=by
 intro fuel cs d ps h _;cases fuel with
 |zero=>simp[DataW.trod]at h
 |succ fuel =>
  rw[DataW.trod_step]at h;unfold DataW.trodStep at h;rw[hu]at h;split at h<;>rename_i he<;>first | cases he | skip
  all_goals first | (split at h<;>first | cases h | skip) | cases h | skip
  rename_i n hc _;obtain⟨rfl,hw⟩:=hc;simp only[Lit.wf,Ae,AA]at hw;exact⟨_,RG rfl (.v _ _),hw⟩
theorem c8{t:TypeId}(hu:P.underlying t=some .bool):Lh enc P w bk N t (fun b:Bool=>[AV.v (.bool b)]) (fun _=>True):=by
 intro fuel cs d ps h _;cases fuel with
 |zero=>simp[DataW.trod]at h
 |succ fuel =>
  rw[DataW.trod_step]at h;unfold DataW.trodStep at h;rw[hu]at h;split at h<;>rename_i he<;>first | cases he | skip
  all_goals first | cases h | skip
  exact⟨_,RG rfl (.v _ _),trivial⟩
theorem YA{t:TypeId}(hB:XC bk)(hu:P.underlying t=some .string):Lh enc P w bk N t (fun s:ByteArray=>[AV.v (.string s)]) (fun s=>s.size<=N):=by
 intro fuel cs d ps h hb;cases fuel with
 |zero=>simp[DataW.trod]at h
 |succ fuel =>
  rw[DataW.trod_step]at h;unfold DataW.trodStep at h;rw[hu]at h;split at h<;>rename_i he<;>first | cases he | skip
  all_goals first | (split at h<;>first | cases h | skip) | cases h | skip
  rename_i s hs;refine⟨s,RG rfl (.v _ _),?_⟩
  have:=hB.str s.data.toList
  have e:s.data.toList.length=s.size:=by rw[BS];rfl
  omega
theorem FA{t e:TypeId}{α:Type}{E:α->List AV}{ok:α->Prop}{m:Nat}(hB:XC bk)(hu:P.underlying t=some (.slice e))(hm:P.cellsOf e=m+1)(hE:∀x,(E x).length=m+1)(he:Lh enc P w bk N e E ok) :
  Lh enc P w bk N t (fun l:List α=>[AV.slice .none (l.map E)]) (fun l=>l.length<=N/\∀x∈l,ok x):=by
 intro fuel cs d ps h hb;cases fuel with
 |zero=>simp[DataW.trod]at h
 |succ fuel =>
  rw[DataW.trod_step]at h;unfold DataW.trodStep at h;rw[hu]at h;split at h<;>rename_i hq<;>first | cases hq | skip
  all_goals first | (cases h;done) | skip
  .cases h
   exact⟨[],RG rfl (.snil _ _ _),AE _,fun x hx=>by cases hx⟩
  .rename_i a len cap;simp only at h;split at h
   .rename_i hc;simp only[AS,TB]at h;obtain⟨ri,hel,rest,_,hd⟩:=h;simp only[F4]at hd;obtain⟨hd,_⟩:=hd;obtain⟨hl,Fz⟩:=UL hel;rw[La]at hl;have hbs:=hB.slice (ri.map (·.1)) (rest.map (·.1));rw[hd]at hbs;rw[A8]at hbs;have one:∀i,i<len->∃(x:α) (vs:List Value),w.cells? 0 (a.add (i*P.cellsOf e)) (P.cellsOf e)=some vs/\CO (oc w) w Fw (E x) vs/\ok x:=fun i hi=>by
     obtain⟨y,hy,hf⟩:=Fz i i (by simp[hi]);simp only[TB]at hf;obtain⟨vs,hv,ht⟩:=hf;obtain⟨x,r1,r2⟩:=he fuel vs y.1 y.2 ht (AJ (hbs.2 y.1 (Ag.2 ⟨y,Aw hy,rfl⟩)) hb);exact⟨x,vs,hv,r1,r2⟩
    have build:∀k,k<=len->∃l:List α,l.length=k/\∀(i:Nat) x,l[i]?=some x->∃vs:List Value,w.cells? 0 (a.add (i*P.cellsOf e)) (P.cellsOf e)=some vs/\CO (oc w) w Fw (E x) vs/\ok x:=fun k=>by
     induction k with
     |zero=>exact fun _=>⟨[],rfl,fun i x q=>by simp at q⟩
     |succ k ih =>
      intro hk;obtain⟨l,h1,h2⟩:=ih ch;obtain⟨x,hx⟩:=one k ch;refine⟨l++[x],by simp[h1],fun i y q=>?_⟩
      by_cases hi:i<l.length
      .rw[AY hi]at q;exact h2 i y q
      .rw[AZ ch]at q
       have:i-l.length=0:=by
        cases hz:i-l.length with
        |zero=>rfl
        |succ z=>rw[hz]at q;simp at q
       rw[this]at q;simp only[Be,Bw]at q;subst q
       have:i=k:=by omega
       subst this;exact hx
    obtain⟨l,h1,h2⟩:=build len (Aj _);refine⟨l,RG rfl ?_,by omega,fun x hx=>?_⟩
    .cases CL:len with
     |zero =>
      have:l=[]:=AP ch
      subst this;exact .snil _ _ _
     |succ n =>
      have xJ:a.spot=none:=by
       obtain⟨x,vs,hv,_⟩:=one 0 ch
       have:=(Ww hv).2.1 ch
       simpa[Addr.add]using this
      have ea:a=⟨a.block,a.off,none⟩:=by cases a;simp_all
      rw[<-CL,<-h1,show l.length=(l.map E).length by simp,ea];have cell:∀(i:Nat) (c:List AV) (j:Nat) (av:AV),(l.map E)[i]?=some c->c[j]?=some av->∃v,w.cell? ⟨a.block,a.off+i*(m+1)+j,none⟩=some v/\v.oneCell'=true/\BM (oc w) w Fw av v:=by
       intro i c j av q1 q2;rw[AG,AS]at q1;obtain⟨x,q1,rfl⟩:=q1;obtain⟨vs,hv,hr,_⟩:=h2 i x q1;obtain⟨k1,_,k3⟩:=Ww hv;have hj:j<m+1:=by
        have:=(Au.1 q2).1
        rw[hE]at this;exact this
       obtain⟨v,e1,e2⟩:=k3 j ch;refine⟨v,?_,hr.2.1 v (Aw e1),hr.2.2 j av v q2 e1⟩;rw[<-e2,hm];unfold Addr.add;split
       .rename_i h0;rw[h0];simp
       .rfl
      refine .slice _ _ a.block a.off (m+1) cap (fun i j=>(w.cell? ⟨a.block,a.off+i*(m+1)+j,none⟩).getD undef) (by rw[A8];omega) (fun i c q=>?_) (fun i c j av q1 q2=>?_) (fun i c j av q1 q2=>?_)
      .rw[AG,AS]at q;obtain⟨x,_,rfl⟩:=q;exact hE x
      .obtain⟨v,e1,e2,_⟩:=cell i c j av q1 q2;exact⟨XZ e1,by rw[e1];rfl,by rw[e1];exact e2⟩
      .obtain⟨v,e1,_,e3⟩:=cell i c j av q1 q2;rw[e1];exact e3
    .obtain⟨i,hi⟩:=Ck.1 hx;obtain⟨_,_,_,h⟩:=h2 i x hi;exact h
   .cases h
theorem NF{t e:TypeId}(hu:P.underlying t=some (.slice e)):Lh enc P w bk N t (fun _:Unit=>[AV.junk]) (fun _=>True):=by
 intro fuel cs d ps h _;cases fuel with
 |zero=>simp[DataW.trod]at h
 |succ fuel =>
  rw[DataW.trod_step]at h;unfold DataW.trodStep at h;rw[hu]at h;split at h<;>rename_i hq<;>first | cases hq | skip
  all_goals first | (cases h;done) | skip
  all_goals exact⟨(),RG rfl (.junk _ _),trivial⟩
theorem Lh.to{t:TypeId}{α β:Type}{e:α->List AV}{ok:α->Prop}{e' : β->List AV}{x7 : β->Prop}(h:Lh enc P w bk N t e ok)(f:α->β)(hf:∀x,ok x->e' (f x)=e x/\x7 (f x)):Lh enc P w bk N t e' x7:=by
 intro fuel cs d ps k hb;obtain⟨x,h1,h2⟩:=h fuel cs d ps k hb;obtain⟨e1,e2⟩:=hf x h2;exact⟨f x,by rw[e1];exact h1,e2⟩
def XF(enc:TypeId×Value->H)(P:Program)(w:World)(bk:DataW H->Nat)(N L:Nat)(l:List Field)(o:Nat){α:Type}(e:α->List AV)(ok:α->Prop):Prop :=
 ∀(fuel:Nat) (cs:List Value) (xs:List (DataW H×List MemPlace)),cs.length=L->l.mapM (fun f=>DataW.trod enc P w 0 (fun _=>true) true fuel f.type ((cs.drop f.offset).take (P.cellsOf f.type)))=some xs->(∀x∈xs,bk x.1<=N) ->
  ∃x:α,CO (oc w) w Fw (e x) (cs.drop o)/\ok x
theorem Fk{L:Nat}:XF enc P w bk N L [] L (fun _:Unit=>[]) (fun _=>True):=by
 intro fuel cs xs hl _ _;refine⟨(),?_,trivial⟩;rw[VC ch];exact vd
theorem BH{L o n:Nat}{f:Field}{l:List Field}{α β:Type}{e:α->List AV}{ok:α->Prop}{e' : β->List AV}{x7 : β->Prop}(ho:f.offset=o)(hn:P.cellsOf f.type=n)(h:Lh enc P w bk N f.type e ok)(k:XF enc P w bk N L l (o+n) e' x7) :
  XF enc P w bk N L (f::l) o (fun p:α×β=>e p.1++e' p.2) (fun p=>ok p.1/\x7 p.2):=by
 intro fuel cs xs hl hx hb;rw[Lb]at hx;simp only[Option.bind_eq_bind,TB]at hx;obtain⟨y,hy,ys,hys,ot⟩:=hx;simp only[Option.pure_def,Bw]at ot;subst ot;obtain⟨x,r1,r2⟩:=h fuel _ y.1 y.2 hy (hb y (Ab ..));obtain⟨z,s1,s2⟩:=k fuel cs ys hl hys (fun q hq=>hb q (Ah _ hq));refine⟨(x,z),?_,r2,s2⟩;have e:cs.drop o=(cs.drop o).take n++cs.drop (o+n):=by rw[<-List.drop_drop,Gp]
 rw[e];rw[ho,hn]at r1;exact jD r1 s1
theorem Ei{t:TypeId}{L:Nat}{fs:Array Field}{α:Type}{e:α->List AV}{ok:α->Prop}(hB:XC bk)(hu:P.underlying t=some (.struct fs))(hL:P.cellsOf t=L)(h:XF enc P w bk N L fs.toList 0 e ok):Lh enc P w bk N t e ok:=by
 intro fuel cs d ps k hb;cases fuel with
 |zero=>simp[DataW.trod]at k
 |succ fuel =>
  rw[DataW.trod_step]at k;unfold DataW.trodStep at k;rw[hu]at k
  change (if cs.length=P.cellsOf t then(fs.toList.mapM fun f=>DataW.trod enc P w 0 (fun _=>true) true fuel f.type ((cs.drop f.offset).take (P.cellsOf f.type))).map fun xs=>(DataW.agg (xs.map (·.1)),xs.flatMap (·.2))else none)=some (d,ps)at k
  split at k
  .rename_i hc;simp only[AS,F4]at k;obtain⟨xs,hx,hd,_⟩:=k;have hba:=hB.agg (xs.map (·.1));rw[hd]at hba;obtain⟨x,r1,r2⟩:=h fuel cs xs ch hx (fun y hy=>AJ (hba y.1 (Ag.2 ⟨y,hy,rfl⟩)) hb);exact⟨x,r1,r2⟩
  .cases k
theorem UZ{t:TypeId}{α:Type}{e:α->AV}{ok:α->Prop}(h:Lh enc P w bk N t (fun x=>[e x]) ok){v:Value}{d:DataW H}{p:List MemPlace}(hv:v.oneCell'=true)(k:DataW.Trod enc P w 0 (fun _=>true) true t v d p)(hb:bk d<=N) :
  ∃x,BM (oc w) w Fw (e x) v/\ok x:=by
 obtain⟨fuel,k⟩:=k;have ec:v.cells.toList=[v]:=by cases v<;>first | rfl | cases hv
 rw[ec]at k;obtain⟨x,r1,r2⟩:=h fuel _ d p k hb;exact⟨x,r1.2.2 0 _ _ rfl rfl,r2⟩
end
end Go.Eng
namespace Go.Eng
open Go.Proofs
abbrev dTI:TI := dC
abbrev tF:TI := ⟨.func,1,8,.nilFunc,true⟩
abbrev tI:TI := ⟨.int .i64,1,8,.int .i64 0,true⟩
abbrev tP(n:Nat):TI := ⟨.ptr n,1,8,.pointer none,true⟩
abbrev tS(n:Nat):TI := ⟨.slice n,1,24,.slice none 0 0,true⟩
def mu{α:Type}(d:α):List α -> Nat -> α
 | [],_ => d
 |a::r,n => match n with |0 => a |n + 1 => mu d r n
abbrev tiN:TI := dC
def AcX:List TI := [⟨.other,1,0,(.tuple #[]),true⟩,tF,tI,tI,⟨.bool,1,1,(.bool .false),true⟩,⟨.int .u8,1,1,(.int .u8 0),true⟩,⟨.int .u8,1,1,(.int .u8 0),true⟩,⟨.struct [(2,0),(3,1),(4,2),(6,3)],4,24,(.agg #[.int .i64 0,.int .i64 0,.bool .false,.int .u8 0]),true⟩,⟨.struct [(2,0),(3,1),(4,2),(6,3)],4,24,(.agg #[.int .i64 0,.int .i64 0,.bool .false,.int .u8 0]),true⟩,⟨.string,1,16,(.string ⟨#[]⟩),true⟩,⟨.string,1,16,(.string ⟨#[]⟩),true⟩,⟨.string,1,16,(.string ⟨#[]⟩),true⟩,⟨.int .u64,1,8,(.int .u64 0),true⟩,⟨.struct [(9,0),(12,1)],2,24,(.agg #[.string ⟨#[]⟩,.int .u64 0]),false⟩,⟨.struct [(9,0),(12,1)],2,24,(.agg #[.string ⟨#[]⟩,.int .u64 0]),false⟩,⟨.ptr 451,1,8,(.pointer .none),true⟩]
def AcY:List TI := [⟨.ptr 454,1,8,(.pointer .none),true⟩,⟨.ptr 461,1,8,(.pointer .none),true⟩,⟨.struct [(17,0)],1,8,(.agg #[.pointer .none]),false⟩,⟨.struct [(17,0)],1,8,(.agg #[.pointer .none]),false⟩,⟨.iface,1,16,.nilIface,true⟩,⟨.int .i32,1,4,(.int .i32 0),true⟩,⟨.slice 74,1,24,(.slice .none 0 0),true⟩,tF,tI,⟨.other,1,0,(.tuple #[.int .i64 0,.int .i64 0]),true⟩,tF,tF,tF,tF,⟨.slice 78,1,24,(.slice .none 0 0),true⟩,⟨.slice 182,1,24,(.slice .none 0 0),true⟩]
def AcZ:List TI := [⟨.struct [(30,0),(31,1)],2,48,(.agg #[.slice .none 0 0,.slice .none 0 0]),true⟩,⟨.struct [(30,0),(31,1)],2,48,(.agg #[.slice .none 0 0,.slice .none 0 0]),true⟩,⟨.slice 48,1,24,(.slice .none 0 0),true⟩,⟨.slice 72,1,24,(.slice .none 0 0),true⟩,⟨.struct [(9,0),(35,1)],2,40,(.agg #[.string ⟨#[]⟩,.slice .none 0 0]),true⟩,⟨.struct [(9,0),(35,1)],2,40,(.agg #[.string ⟨#[]⟩,.slice .none 0 0]),true⟩,tF,tF,tF,⟨.other,1,0,(.tuple #[.slice .none 0 0,.int .i64 0]),true⟩,tF,tF,tiN,tiN,⟨.struct [(3,0),(3,1),(3,2)],3,24,(.agg #[.int .i64 0,.int .i64 0,.int .i64 0]),true⟩,tiN]
def Ad0:List TI := [⟨.struct [(9,0),(46,1)],4,40,(.agg #[.string ⟨#[]⟩,.int .i64 0,.int .i64 0,.int .i64 0]),true⟩,tiN,⟨.slice 92,1,24,(.slice .none 0 0),true⟩,⟨.slice 92,1,24,(.slice .none 0 0),true⟩,⟨.slice 9,1,24,(.slice .none 0 0),true⟩,tiN,⟨.struct [(9,0),(9,1),(51,2),(52,3),(9,4)],5,96,(.agg #[.string ⟨#[]⟩,.string ⟨#[]⟩,.slice .none 0 0,.slice .none 0 0,.string ⟨#[]⟩]),true⟩,⟨.slice 60,1,24,(.slice .none 0 0),true⟩,tiN,tiN,⟨.slice 54,1,24,(.slice .none 0 0),true⟩,tiN,⟨.slice 95,1,24,(.slice .none 0 0),true⟩,tF,⟨.slice 68,1,24,(.slice .none 0 0),true⟩,tiN]
def Ad1:List TI := [tF,tF,tiN,tiN,⟨.struct [(3,0),(46,1),(4,4)],5,40,(.agg #[.int .i64 0,.int .i64 0,.int .i64 0,.int .i64 0,.bool .false]),true⟩,tiN,tiN,tiN,⟨.struct [(52,0),(22,1)],2,48,(.agg #[.slice .none 0 0,.slice .none 0 0]),true⟩,tiN,⟨.struct [(3,0),(3,1)],2,16,(.agg #[.int .i64 0,.int .i64 0]),true⟩,tiN,tiN,tiN,⟨.struct [(9,0),(46,1),(60,4),(9,5),(9,6),(9,7),(4,8)],9,120,(.agg #[.string ⟨#[]⟩,.int .i64 0,.int .i64 0,.int .i64 0,.slice .none 0 0,.string ⟨#[]⟩,.string ⟨#[]⟩,.string ⟨#[]⟩,.bool .false]),true⟩,tiN]
def Ad2:List TI := [tiN,tiN,tiN,tF,tiN,tiN,tiN,tiN,tiN,tiN,tiN,tiN,⟨.struct [(3,0),(3,1)],2,16,(.agg #[.int .i64 0,.int .i64 0]),true⟩,tiN,tiN,⟨.struct [(9,0),(51,1)],2,40,(.agg #[.string ⟨#[]⟩,.slice .none 0 0]),true⟩]
def Ad3:List TI := [tiN,tiN,⟨.int .u64,1,8,(.int .u64 0),true⟩,⟨.int .u64,1,8,(.int .u64 0),true⟩,tiN,tiN,⟨.slice 52,1,24,(.slice .none 0 0),true⟩,tiN,tiN,tF,tiN,tiN,tiN,tiN,tiN,tiN]
def Ad4:List TI := [tiN,tiN,tiN,⟨.slice 118,1,24,(.slice .none 0 0),true⟩,tiN,tiN,⟨.struct [(3,0),(78,1)],10,128,(.agg #[.int .i64 0,.string ⟨#[]⟩,.int .i64 0,.int .i64 0,.int .i64 0,.slice .none 0 0,.string ⟨#[]⟩,.string ⟨#[]⟩,.string ⟨#[]⟩,.bool .false]),true⟩,⟨.slice 46,1,24,(.slice .none 0 0),true⟩,tiN,tiN,tiN,tiN,tiN,tiN,tiN,⟨.map 9 78,1,8,(.map .none),true⟩]
def Ad5:List TI := [tiN,tiN,⟨.ptr 136,1,8,(.pointer .none),true⟩,tiN,tiN,tiN,tiN,tiN,⟨.struct [(127,0),(127,1),(34,2),(34,3),(52,4)],5,88,(.agg #[.map .none,.map .none,.slice .none 0 0,.slice .none 0 0,.slice .none 0 0]),true⟩,tF,tiN,⟨.slice 337,1,24,(.slice .none 0 0),true⟩,⟨.slice 285,1,24,(.slice .none 0 0),true⟩,tiN,⟨.struct [(4,0),(34,1),(139,2),(140,3)],4,80,(.agg #[.bool .false,.slice .none 0 0,.slice .none 0 0,.slice .none 0 0]),true⟩,tiN]
def Ad6:List TI := [tiN,tiN,tiN,tF,⟨.map 48 78,1,8,(.map .none),true⟩,⟨.map 9 30,1,8,(.map .none),true⟩,tiN,⟨.struct [(148,0),(149,1)],2,16,(.agg #[.map .none,.map .none]),true⟩,tiN,tiN,tiN,tiN,tF,tiN,⟨.ptr 232,1,8,(.pointer .none),true⟩,tiN]
def yg:List TI := [tiN,tiN,tiN,tiN,⟨.slice 5,1,24,(.slice .none 0 0),true⟩,tiN,tiN,tiN,tiN,tiN,tiN,tiN,tiN,tiN,tiN,tiN]
def yh:List TI := [tiN,⟨.slice 469,1,24,(.slice .none 0 0),true⟩,⟨.slice 471,1,24,(.slice .none 0 0),true⟩,⟨.slice 473,1,24,(.slice .none 0 0),true⟩,⟨.slice 475,1,24,(.slice .none 0 0),true⟩,tiN,⟨.struct [(9,0),(177,1),(178,2),(179,3),(180,4)],5,112,(.agg #[.string ⟨#[]⟩,.slice .none 0 0,.slice .none 0 0,.slice .none 0 0,.slice .none 0 0]),true⟩,tiN,tiN,tF,⟨.ptr 95,1,8,(.pointer .none),true⟩,tiN,tiN,tiN,tiN,tF]
def yi:List TI := [tiN,tiN,tiN,tiN,tiN,tiN,tiN,tiN,tiN,tF,⟨.slice 206,1,24,(.slice .none 0 0),true⟩,tiN,tiN,tiN,⟨.struct [(9,0),(3,1),(3,2)],3,32,(.agg #[.string ⟨#[]⟩,.int .i64 0,.int .i64 0]),true⟩,tiN]
def yj:List TI := [tiN,⟨.map 9 4,1,8,(.map .none),true⟩,tiN,tF,⟨.ptr 223,1,8,(.pointer .none),true⟩,tiN,⟨.other,1,0,(.tuple #[.int .i64 0,.bool .false]),true⟩,tiN,⟨.map 9 220,1,8,(.map .none),true⟩,⟨.map 9 51,1,8,(.map .none),true⟩,⟨.slice 283,1,24,(.slice .none 0 0),true⟩,⟨.map 337 3,1,8,(.map .none),true⟩,⟨.slice 266,1,24,(.slice .none 0 0),true⟩,⟨.slice 140,1,24,(.slice .none 0 0),true⟩,tiN,⟨.struct [(60,0),(216,1),(217,2),(139,3),(218,4),(219,5),(4,6),(220,7),(34,8),(221,9)],10,176,(.agg #[.slice .none 0 0,.map .none,.map .none,.slice .none 0 0,.slice .none 0 0,.map .none,.bool .false,.slice .none 0 0,.slice .none 0 0,.slice .none 0 0]),true⟩]
def ym:List TI := [tiN,tiN,tiN,tiN,tiN,⟨.int .u32,1,4,(.int .u32 0),true⟩,⟨.array 8 229,8,32,(.agg (Array.replicate 8 (.int .u32 0))),true⟩,tiN,⟨.struct [(230,0),(9,8),(98,9)],10,56,(.agg #[.int .u32 0,.int .u32 0,.int .u32 0,.int .u32 0,.int .u32 0,.int .u32 0,.int .u32 0,.int .u32 0,.string ⟨#[]⟩,.int .u64 0]),true⟩,⟨.array 8 5,8,8,(.agg (Array.replicate 8 (.int .u8 0))),true⟩,tiN,tiN,tiN,tiN,tiN,tiN]
def yn:List TI := [tiN,tiN,tiN,tiN,tiN,tiN,tiN,tiN,tiN,tiN,tiN,⟨.array 3 3,3,24,(.agg #[.int .i64 0,.int .i64 0,.int .i64 0]),true⟩,tiN,tiN,tiN,tiN]
def yo:List TI := [⟨.other,1,0,(.tuple #[.slice .none 0 0,.int .i64 0]),true⟩,tiN,tiN,⟨.map 9 3,1,8,(.map .none),true⟩,tiN,tiN,tiN,tiN,tiN,tiN,⟨.struct [(3,0),(78,1)],10,128,(.agg #[.int .i64 0,.string ⟨#[]⟩,.int .i64 0,.int .i64 0,.int .i64 0,.slice .none 0 0,.string ⟨#[]⟩,.string ⟨#[]⟩,.string ⟨#[]⟩,.bool .false]),true⟩,tiN,⟨.slice 274,1,24,(.slice .none 0 0),true⟩,tiN,tiN,⟨.slice 3,1,24,(.slice .none 0 0),true⟩]
def yq:List TI := [tiN,tiN,⟨.struct [(95,0),(9,2),(3,3),(3,4)],5,72,(.agg #[.string ⟨#[]⟩,.slice .none 0 0,.string ⟨#[]⟩,.int .i64 0,.int .i64 0]),true⟩,tF,tiN,tiN,tiN,tiN,tiN,tiN,⟨.slice 343,1,24,(.slice .none 0 0),true⟩,⟨.slice 343,1,24,(.slice .none 0 0),true⟩,tiN,⟨.struct [(9,0),(3,1),(3,2)],3,32,(.agg #[.string ⟨#[]⟩,.int .i64 0,.int .i64 0]),true⟩,tiN,tiN]
def yr:List TI := [tiN,tiN,tiN,tiN,⟨.array 64 229,64,256,(.agg (Array.replicate 64 (.int .u32 0))),true⟩,tiN,tiN,⟨.other,1,0,(.tuple #[.int .u64 0,.int .u64 0]),true⟩,tiN,⟨.ptr 299,1,8,(.pointer .none),true⟩,tiN,⟨.struct [(297,0),(164,1)],2,32,(.agg #[.pointer .none,.slice .none 0 0]),true⟩,tiN,tiN,⟨.iface,1,16,.nilIface,false⟩,⟨.other,1,0,(.tuple #[.int .i64 0,.nilIface]),true⟩]
def yt:List TI := [tiN,tiN,tiN,tiN,⟨.array 24 5,24,24,(.agg (Array.replicate 24 (.int .u8 0))),true⟩,tiN,tiN,⟨.other,1,0,(.tuple #[.slice .none 0 0,.string ⟨#[]⟩]),true⟩,tiN,tiN,tiN,tI,⟨.other,1,0,(.tuple #[.int .i64 0,.int .i64 0]),true⟩,tiN,tiN,tiN]
def yu:List TI := [tiN,tiN,tiN,tiN,tF,tiN,tiN,tiN,tiN,tiN,tiN,tiN,tiN,tF,tiN,tiN]
def yv:List TI := [tiN,⟨.struct [(3,0),(9,1),(3,2),(3,3),(3,4),(3,5)],6,56,(.agg #[.int .i64 0,.string ⟨#[]⟩,.int .i64 0,.int .i64 0,.int .i64 0,.int .i64 0]),true⟩,tiN,tiN,tiN,tiN,tiN,⟨.struct [(9,0),(4,1),(51,2)],3,48,(.agg #[.string ⟨#[]⟩,.bool .false,.slice .none 0 0]),true⟩,tF,tiN,tiN,tiN,⟨.ptr 5,1,8,(.pointer .none),true⟩,⟨.other,1,0,(.tuple #[.int .u32 0,.int .u32 0]),true⟩,tiN,⟨.other,1,0,(.tuple #[.int .u64 0,.int .u64 0]),true⟩]
def yw:List TI := [tiN,tiN,tiN,⟨.array 20 98,20,160,(.agg (Array.replicate 20 (.int .u64 0))),true⟩,⟨.array 65 5,65,65,(.agg ((List.replicate 32 (.int .u8 0)).append (List.replicate 33 (.int .u8 0))).toArray),true⟩,⟨.int .u64,1,8,(.int .u64 0),true⟩,tiN,tiN,tiN,⟨.ptr 3,1,8,(.pointer .none),true⟩,tiN,tiN,tiN,tiN,tF,tiN]
def yx:List TI := [tiN,tiN,⟨.other,1,0,(.tuple #[.string ⟨#[]⟩,.bool .false]),true⟩,tiN,tiN,tiN,tiN,tiN,tiN,tF,tiN,tiN,tiN,tiN,tiN,tiN]
def yy:List TI := [tiN,tF,⟨.other,1,8,(.pointer .none),true⟩,tiN,tiN,⟨.ptr 357,1,8,(.pointer .none),true⟩,⟨.other,1,0,(.tuple #[.int .i64 0,.int .i64 0]),true⟩,tiN,tiN,tiN,tiN,tiN,tiN,tiN,tiN,tiN]
def yz:List TI := [tiN,tiN,tiN,tiN,tiN,tiN,tiN,tiN,tiN,⟨.map 9 343,1,8,(.map .none),true⟩,tiN,tiN,tF,tiN,⟨.array 32 5,32,32,(.agg (Array.replicate 32 (.int .u8 0))),true⟩,⟨.array 64 5,64,64,(.agg (Array.replicate 64 (.int .u8 0))),true⟩]
def yA:List TI := [tiN,tiN,tiN,tiN,⟨.slice 51,1,24,(.slice .none 0 0),true⟩,⟨.map 3 3,1,8,(.map .none),true⟩,tiN,tiN,tiN,⟨.other,1,0,(.tuple #[.int .i32 0,.int .i64 0]),true⟩,tiN,tiN,tiN,tiN,tiN,tiN]
def yB:List TI := [tiN,tiN,tiN,tiN,tiN,tiN,tiN,tiN,tiN,tiN,⟨.array 256 5,256,256,(.agg (((List.replicate 64 (.int .u8 0)).append (List.replicate 64 (.int .u8 0))).append ((List.replicate 64 (.int .u8 0)).append (List.replicate 64 (.int .u8 0)))).toArray),true⟩,tiN,⟨.struct [(5,0),(5,1)],2,2,(.agg #[.int .u8 0,.int .u8 0]),true⟩,⟨.array 16 444,32,32,(.agg (Array.replicate 32 (.int .u8 0))),true⟩,tiN,tiN]
def yC:List TI := [tiN,tiN,tiN,⟨.struct [(17,0),(17,1),(17,2),(9,3)],4,40,(.agg #[.pointer .none,.pointer .none,.pointer .none,.string ⟨#[]⟩]),false⟩,tiN,tiN,⟨.other,0,0,(.agg #[]),false⟩,⟨.int .u8,1,1,(.int .u8 0),true⟩,⟨.int .u8,1,1,(.int .u8 0),true⟩,tF,⟨.int .i32,1,4,(.int .i32 0),true⟩,⟨.int .i32,1,4,(.int .i32 0),true⟩,tiN,⟨.struct [(12,0),(12,1),(229,2),(455,3),(5,4),(5,5),(456,6),(457,7),(348,8),(458,9),(459,10)],11,48,(.agg #[.int .u64 0,.int .u64 0,.int .u32 0,.int .u8 0,.int .u8 0,.int .u8 0,.int .u8 0,.nilFunc,.pointer .none,.int .i32 0,.int .i32 0]),false⟩,tiN,⟨.slice 477,1,24,(.slice .none 0 0),true⟩]
def yD:List TI := [⟨.slice 467,1,24,(.slice .none 0 0),true⟩,⟨.slice 479,1,24,(.slice .none 0 0),true⟩,tiN,⟨.struct [(3,0),(9,1),(9,2),(464,3),(465,4)],5,88,(.agg #[.int .i64 0,.string ⟨#[]⟩,.string ⟨#[]⟩,.slice .none 0 0,.slice .none 0 0]),true⟩,tiN,⟨.struct [(9,0),(463,1),(467,2),(467,7)],12,216,(.agg #[.string ⟨#[]⟩,.slice .none 0 0,.int .i64 0,.string ⟨#[]⟩,.string ⟨#[]⟩,.slice .none 0 0,.slice .none 0 0,.int .i64 0,.string ⟨#[]⟩,.string ⟨#[]⟩,.slice .none 0 0,.slice .none 0 0]),true⟩,tiN,⟨.struct [(9,0),(463,1),(467,2)],7,128,(.agg #[.string ⟨#[]⟩,.slice .none 0 0,.int .i64 0,.string ⟨#[]⟩,.string ⟨#[]⟩,.slice .none 0 0,.slice .none 0 0]),true⟩,tiN,⟨.struct [(9,0),(9,1),(9,2)],3,48,(.agg #[.string ⟨#[]⟩,.string ⟨#[]⟩,.string ⟨#[]⟩]),true⟩,tiN,⟨.struct [(9,0),(9,1)],2,32,(.agg #[.string ⟨#[]⟩,.string ⟨#[]⟩]),true⟩,tiN,⟨.struct [(9,0),(3,1),(467,2)],7,112,(.agg #[.string ⟨#[]⟩,.int .i64 0,.int .i64 0,.string ⟨#[]⟩,.string ⟨#[]⟩,.slice .none 0 0,.slice .none 0 0]),true⟩,tiN,⟨.struct [(9,0),(467,1),(4,6)],7,112,(.agg #[.string ⟨#[]⟩,.int .i64 0,.string ⟨#[]⟩,.string ⟨#[]⟩,.slice .none 0 0,.slice .none 0 0,.bool .false]),true⟩]
def tbl:List (List TI) := [AcX,AcY,AcZ,Ad0,Ad1,Ad2,Ad3,Ad4,Ad5,Ad6,yg,yh,yi,yj,ym,yn,yo,yq,yr,yt,yu,yv,yw,yx,yy,yz,yA,yB,yC,yD]
def qJ:GU := fun t => mu dTI (mu [] tbl (t / 16)) (t % 16)
def usedT:List Nat := [0,1,2,3,4,5,6,7,8,9,10,11,12,13,14,15,16,17,18,19,20,21,22,23,24,25,26,27,28,29,30,31,32,33,34,35,36,37,38,39,40,41,42,43,46,48,50,51,52,54,55,58,60,61,62,64,65,68,72,74,78,83,92,95,98,99,102,105,115,118,119,127,130,136,137,139,140,142,147,148,149,151,156,158,164,177,178,179,180,182,185,186,191,201,202,206,209,211,212,214,216,217,218,219,220,221,223,229,230,232,233,251,256,259,266,268,271,274,275,282,283,285,292,295,297,299,302,303,308,311,315,316,324,333,337,343,344,348,349,351,355,356,357,361,366,370,377,385,386,389,390,409,412,414,415,420,421,425,442,444,445,451,454,455,456,457,458,459,461,463,464,465,467,469,471,473,475,477,479]
def restT:List Nat := (List.range 480).filter fun t => !usedT.contains t
theorem nv:usedT.map qJ = usedT.map (jz Tryz.prog) := by kernel_rfl
theorem tab_rest:restT.map qJ = restT.map fun _ => dTI := by kernel_rfl
theorem fp{α:Type}(d:α):∀(l:List α) (n:Nat),l.length <= n -> mu d l n = d
 | [],_,_ => rfl
 |_::_,0,h => by simp at h
 |_::r,n + 1,h => fp d r n (by simpa using h)
theorem CQ:CF Tryz.prog qJ := by
 intro t
 by_cases h:t<480
 .by_cases u:t∈usedT
  .exact .inr (List.map_inj_left.1 nv t u)
  .exact .inl (List.map_inj_left.1 tab_rest t (Bv.2 ⟨Gi.2 h,by simpa using u⟩))
 .have h1:mu ([]:List TI) tbl (t / 16) = [] := fp _ _ _ (by show 30 <= t / 16;omega)
  have h2:qJ t = dTI := by unfold qJ;rw[h1];rfl
  exact .inl h2
end Go.Eng
