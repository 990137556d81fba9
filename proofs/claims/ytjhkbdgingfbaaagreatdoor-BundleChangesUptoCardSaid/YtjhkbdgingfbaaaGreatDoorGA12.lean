/- Lemmas 12. -/
import Derived.Test.YtjhkbdgingfbaaaGreatDoorGA11
import Derived.Deep.LoopGhost
import Derived.ReadAgain
import Derived.RowKit
import Derived.Test.YtjhkbdgingfbaaaGreatDoorProg
namespace Go.Eng
variable {h:Nat->HO}{fn:Func}{c:Code}{U:Nat->Prop}{K:AV->Prop}{av:AV}{cs:List AV}{i:Nat}{w:World}{x:Value}{f:Nat}{g:Gh}(cx:Cx)(σ:Ren)
theorem D0{r:Nat}(e:Pg h r=true):AD h r:=by
 unfold Pg at e;unfold AD;split at e
 .cases e
 .rename_i hh;exact hh
theorem Bo.ids0(r:Bo g w U av x)(e:ids0 h av=true):Bo g w (AD h) av x:=by
 cases r with
 |v=>exact .v _ _
 |junk=>exact .junk _ _
 |snil=>exact .snil _ _ _
 |slice _ es b off sz cap val hc hl Cm Dd=>exact .slice _ es b off sz cap val hc hl Cm Dd
 |tok _ r sz es x hs hl hu ht hn hx=>exact .tok _ r sz es x ((Bo.slice_none hs).up _) hl (D0 e) ht hn hx
 |ver _ r sz v es x hs hl hu ht hn hx=>exact .ver _ r sz v es x ((Bo.slice_none hs).up _) hl (D0 e) ht hn hx
 |full _ sz es x hs hl hx=>exact .full _ sz es x ((Bo.slice_none hs).up _) hl hx
 |msl _ r n a cap hu ht hn ha hx=>exact .msl _ r n a cap (D0 e) ht hn ha hx
 |agg=>cases e
 |tup=>cases e
 |cptr _ cs b off val Cm Dd=>exact .cptr _ cs b off val Cm Dd
 |ref _ r off b hu ht hx=>exact .ref _ r off b (D0 e) ht hx
 |eref _ r n sz i off b cap hu ht hn hx=>exact .eref _ r n sz i off b cap (D0 e) ht hn hx
 |mref _ r b hu ht hx=>exact .mref _ r b (D0 e) ht hx
 |cmap _ sh BK b es ck hS hb hm hv=>exact .cmap _ sh BK b es ck hS hb hm hv
 |clo=>cases e
theorem N6(e:SI h cs=true)(hi:cs[i]?=some av):ids0 h av=true:=by
 induction cs generalizing i with
 |nil=>simp at hi
 |cons c cs ih=>
  unfold SI at e;split at e
  .rename_i hc;cases i with
   |zero=>simp only[AX,Ba]at hi;exact hi▸hc
   |succ i=>exact ih e (by simpa using hi)
  .cases e
theorem Zk(e:Re h cs=true)(hi:cs[i]?=some av):Pj h av=true:=by
 induction cs generalizing i with
 |nil=>simp at hi
 |cons c cs ih=>
  unfold Re at e;split at e
  .rename_i hc;cases i with
   |zero=>simp only[AX,Ba]at hi;exact hi▸hc
   |succ i=>exact ih e (by simpa using hi)
  .cases e
theorem WE{BK:List (Value×AV)}(e:N5 h BK=true){kv:Value×AV}(hi:BK[i]?=some kv):Pj h kv.2=true:=by
 induction BK generalizing i with
 |nil=>simp at hi
 |cons c cs ih=>
  unfold N5 at e;split at e
  .rename_i hc;cases i with
   |zero=>simp only[AX,Ba]at hi;exact hi▸hc
   |succ i=>exact ih e (by simpa using hi)
  .cases e
theorem Bo.ids(r:Bo g w U av x)(e:Pj h av=true):Bo g w (AD h) av x:=by
 cases r with
 |agg _ cs vs hs h1 hr=>exact .agg _ cs vs hs h1 fun i av x q1 q2=>(hr i av x q1 q2).ids0 (N6 e q1)
 |tup _ cs vs hs hr=>exact .tup _ cs vs hs fun i av x q1 q2=>(hr i av x q1 q2).ids0 (N6 e q1)
 |clo _ f cs vs hs hr=>exact .clo _ f cs vs hs fun i av x q1 q2=>(hr i av x q1 q2).ids0 (N6 e q1)
 |v=>exact .v _ _
 |junk=>exact .junk _ _
 |snil=>exact .snil _ _ _
 |slice _ es b off sz cap val hc hl Cm Dd=>exact .slice _ es b off sz cap val hc hl Cm Dd
 |tok _ r sz es x hs hl hu ht hn hx=>exact .tok _ r sz es x ((Bo.slice_none hs).up _) hl (D0 e) ht hn hx
 |ver _ r sz v es x hs hl hu ht hn hx=>exact .ver _ r sz v es x ((Bo.slice_none hs).up _) hl (D0 e) ht hn hx
 |full _ sz es x hs hl hx=>exact .full _ sz es x ((Bo.slice_none hs).up _) hl hx
 |msl _ r n a cap hu ht hn ha hx=>exact .msl _ r n a cap (D0 e) ht hn ha hx
 |cptr _ cs b off val Cm Dd=>exact .cptr _ cs b off val Cm Dd
 |ref _ r off b hu ht hx=>exact .ref _ r off b (D0 e) ht hx
 |eref _ r n sz i off b cap hu ht hn hx=>exact .eref _ r n sz i off b cap (D0 e) ht hn hx
 |mref _ r b hu ht hx=>exact .mref _ r b (D0 e) ht hx
 |cmap _ sh BK b es ck hS hb hm hv=>exact .cmap _ sh BK b es ck hS hb hm hv
theorem SX{st:St}{h:Nat->HO}:∀{l:List (Nat×AV)},mg st h l->∀i,NJ l i=.junk\/(st.t i=NJ l i/\Pj h (NJ l i)=true)
 | [],_,i=>.inl rfl
 |(j,a)::l,⟨h1,h2⟩,i=>by
  unfold NJ
  by_cases e:i=j
  .subst e;simp only[CK,IJ];exact .inr h1
  .simp only[B4 e,DU];exact SX h2 i
theorem SV{st:St}{h hb:Nat->HO}(pZ:∀j,hb j=.free\/(st.h j=hb j/\N4 h (hb j)=true)):∀{l:List (Nat×HO)},mf st h l->∀i,AC l hb i=.free\/(st.h i=AC l hb i/\N4 h (AC l hb i)=true)
 | [],_,i=>pZ i
 |(j,a)::l,⟨h1,h2⟩,i=>by
  unfold AC
  by_cases e:i=j
  .subst e;simp only[CK,IJ];exact .inr h1
  .simp only[B4 e,DU];exact SV pZ h2 i
def RO(h0:Nat->HO):Prop:=match cx.ext with | false=>∀i,h0 i=.free | true=>∀i,h0 i≠.free->1000<=i/\i<2000
section
variable {P:Program}{N:Nat}{ds:List Deferred}{w0:World}{g0:Gh}{h0:Nat->HO}{st:St}{g:Gh}{a:Act}{w:World}{cx:Cx}
theorem SR.weaken(hE:RO cx h0)(hS:SR N ds w0 g0 h0 st g a w){s:LS}(Fc:St.le cx st s):SR N ds w0 g0 h0 s.st g a w:=by
 obtain⟨h1,h2,h3,h4⟩:=Fc;have hT:=SX h1;have hH:∀i,s.st.h i=.free\/(st.h i=s.st.h i/\N4 s.st.h (s.st.h i)=true):=SV h3 h2;have I7:∀r,(s.st.h r).live->(st.h r).live:=fun r hl=>by
  rcases hH r with e | ⟨e,_⟩
  .rw[e]at hl;exact hl.elim
  .rw[e];exact hl
 have hI:=hS.inv;refine⟨⟨hI.os,hI.tape,hI.output,hI.size,hI.frame,hI.slt,fun r=>?_,fun r r' b l l'=>hI.inj r r' b (I7 r l) (I7 r' l'),fun r b l=>hI.loc r b (I7 r l),hI.sg,hI.glob⟩,⟨hS.le.gh,fun i hi=>?_,hS.le.keeps⟩,hS.dfs,hS.size,fun i=>?_⟩
 .rcases hH r with e | ⟨e,e2⟩
  .rw[e];trivial
  .have ho:=hI.objs r;rw[e]at ho;generalize s.st.h r=o at ho e2;cases o with
   |cells cs=>
    obtain⟨t,b,E,vs,a1,a2,a3,a4,a5⟩:=ho;exact⟨t,b,E,vs,a1,a2,a3,⟨a4.1,a4.2.1,fun i av x q1 q2=>(a4.2.2 i av x q1 q2).ids (Zk e2 q1)⟩,a5⟩
   |hol sz es i c av=>
    obtain⟨t,l,al,b,cap,E,vs,b1,b2,b3,b4,b5,b6,b7,b8,x,b9,IH⟩:=ho;exact⟨t,l,al,b,cap,E,vs,b1,b2,b3,b4,b5,b6,b7,b8,x,b9,IH.ids e2⟩
   |bld x=>
    obtain⟨t,b,p,v,a1,a2,a3,a4,a5,a6⟩:=ho;exact⟨t,b,p,v,a1,a2,a3,a4,a5.ids e2,a6⟩
   |mapU sh BK=>
    obtain⟨t,b,es,ck,a1,a2,a3,a4,a5,a6⟩:=ho;exact⟨t,b,es,ck,a1,a2,a3,a4,fun i kv e q1 q2=>(a5 i kv e q1 q2).ids (WE e2 q1),a6⟩
   |_=>exact ho
 .have hu:=hS.le.us i hi;unfold RO at hE;split at hE
  .exact absurd (hE i) hi
  .rename_i hx;rw[hx]at h4;exact h4 i (hE i hi).1 (hE i hi).2 hu
 .show Bo g w (AD s.st.h) (NJ s.t i) _;rcases hT i with e | ⟨e,e2⟩
  .rw[e];exact .junk _ _
  .rw[<-e]at e2⊢;exact(hS.slots i).ids e2
def Ex.real:Ex->Exit
 |.normal=>.normal
 |.exit id=>.exit id
 |.ret=>.ret
def jG(N:Nat)(o:Oper):Bool:=match o.dst with | some d=>Nat.blt d N | none=>true
def Ff(N:Nat):Code->Bool
 |.region _ ops _=>ops.toList.all (jG N)
 |.seq a b=>Ff N a&&Ff N b
 |.cond _ a b=>Ff N a&&Ff N b
 |.block _ c=>Ff N c
 |.loop c=>Ff N c
 |_=>true
theorem XW(hP:cx.P=P)(hT:B7 P cx.T)(hm:P.follows .mixedOrders=true)(hE:RO cx h0)(hY:∀l σ h g w,DI σ=true->Do w0 g0 h0 h g w->Le h0 g0 w0 h g w->cx.yp l σ (CP σ g) w)(ro:Option Nat):∀(c:Code),Ff N c=true->∀{Qa:Ex->St->Prop} {Q:Exit->Act->World->Prop},
  (∀e st g a w,Qa e st->SR N ds w0 g0 h0 st g a w->Q e.real a w)->∀{st:St} {g:Gh} {a:Act} {w:World},SR N ds w0 g0 h0 st g a w->RH cx c Qa st->c.wpIn (J0 ro) 0 P Q a w:=by
 intro c
 induction c with
 |skip=>intro _ Qa Q hQ st g a w hS hk;exact wpIn_skip (hQ .normal _ _ _ _ hk hS)
 |label l=>intro _ Qa Q hQ st g a w hS hk;exact wpIn_label (hQ .normal _ _ _ _ hk hS)
 |exit id=>intro _ Qa Q hQ st g a w hS hk;exact wpIn_exit (hQ (.exit id) _ _ _ _ hk hS)
 |ret=>intro _ Qa Q hQ st g a w hS hk;exact wpIn_ret (hQ .ret _ _ _ _ hk hS)
 |region id ops dr=>
  intro hc Qa Q hQ st g a w hS hk;have hd:∀o∈ops.toList,∀i,o.dst=some i->i<N:=fun o ho i hi=>by
   have:=(AJ.1 hc) o ho
   simpa[jG,hi]using this
  have go:∀(st:St) (g:Gh) (hS:SR N ds w0 g0 h0 st g a w) (iz : Cx),iz.P=P->B7 P iz.T->iz.yp=cx.yp->Jn iz ops dr st (Qa .normal)->(Code.region id ops dr).wpIn (J0 ro) 0 P Q a w:=by
   intro st g hS iz hP hT hy hk;have hY:∀l σ h g w,DI σ=true->Do w0 g0 h0 h g w->Le h0 g0 w0 h g w->iz.yp l σ (CP σ g) w:=by rw[hy];exact hY
   unfold Jn at hk;split at hk
   .exact wpIn_region_list (QM hP hT hY (fun Eb g' a' w' q1 q2=>hQ .normal _ _ _ _ q1 q2) ops.toList hd hS hk)
   .obtain⟨_,FT,hk⟩:=VQ hk;obtain⟨i1,i2⟩:=hS.inv.heapEq (w':={ w with drawn:=w.drawn+1 }) ⟨rfl,rfl,rfl⟩ rfl;have LN : SR N ds w0 g0 h0 st g a { w with drawn:=w.drawn+1 }:=⟨i1,hS.le.trans i2,hS.dfs,hS.size,fun i=>(hS.slots i).le i2⟩;exact wpIn_region_any hm (QI hP hT hY (fun Eb g' a' w' q1 q2=>hQ .normal _ _ _ _ q1 q2) (fun j o ho=>hd o (by simpa using DN ho)) _ _ LN hk)
  have jP:∀(st:St) (g:Gh) (hS:SR N ds w0 g0 h0 st g a w),(match cx.pl.dyn with | []=>Jn cx ops dr st (Qa .normal) | _=>∃n,Jn { cx with nid:=n } ops dr st (Qa .normal))->(Code.region id ops dr).wpIn (J0 ro) 0 P Q a w:=by
   intro st g hS hk;split at hk
   .exact go st g hS cx hP hT rfl hk
   .obtain⟨n,hk⟩:=hk;exact go st g hS { cx with nid:=n } hP hT rfl hk
  unfold RH jE at hk;split at hk
  .split at hk
   .split at hk
    .split at hk
     .obtain⟨h',g',LN,s,h1,h2⟩:=dk hS hk;exact jP s.st _ (LN.weaken hE h1) h2
     .obtain⟨h',g',LN,s,h1,h2⟩:=eP hS hk;exact jP s.st _ (LN.weaken hE h1) h2
    .obtain⟨Eb,g',LN,s,h1,h2⟩:=eS hS hk;exact jP s.st _ (LN.weaken hE h1) h2
   .obtain⟨h',g',LN,s,h1,h2⟩:=eV hS hk;exact jP s.st _ (LN.weaken hE h1) h2
  .exact jP st _ hS hk
 |seq x y ihx ihy=>
  intro hc Qa Q hQ st g a w hS hk;simp only[Ff,Ak]at hc;refine wpIn_seq (ihx hc.1 (Qa:=fun e Eb=>match e with | .normal=>RH cx y Qa Eb | e=>Qa e Eb) (fun e st g a w q hS=>?_) hS hk);cases e with
  |normal=>exact ihy hc.2 hQ hS q
  |exit id=>exact hQ (.exit id) _ _ _ _ q hS
  |ret=>exact hQ .ret _ _ _ _ q hS
 |cond c x y ihx ihy=>
  intro hc Qa Q hQ st g a w hS hk;simp only[Ff,Ak]at hc;have hr:=hS.eval c;unfold RH at hk;generalize hx:ev st.t c=v at hk hr;split at hk
  .exact wpIn_cond_true hr.v_eq (ihx hc.1 hQ hS hk)
  .exact wpIn_cond_false hr.v_eq (ihy hc.2 hQ hS hk)
  .exact hk.elim
 |block id c ih=>
  intro hc Qa Q hQ st g a w hS hk;refine wpIn_block (ih hc (Qa:=fun e Eb=>match e with | .exit j=>(bif Nat.beq j id then Qa .normal Eb else Qa (.exit j) Eb) | e=>Qa e Eb) (fun e st g a w q hS=>?_) hS hk);cases e with
  |normal=>exact hQ .normal _ _ _ _ q hS
  |ret=>exact hQ .ret _ _ _ _ q hS
  |exit j=>
   show(if j=id then Q .normal a w else Q (.exit j) a w);dsimp only at q
   by_cases e:j=id
   .rw[Av e];rw[e,CK,IJ]at q;exact hQ .normal _ _ _ _ q hS
   .rw[Aj e];rw[B4 e,DU]at q;exact hQ (.exit j) _ _ _ _ q hS
 |loop c ih=>
  intro hc Qa Q hQ st g a w hS hk;obtain⟨α,I,μ,⟨x,hx⟩,jV⟩:=hk;refine wpIn_loop_ghost (fun n a w=>∃x g,μ x=n/\SR N ds w0 g0 h0 (I x).st g a w) (μ x) ⟨x,g,rfl,hS.weaken hE hx⟩ ?_
  rintro n a w ⟨x,g,rfl,hS⟩
  refine ih hc (Qa:=fun e Eb=>match e with | .normal=>∃y,μ y<μ x/\St.le cx Eb (I y) | e=>Qa e Eb) (fun e st g a w q hS=>?_) hS (jV x);cases e with
  |normal=>
   obtain⟨y,q1,q2⟩:=q;exact⟨μ y,q1,y,g,rfl,hS.weaken hE q2⟩
  |exit id=>exact hQ (.exit id) _ _ _ _ q hS
  |ret=>exact hQ .ret _ _ _ _ q hS
 |_=>intro _ Qa Q hQ st g a w hS hk;exact hk.elim
end
section
variable {P:Program}{N:Nat}{ds:List Deferred}{w0:World}{g0:Gh}{h0:Nat->HO}{st:St}{g:Gh}{a:Act}{w:World}
theorem S0{T:EU}(hT:B7 P T){h:Nat->HO}(ho:∀r,C3 g w (AD h) r (h r)){t:Nat}{p:AV}{vp:Value}(hp:Bo g w (AD h) p vp)(hk:F4 T h t p K) :
  ∃ad,(asAddr vp).run P w=.ok ad w/\Bk P h g w (loadVar t ad) K:=by
 obtain⟨x,av,h1,h2,h3⟩:=PY ho hT hp hk;have fin:∀b off,vp=.pointer (some ⟨b,off,none⟩)->∃ad,(asAddr vp).run P w=.ok ad w/\Bk P h g w (loadVar t ad) K:=by
  rintro b off rfl
  refine⟨⟨b,off,none⟩,by simp[asAddr],x,av,?_,h2,h3⟩;simpa[Instr.loadAt,Instr.sureAddr]using h1
 unfold F4 at hk;split at hk
 .cases hp;exact fin _ _ rfl
 .cases hp;exact fin _ _ rfl
 .cases hp;exact fin _ _ rfl
 .exact hk.elim
def UI(tmps:Array Value):ResultVar->Sem Value
 |.tmp t=>pure (tmps.getD t undef)
 |.cell ad t=>do loadVar t (<-asAddr (tmps.getD ad undef))
theorem OD(fn:Func)(tmps:Array Value):results fn tmps=(do
 let vs <-fn.results.mapM (UI tmps)
 pure (if h:vs.size=1 then vs[0]else .tuple vs)):=rfl
theorem Rw{cx:Cx}(hT:B7 P cx.T)(hS:SR N ds w0 g0 h0 st g a w):∀(rs:List ResultVar) {K:List AV->Prop},cT cx.T st rs K ->
  ∃l vs,K l/\(rs.mapM (UI a.tmps)).run P w=.ok vs w/\vs.length=l.length/\vs.length=rs.length /\
   ∀(i:Nat) (av:AV) (x:Value),l[i]?=some av->vs[i]?=some x->Bo g w D2 av x
 | [],K,hk=>⟨[],[],hk,by simp,rfl,rfl,fun i av x h=>by simp at h⟩
 |.tmp t::r,K,hk=>by
  obtain⟨l,vs,h1,h2,h3,h4,h5⟩:=Rw hT hS r hk;refine⟨_,a.tmps.getD t undef::vs,h1,?_,by simp[h3],by simp[h4],fun i av x q1 q2=>?_⟩
  .rw[HF];simp only[UI,Sem.run_bind,Sem.run_pure,Result.andThen_ok,h2]
  .cases i with
   |zero=>
    simp only[AX,Ba]at q1 q2;subst q1;subst q2;exact Bo.str hS.inv.objs (hS.slots t)
   |succ i=>exact h5 i av x (by simpa using q1) (by simpa using q2)
 |.cell ad t::r,K,hk=>by
  obtain⟨addr,e1,x0,qz,e2,hk',e4⟩:=S0 hT hS.inv.objs (hS.slots ad) hk;obtain⟨l,vs,h1,h2,h3,h4,h5⟩:=Rw hT hS r hk';refine⟨_,x0::vs,h1,?_,by simp[h3],by simp[h4],fun i av x q1 q2=>?_⟩
  .rw[HF];simp only[UI,Sem.run_bind,Sem.run_pure,Result.andThen_ok,h2,e1,e2]
  .cases i with
   |zero=>
    simp only[AX,Ba]at q1 q2;subst q1;subst q2;exact Bo.str hS.inv.objs e4
   |succ i=>exact h5 i av x (by simpa using q1) (by simpa using q2)
theorem cS{cx:Cx}(hT:B7 P cx.T)(hS:SR N ds w0 g0 h0 st g a w)(hk:cR cx st fn.results.toList K) :
  ∃g' r v h',K r/\(results fn a.tmps).run P w=.ok v w/\Do w0 g0 h0 h' g' w/\Le h0 g0 w0 h' g' w/\Bo g' w D2 r v:=by
 obtain⟨g',i1,i2⟩:=M4 cx.pl.fin hS.inv;have LN : SR N ds w0 g0 h0 ⟨st.t,MN st.h cx.pl.fin⟩ g' a w:=⟨i1,hS.le.trans i2,hS.dfs,hS.size,fun i=>(hS.slots i).le i2⟩;obtain⟨l,vs,h1,h2,h3,h4,h5⟩:=Rw hT LN _ hk;have Ce:(results fn a.tmps).run P w=.ok (if h:vs.toArray.size=1 then vs.toArray[0]else .tuple vs.toArray) w:=by
  rw[OD,show fn.results=fn.results.toList.toArray by simp,List.mapM_toArray];simp only[Sem.run_bind,Sem.run_map,h2,Result.andThen_ok,Sem.run_pure]
 refine⟨g',?_⟩
 match l,vs,h1,h3,h5,Ce with
 | [v],[x],h1,h3,h5,Ce=>exact⟨v,x,_,h1,by simpa using Ce,i1,LN.le,h5 0 v x rfl rfl⟩
 | [],vs,h1,h3,h5,Ce=>
  have:vs=[]:=AF h3
  subst this;exact⟨.tup [],.tuple #[],_,h1,by simpa using Ce,i1,LN.le,.tup _ _ _ rfl fun i av x q=>by simp at q⟩
 |v::v' :: l,vs,h1,h3,h5,Ce=>
  refine⟨.tup (v::v' :: l),.tuple vs.toArray,_,h1,?_,i1,LN.le,.tup _ _ _ (by simpa using h3) fun i av x q1 q2=>h5 i av x q1 (by simpa using q2)⟩;rw[Ce]
  have:vs.toArray.size≠1:=by simp[h3]
  simp only[this,dif_neg,not_false_eq_true]
theorem Do.toFree(hI:Do w0 g0 Ao st.h g w):Do w0 g0 Ao Ao g w:=
 ⟨hI.os,hI.tape,hI.output,hI.size,hI.frame,hI.slt,fun _=>trivial,fun _ _ _ h=>h.elim,fun _ _ h=>h.elim,hI.sg,hI.glob⟩
theorem NI{U:Nat->Prop}{n:Nat}:∀{args:List AV} {vals:List Value},vals.length=args.length->(∀(i:Nat) (av:AV) (x:Value),args[i]?=some av->vals[i]?=some x->Bo g w U av x) ->
  ∀i,Bo g w U (NH args i) ((vals++List.replicate n undef).getD i undef)
 | [],[],_,_,i=>by
  have:(([]:List Value)++List.replicate n undef).getD i undef=undef:=by
   rw[JH,Ga,List.getElem?_replicate];split<;>rfl
  rw[this];exact .v _ _
 | [],_::_,h,_,_=>by simp at h
 |_::_,[],h,_,_=>by simp at h
 |x::l,v::vs,h,hr,i=>by
  cases i with
  |zero=>exact hr 0 x v rfl rfl
  |succ i=>
   have:=NI (n:=n) (args:=l) (vals:=vs) (by simpa using h) (fun i av x q1 q2=>hr (i+1) av x (by simpa using q1) (by simpa using q2)) i
   simpa[NH]using this
theorem XN {f : Nat}{args : List AV}{Q : AV -> Prop}(hP : cx.P = P)(hT : B7 P cx.T)(hm : P.follows .mixedOrders = true)(hx : cx.ext = false)(hf : P.funcs[f]? = some fn)(hn : (fn.name == "runtime.NumGoroutine") = false)(hb:fn.body=some c)(hN:args.length<=fn.ntmps)(hc:Ff fn.ntmps c=true)(hk:RH cx c (fE cx fn.results.toList Q) ⟨NH args,Ao⟩)(hY:∀l σ g w,cx.yp l σ g w:=by exact fun _ _ _ _=>trivial):BL P f args Ao fun r h'=>h'=Ao/\Q r:=by
 refine⟨⟨fn,hf,hn,by simp[hb]⟩,fun g w vals hs hv hI=>calls_of_wp hf hb ?_⟩;have hU:AD Ao=D2:=by funext i;unfold AD D2 Ao;simp
 have hS:SR fn.ntmps [] w g Ao ⟨NH args,Ao⟩ g { tmps:=vals++Array.replicate (fn.ntmps-vals.size) undef,defers:=[] } w:=by
  refine⟨hI,.refl _ _ _,rfl,by simp[hs];omega,fun i=>?_⟩
  have:=NI (n:=fn.ntmps-vals.size) (args:=args) (vals:=vals.toList) (by simpa using hs) (fun i av x q1 q2=>hv i av x q1 (by simpa using q2)) i
  rw[B9,<-Az];rw[Ga]at this;simpa using this
 refine wpIn_wide.1 (XW hP hT hm (by unfold RO;rw[hx];exact fun _=>rfl) (fun l σ _ _ w _ _ _=>hY l σ _ w) none c hc (fun e st g' a w' hk hS=>?_) hS hk);have out:cR cx st fn.results.toList Q->a.defers=[]/\∃v,(results fn a.tmps).run P w'=.ok v w'/\∃v' r h' g',(Ending.returned v:Ending)=.returned v'/\(h'=Ao/\Q r)/\Bo g' w' (AD h') r v'/\Do w g Ao h' g' w'/\Le Ao g w h' g' w':=by
  intro hk;obtain⟨g2,r,v,h',q1,q2,q3,q4,q5⟩:=cS hT hS hk;exact⟨hS.dfs,v,q2,v,r,Ao,g2,rfl,⟨rfl,q1⟩,by rw[hU];exact q5,Do.toFree (st:=⟨st.t,h'⟩) q3,⟨fun i hi=>absurd rfl hi,fun i hi=>absurd rfl hi,q4.keeps⟩⟩
 cases e with
 |normal=>exact out hk
 |ret=>exact out hk
 |exit id=>exact hk.elim
theorem Rx{cx:Cx}(hT:B7 P cx.T)(hS:SR N ds w0 g0 h0 st g a w):∀(rs:List ResultVar) {K:List AV->Prop},cV cx.T st rs K ->
  ∃l vs,K l/\(rs.mapM (UI a.tmps)).run P w=.ok vs w/\vs.length=l.length/\vs.length=rs.length /\
   ∀(i:Nat) (av:AV) (x:Value),l[i]?=some av->vs[i]?=some x->Bo g w (AD st.h) av x
 | [],K,hk=>⟨[],[],hk,by simp,rfl,rfl,fun i av x h=>by simp at h⟩
 |.tmp t::r,K,hk=>by
  obtain⟨l,vs,h1,h2,h3,h4,h5⟩:=Rx hT hS r hk;refine⟨_,a.tmps.getD t undef::vs,h1,?_,by simp[h3],by simp[h4],fun i av x q1 q2=>?_⟩
  .rw[HF];simp only[UI,Sem.run_bind,Sem.run_pure,Result.andThen_ok,h2]
  .cases i with
   |zero=>
    simp only[AX,Ba]at q1 q2;subst q1;subst q2;exact hS.slots t
   |succ i=>exact h5 i av x (by simpa using q1) (by simpa using q2)
 |.cell ad t::r,K,hk=>by
  obtain⟨addr,e1,x0,qz,e2,hk',e4⟩:=S0 hT hS.inv.objs (hS.slots ad) hk;obtain⟨l,vs,h1,h2,h3,h4,h5⟩:=Rx hT hS r hk';refine⟨_,x0::vs,h1,?_,by simp[h3],by simp[h4],fun i av x q1 q2=>?_⟩
  .rw[HF];simp only[UI,Sem.run_bind,Sem.run_pure,Result.andThen_ok,h2,e1,e2]
  .cases i with
   |zero=>
    simp only[AX,Ba]at q1 q2;subst q1;subst q2;exact e4
   |succ i=>exact h5 i av x (by simpa using q1) (by simpa using q2)
theorem IY{σ:Ren}:∀{H0:List (Nat×HO)},NL σ H0=true->∀i,AC H0 Ao i≠.free->1000<=i/\i<2000/\B5 σ i=some i
 | [],_,i,h=>absurd rfl h
 |(a,o)::r,hx,i,h=>by
  simp only[NL,Ak,Cz,B1]at hx;obtain⟨⟨⟨h1,h2⟩,h3⟩,h4⟩:=hx
  by_cases e:i=a
  .subst e;refine⟨h1,h2,?_⟩;split at h3
   .rename_i j e;rw[e,AB h3]
   .cases h3
  .unfold AC at h;simp only[B4 e,DU]at h;exact IY h4 i h
theorem bU{H0:List (Nat×HO)}{σ:Ren}(hσ:Iu σ=true)(hx:NL σ H0=true){h:Nat->HO}(hI:Do w0 g0 (AC H0 Ao) h g w)(hL:Le (AC H0 Ao) g0 w0 h g w) :
  HH (B5 σ) h (EV σ h) g (CP σ g) w/\Do w0 g0 (AC H0 Ao) (EV σ h) (CP σ g) w/\Le (AC H0 Ao) g0 w0 (EV σ h) (CP σ g) w:=by
 have inv:=Rg hσ;have Fg:∀j,EV σ h j=match FO σ j with | some i=>(h i).ren (B5 σ) h | none=>.free:=Lo _ _ σ
 have hR:HH (B5 σ) h (EV σ h) g (CP σ g) w:=by
  refine⟨fun r r' hr hu=>?_,fun b o=>Mj,hI.objs⟩;have hb:=(inv r r').1 hr;refine⟨by simp[CP,hb],by simp[CP,hb],by simp[CP,hb],by simp[CP,hb],?_⟩;unfold AD;rw[Fg,hb];exact(Jg _ _ _).2 hu
 have I7:∀j,(EV σ h j).live->∃i,FO σ j=some i/\(h i).live:=fun j hl=>by
  rw[Fg]at hl;cases e:FO σ j with
  |none=>rw[e]at hl;exact hl.elim
  |some i=>rw[e]at hl;exact⟨i,rfl,(Jf _ _ _).1 hl⟩
 have G1:∀j i,FO σ j=some i->(CP σ g).own j=g.own i:=fun j i e=>by simp[CP,e]
 refine⟨hR,⟨hI.os,hI.tape,hI.output,hI.size,hI.frame,hI.slt,fun j=>?_,fun j j' b hl NZ e e'=>?_,fun j b hl e=>?_,hI.sg,hI.glob⟩,⟨fun i hi=>?_,fun i hi=>?_,hL.keeps⟩⟩
 .rw[Fg];cases e:FO σ j with
  |none=>trivial
  |some i=>
   by_cases hu:AD h i
   .exact(hI.objs i).ren hR ((inv i j).2 e) hu
   .have:h i=.free:=BP.1 hu
    dsimp only;rw[this];trivial
 .obtain⟨i,e1,l1⟩:=I7 j hl;obtain⟨i',e2,l2⟩:=I7 j' NZ;rw[G1 j i e1]at e;rw[G1 j' i' e2]at e';obtain rfl:=hI.inj i i' b l1 l2 e e'
  have:=(inv i j).2 e1
  rw[(inv i j').2 e2]at this;cases this;rfl
 .obtain⟨i,e1,l1⟩:=I7 j hl;rw[G1 j i e1]at e;exact hI.loc i b l1 e
 .obtain⟨_,_,hf⟩:=IY hx i hi;have hb:=(inv i i).1 hf;have e1:(CP σ g).ρ i=g.ρ i/\(CP σ g).ln i=g.ln i/\(CP σ g).tk i=g.tk i:=by simp[CP,hb]
  obtain⟨k1,k2,k3,k4⟩:=hL.gh i hi;exact⟨e1.2.2.trans k1,by omega,fun t=>e1.1.trans (k3 t),fun l=>e1.1.trans (k4 sP)⟩
 .obtain⟨_,_,hf⟩:=IY hx i hi;have hb:=(inv i i).1 hf;unfold AD;rw[Fg,hb];exact(Jg _ _ _).2 (hL.us i hi)
theorem YT{f:Nat}{args:List AV}{H0:List (Nat×HO)}{Q:AV->(Nat->HO)->Prop}(hP:cx.P=P)(hT:B7 P cx.T)(hm:P.follows .mixedOrders=true)(hx:cx.ext=true)(hf:P.funcs[f]?=some fn)(_hn : (fn.name == "runtime.NumGoroutine") = false)(hb : fn.body = some c)(hN : args.length <= fn.ntmps)(hc : Ff fn.ntmps c = true)(hσ : (Iu σ && NL σ H0) = true)(hk:RH cx c (fD cx fn.results.toList σ Q) ⟨NH args,AC H0 Ao⟩){g:Gh}{w:World}{vals:Array Value}(hs:vals.size=args.length)(hv:∀(i:Nat) (av:AV) (x:Value),args[i]?=some av->vals[i]?=some x->Bo g w (AD (AC H0 Ao)) av x)(hI:Do w g (AC H0 Ao) (AC H0 Ao) g w)(hY:∀l σ h' g' w',DI σ=true->Do w g (AC H0 Ao) h' g' w'->Le (AC H0 Ao) g w h' g' w'->cx.yp l σ (CP σ g') w') :
  Calls P f vals w fun e w'=>∃v r h' g',e=.returned v/\Q r h'/\Bo g' w' (AD h') r v/\Do w g (AC H0 Ao) h' g' w'/\Le (AC H0 Ao) g w h' g' w':=by
 simp only[Ak]at hσ;obtain⟨hσ,oM⟩:=hσ;refine calls_of_wp hf hb ?_;have hS:SR fn.ntmps [] w g (AC H0 Ao) ⟨NH args,AC H0 Ao⟩ g { tmps:=vals++Array.replicate (fn.ntmps-vals.size) undef,defers:=[] } w:=by
  refine⟨hI,.refl _ _ _,rfl,by simp[hs];omega,fun i=>?_⟩
  have:=NI (n:=fn.ntmps-vals.size) (args:=args) (vals:=vals.toList) (by simpa using hs) (fun i av x q1 q2=>hv i av x q1 (by simpa using q2)) i
  rw[B9,<-Az];rw[Ga]at this;simpa using this
 refine wpIn_wide.1 (XW hP hT hm (by unfold RO;rw[hx];exact fun i hi=>⟨(IY oM i hi).1,(IY oM i hi).2.1⟩) hY none c hc (fun e st g' a w' hk hS=>?_) hS hk);have out:gU cx st fn.results.toList σ Q->a.defers=[]/\∃v,(results fn a.tmps).run P w'=.ok v w'/\∃v' r h' g',(Ending.returned v:Ending)=.returned v'/\Q r h'/\Bo g' w' (AD h') r v'/\Do w g (AC H0 Ao) h' g' w'/\Le (AC H0 Ao) g w h' g' w':=by
  intro hk;obtain⟨g2,i1,i2⟩:=M4 cx.pl.fin hS.inv;have LN : SR fn.ntmps [] w g (AC H0 Ao) ⟨st.t,MN st.h cx.pl.fin⟩ g2 a w':=⟨i1,hS.le.trans i2,hS.dfs,hS.size,fun i=>(hS.slots i).le i2⟩;obtain⟨l,vs,h1,h2,h3,h4,h5⟩:=Rx hT LN _ hk;obtain⟨hR,j1,j2⟩:=bU hσ oM i1 LN.le;have Ce:(results fn a.tmps).run P w'=.ok (if h:vs.toArray.size=1 then vs.toArray[0]else .tuple vs.toArray) w':=by
   rw[OD,show fn.results=fn.results.toList.toArray by simp,List.mapM_toArray];simp only[Sem.run_bind,Sem.run_map,h2,Result.andThen_ok,Sem.run_pure]
  refine⟨hS.dfs,?_⟩
  match l,vs,h1,h3,h5,Ce with
  | [v],[x],h1,h3,h5,Ce=>exact⟨x,by simpa using Ce,x,_,_,_,rfl,h1,(h5 0 v x rfl rfl).ren hR,j1,j2⟩
  | [],vs,h1,h3,h5,Ce=>
   have:vs=[]:=AF h3
   subst this;exact⟨.tuple #[],by simpa using Ce,.tuple #[],_,_,_,rfl,h1,Bo.ren hR (.tup _ [] _ rfl fun i av x q=>by simp at q),j1,j2⟩
  |v::v' :: l,vs,h1,h3,h5,Ce=>
   refine⟨.tuple vs.toArray,?_,.tuple vs.toArray,_,_,_,rfl,h1,Bo.ren hR (.tup _ _ _ (by simpa using h3) fun i av x q1 q2=>h5 i av x q1 (by simpa using q2)),j1,j2⟩;rw[Ce]
   have:vs.toArray.size≠1:=by simp[h3]
   simp only[this,dif_neg,not_false_eq_true]
 cases e with
 |normal=>exact out hk
 |ret=>exact out hk
 |exit id=>exact hk.elim
theorem YU{f:Nat}{args:List AV}{H0:List (Nat×HO)}{Q:AV->(Nat->HO)->Prop}(hP:cx.P=P)(hT:B7 P cx.T)(hm:P.follows .mixedOrders=true)(hx:cx.ext=true)(hf:P.funcs[f]?=some fn)(hn : (fn.name == "runtime.NumGoroutine") = false)(hb : fn.body = some c)(hN : args.length <= fn.ntmps)(hc : Ff fn.ntmps c = true)(hσ : (Iu σ && NL σ H0) = true)(hk:RH cx c (fD cx fn.results.toList σ Q) ⟨NH args,AC H0 Ao⟩)(hY:∀l σ g w,cx.yp l σ g w:=by exact fun _ _ _ _=>trivial):BL P f args (AC H0 Ao) Q:=
 ⟨⟨fn,hf,hn,by simp[hb]⟩,fun g w vals hs hv hI=>YT cx σ hP hT hm hx hf hn hb hN hc hσ hk hs hv hI (fun l σ _ _ w _ _ _=>hY l σ _ w)⟩
end
def D7(r r' : AV):Prop:=∀(g:Gh) (w:World) (U:Nat->Prop) (x:Value),Bo g w U r x->Bo g w U r' x
theorem D7.refl(r:AV):D7 r r:=fun _ _ _ _ h=>h
theorem D7.of_eq{r r' : AV}(h:r=r'):D7 r r':=h▸.refl r
theorem D7.nil:D7 nzA (.slice .none []):=fun _ _ _ _ h=>by cases h;exact .snil _ _ _
def Ly:List AV->List AV->Prop
 | [],[]=>True
 |a::r,b::s=>D7 a b/\Ly r s
 |_,_=>False
theorem Ly.len:∀{l l' : List AV},Ly l l'->l'.length=l.length
 | [],[],_=>rfl
 |_::_,_::_,h=>Aa (·+1) h.2.len
 | [],_::_,h=>h.elim
 |_::_,[],h=>h.elim
theorem Ly.get:∀{l l' : List AV},Ly l l'->∀(i:Nat) (b:AV),l'[i]?=some b->∃a,l[i]?=some a/\D7 a b
 | [],[],_,i,b,h=>by simp at h
 |a::r,b::s,hs,i,c,h=>by
  cases i with
  |zero=>simp only[AX,Ba]at h;subst h;exact⟨a,rfl,hs.1⟩
  |succ i=>exact Ly.get hs.2 i c (by simpa using h)
 | [],_::_,h,_,_,_=>h.elim
 |_::_,[],h,_,_,_=>h.elim
theorem D7.tup{l l' : List AV}(h:Ly l l'):D7 (.tup l) (.tup l'):=fun g w U x r=>by
 cases r with
 |tup _ _ vs hs hr=>
  refine .tup _ _ vs (by rw[hs,h.len]) fun i av x q1 q2=>?_;obtain⟨a,e1,e2⟩:=h.get i av q1;exact e2 _ _ _ _ (hr i a x e1 q2)
theorem D7.agg{l l' : List AV}(h:Ly l l'):D7 (.agg l) (.agg l'):=fun g w U x r=>by
 cases r with
 |agg _ _ vs hs h1 hr=>
  refine .agg _ _ vs (by rw[hs,h.len]) h1 fun i av x q1 q2=>?_;obtain⟨a,e1,e2⟩:=h.get i av q1;exact e2 _ _ _ _ (hr i a x e1 q2)
def TR:List (List AV)->List (List AV)->Prop
 | [],[]=>True
 |a::r,b::s=>Ly a b/\TR r s
 |_,_=>False
theorem TR.len:∀{l l' : List (List AV)},TR l l'->l'.length=l.length
 | [],[],_=>rfl
 |_::_,_::_,h=>Aa (·+1) h.2.len
 | [],_::_,h=>h.elim
 |_::_,[],h=>h.elim
theorem TR.get:∀{l l' : List (List AV)},TR l l'->∀(i:Nat) (b:List AV),l'[i]?=some b->∃a,l[i]?=some a/\Ly a b
 | [],[],_,i,b,h=>by simp at h
 |a::r,b::s,hs,i,c,h=>by
  cases i with
  |zero=>simp only[AX,Ba]at h;subst h;exact⟨a,rfl,hs.1⟩
  |succ i=>exact TR.get hs.2 i c (by simpa using h)
 | [],_::_,h,_,_,_=>h.elim
 |_::_,[],h,_,_,_=>h.elim
theorem D7.slice{l l' : List (List AV)}(h:TR l l'):D7 (.slice .none l) (.slice .none l'):=fun g w U x r=>by
 have BQ:=h.len;cases r with
 |snil _ a cap=>
  have:l'=[]:=AF (by rw[BQ];rfl)
  subst this;exact .snil _ a cap
 |slice _ _ b off sz cap val hc hl Cm Dd=>
  rw[<-BQ];refine .slice _ _ b off sz cap val (by rw[BQ];exact hc) (fun i cs hi=>?_) (fun i cs j av hi hj=>?_) (fun i cs j av hi hj=>?_)
  .obtain⟨a,e1,e2⟩:=h.get i cs hi;rw[e2.len];exact hl i a e1
  .obtain⟨a,e1,e2⟩:=h.get i cs hi;obtain⟨c,f1,f2⟩:=e2.get j av hj;exact Cm i a j c e1 f1
  .obtain⟨a,e1,e2⟩:=h.get i cs hi;obtain⟨c,f1,f2⟩:=e2.get j av hj;exact f2 _ _ _ _ (Dd i a j c e1 f1)
section
variable {P:Program}
theorem BL.mono{f:Nat}{args:List AV}{h0:Nat->HO}{Q Q' : AV->(Nat->HO)->Prop}(h:BL P f args h0 Q)(hq:∀r h',Q r h'->∃r',D7 r r'/\Q' r' h'):BL P f args h0 Q':=
 ⟨h.1,fun g w vals q1 q2 q3=>(h.2 g w vals q1 q2 q3).mono fun _ _ ⟨v,r,h',g',e1,e2,e3,rest⟩=>
  let ⟨r',s,k⟩:=hq r h' e2
  ⟨v,r',h',g',e1,k,s _ _ _ _ e3,rest⟩⟩
theorem BL.args{args args' : List AV}{h0:Nat->HO}{Q:AV->(Nat->HO)->Prop}(h:BL P f args h0 Q)(hs:Ly args' args):BL P f args' h0 Q:=
 ⟨h.1,fun g w vals q1 q2 q3=>h.2 g w vals (by rw[q1,hs.len]) (fun i av x e1 e2=>by
  obtain⟨a,f1,f2⟩:=hs.get i av e1;exact f2 _ _ _ _ (q2 i a x f1 e2)) q3⟩
theorem IR.args{f:Nat}{args args' : List AV}{res:AV}(h:IR P f args res)(hs:Ly args' args):IR P f args' res:=BL.args h hs
theorem Fr {args : List AV}{res : AV}(hP : cx.P = P)(hT : B7 P cx.T)(hm : P.follows .mixedOrders = true)(hx : cx.ext = false)(hf : P.funcs[f]? = some fn)(hn : (fn.name == "runtime.NumGoroutine") = false)(hb:fn.body=some c)(hN:args.length<=fn.ntmps)(hc:Ff fn.ntmps c=true)(hk:RH cx c (fE cx fn.results.toList fun r=>D7 r res) ⟨NH args,Ao⟩)(hY:∀l σ g w,cx.yp l σ g w:=by exact fun _ _ _ _=>trivial):IR P f args res:=
 (XN cx hP hT hm hx hf hn hb hN hc hk hY).mono fun _ _ ⟨e1,e2⟩=>⟨res,e2,rfl,e1⟩
end
end Go.Eng
namespace Go.Eng
open Go.ChangeShapes Go.WideShapes
variable {p:List MemPlace}{w:World}{g:Gh}
def YR(w:World):Gh:=⟨fun _=>undef,fun _=>0,fun _=>false,fun _=>none,fun b _=>b<w.heap.size⟩
theorem QW{b o:Nat}{v:Value}(h:w.cell? ⟨b,o,none⟩=some v):b<w.heap.size:=by
 unfold World.cell? at h;cases hh:w.heap[b]? with
 |none=>simp[hh]at h
 |some x=>exact(BN.1 hh).1
theorem kO(hg:∃m,w.cell? ⟨0,0,none⟩=some (.int .i64 m))(ht:∀x∈YS,x.1<w.heap.size/\w.cell? ⟨x.1,x.2.1,none⟩=x.2.2):Do w (YR w) Ao Ao (YR w) w where
 os:=rfl
 tape:=rfl
 output:=rfl
 size:=Ad _
 frame:=fun _ _ _=>rfl
 slt:=fun _ _ h=>h
 objs:=fun _=>trivial
 inj:=fun _ _ _ h=>h.elim
 loc:=fun _ _ h=>h.elim
 sg:=fun _ _ h=>.inl h
 glob:=⟨⟨by obtain⟨m,h⟩:=hg;exact QW h,hg⟩,fun x hx=>ht x hx⟩
theorem Oh{α β:Type}{f:α->Option β}:∀{l:List α} {r:List β},l.mapM f=some r->r.length=l.length/\∀(i:Nat) x,l[i]?=some x->∃y,r[i]?=some y/\f x=some y
 | [],r,h=>by simp at h;subst h;simp
 |a::l,r,h=>by
  rw[HF]at h;cases ha:f a with
  |none=>simp[ha]at h
  |some b=>
   cases hl:l.mapM f with
   |none=>simp[ha,hl]at h
   |some s=>
    simp[ha,hl]at h;subst h;obtain⟨h1,h2⟩:=Oh hl;refine⟨by simp[h1],fun i x hx=>?_⟩;cases i with
    |zero=>simp at hx;subst hx;exact⟨b,by simp,ha⟩
    |succ i=>obtain⟨y,h3,h4⟩:=h2 i x (by simpa using hx);exact⟨y,by simpa using h3,h4⟩
theorem PG{base:Nat}{a:Addr}{n:Nat}{cs:List Value}(h:w.cells? base a n=some cs) :
  cs.length=n/\(0<n->a.spot=none)/\∀j,j<n->∃v,cs[j]?=some v/\w.cell? ⟨a.block,a.off+j,none⟩=some v:=by
 unfold World.cells? at h;split at h
 .obtain⟨h1,h2⟩:=Oh h;have one:∀j,j<n->∃v,cs[j]?=some v/\w.cell? (a.add j)=some v:=fun j hj=>by
   obtain⟨v,e1,e2⟩:=h2 j j (by simp[hj]);exact⟨v,e1,e2⟩
  have Zf:0<n->a.spot=none:=fun hn=>by
   obtain⟨v,_,hv⟩:=one 0 hn;simp only[Addr.add,Av]at hv;cases hs:a.spot with
   |none=>rfl
   |some s=>
    simp only[World.cell?]at hv;split at hv
    .simp[hs]at hv
    .cases hv
  refine⟨by simpa using h1,Zf,fun j hj=>?_⟩;obtain⟨v,e1,e2⟩:=one j hj;refine⟨v,e1,?_⟩;have hs:=Zf sP;have e:a.add j=⟨a.block,a.off+j,none⟩:=by
   unfold Addr.add;split
   .rename_i h0;subst h0;cases a;simp_all
   .rfl
  rw[<-e];exact e2
 .cases h
section
variable {H:Type}{enc:TypeId×Value->H}{P:Program}{w:World}{bk:DataW H->Nat}{N:Nat}
structure QE(bk:DataW H->Nat):Prop where
 slice:∀es sp,es.length<=bk (.slice es sp)/\∀d∈es,bk d<=bk (.slice es sp)
 agg:∀ps,∀d∈ps,bk d<=bk (.agg ps)
 str:∀b:List UInt8,b.length<=bk (.lit (.string b))
def Hf(enc:TypeId×Value->H)(P:Program)(w:World)(bk:DataW H->Nat)(N:Nat)(t:TypeId){α:Type}(e:α->List AV)(ok:α->Prop):Prop:=
 ∀(fuel:Nat) (cs:List Value) (d:DataW H) (ps:List MemPlace),DataW.trod enc P w 0 (fun _=>true) true fuel t cs=some (d,ps)->bk d<=N->∃x:α,B3 (YR w) w D2 (e x) cs/\ok x
theorem Mi{U:Nat->Prop}{a:AV}{v:Value}(h1:v.oneCell'=true)(h2:Bo g w U a v):B3 g w U [a] [v]:=by
 refine⟨rfl,fun x hx=>by simp at hx;subst hx;exact h1,fun i av x q1 q2=>?_⟩;cases i with
 |zero=>simp at q1 q2;subst q1;subst q2;exact h2
 |succ i=>simp at q1
theorem XF{U:Nat->Prop}{a b:List AV}{c d:List Value}(h:B3 g w U a c)(k:B3 g w U b d):B3 g w U (a++b) (c++d):=by
 obtain⟨h1,h2,h3⟩:=h;obtain⟨k1,k2,k3⟩:=k;refine⟨by simp[h1,k1],fun x hx=>(By.1 hx).elim (h2 x) (k2 x),fun i av x q1 q2=>?_⟩
 by_cases hi:i<a.length
 .rw[AQ hi]at q1;rw[AQ sP]at q2;exact h3 i av x q1 q2
 .rw[AL sP]at q1;rw[AL sP,h1]at q2;exact k3 _ av x q1 q2
theorem iw{U:Nat->Prop}:B3 g w U [] []:=⟨rfl,(fun x hx=>by cases hx),fun i av x q1=>by simp at q1⟩
theorem L3{t:TypeId}{k:IntKind}(hu:P.underlying t=some (.int k)):Hf enc P w bk N t (fun n:Int=>[AV.v (.int k n)]) (fun n=>k.min<=n/\n<=k.max):=by
 intro fuel cs d ps h _;cases fuel with
 |zero=>simp[DataW.trod]at h
 |succ fuel=>
  rw[DataW.trod_step]at h;unfold DataW.trodStep at h;rw[hu]at h;split at h<;>rename_i he<;>first | cases he | skip
  all_goals first | (split at h<;>first | cases h | skip) | cases h | skip
  rename_i n hc _;obtain⟨rfl,hw⟩:=hc;simp only[Lit.wf,Ak,A3]at hw;exact⟨_,Mi rfl (.v _ _),hw⟩
theorem UB{t:TypeId}(hu:P.underlying t=some .bool):Hf enc P w bk N t (fun b:Bool=>[AV.v (.bool b)]) (fun _=>True):=by
 intro fuel cs d ps h _;cases fuel with
 |zero=>simp[DataW.trod]at h
 |succ fuel=>
  rw[DataW.trod_step]at h;unfold DataW.trodStep at h;rw[hu]at h;split at h<;>rename_i he<;>first | cases he | skip
  all_goals first | cases h | skip
  exact⟨_,Mi rfl (.v _ _),trivial⟩
theorem Rv{t:TypeId}(hB:QE bk)(hu:P.underlying t=some .string):Hf enc P w bk N t (fun s:ByteArray=>[AV.v (.string s)]) (fun s=>s.size<=N):=by
 intro fuel cs d ps h hb;cases fuel with
 |zero=>simp[DataW.trod]at h
 |succ fuel=>
  rw[DataW.trod_step]at h;unfold DataW.trodStep at h;rw[hu]at h;split at h<;>rename_i he<;>first | cases he | skip
  all_goals first | (split at h<;>first | cases h | skip) | cases h | skip
  rename_i s hs;refine⟨s,Mi rfl (.v _ _),?_⟩
  have:=hB.str s.data.toList
  have e:s.data.toList.length=s.size:=by rw[A4];rfl
  omega
theorem EQ{t e:TypeId}{α:Type}{E:α->List AV}{ok:α->Prop}{m:Nat}(hB:QE bk)(hu:P.underlying t=some (.slice e))(hm:P.cellsOf e=m+1)(hE:∀x,(E x).length=m+1)(he:Hf enc P w bk N e E ok) :
  Hf enc P w bk N t (fun l:List α=>[AV.slice .none (l.map E)]) (fun l=>l.length<=N/\∀x∈l,ok x):=by
 intro fuel cs d ps h hb;cases fuel with
 |zero=>simp[DataW.trod]at h
 |succ fuel=>
  rw[DataW.trod_step]at h;unfold DataW.trodStep at h;rw[hu]at h;split at h<;>rename_i hq<;>first | cases hq | skip
  all_goals first | (cases h;done) | skip
  .cases h
   exact⟨[],Mi rfl (.snil _ _ _),Ar _,fun x hx=>by cases hx⟩
  .rename_i a len cap;simp only at h;split at h
   .rename_i hc;simp only[Ay,Nm]at h;obtain⟨dL,ri,rest,_,hd⟩:=h;simp only[GV]at hd;obtain⟨hd,_⟩:=hd;obtain⟨hl,Fg⟩:=Oh ri;rw[FZ]at hl;have nV:=hB.slice (dL.map (·.1)) (rest.map (·.1));rw[hd]at nV;rw[AO]at nV;have one:∀i,i<len->∃(x:α) (vs:List Value),w.cells? 0 (a.add (i*P.cellsOf e)) (P.cellsOf e)=some vs/\B3 (YR w) w D2 (E x) vs/\ok x:=fun i hi=>by
     obtain⟨y,hy,hf⟩:=Fg i i (by simp[hi]);simp only[Nm]at hf;obtain⟨vs,hv,ht⟩:=hf;obtain⟨x,r1,r2⟩:=he fuel vs y.1 y.2 ht (AP (nV.2 y.1 (AA.2 ⟨y,AW hy,rfl⟩)) hb);exact⟨x,vs,hv,r1,r2⟩
    have build:∀k,k<=len->∃l:List α,l.length=k/\∀(i:Nat) x,l[i]?=some x->∃vs:List Value,w.cells? 0 (a.add (i*P.cellsOf e)) (P.cellsOf e)=some vs/\B3 (YR w) w D2 (E x) vs/\ok x:=fun k=>by
     induction k with
     |zero=>exact fun _=>⟨[],rfl,fun i x q=>by simp at q⟩
     |succ k ih=>
      intro hk;obtain⟨l,h1,h2⟩:=ih sP;obtain⟨x,hx⟩:=one k sP;refine⟨l++[x],by simp[h1],fun i y q=>?_⟩
      by_cases hi:i<l.length
      .rw[AQ hi]at q;exact h2 i y q
      .rw[AL sP]at q
       have:i-l.length=0:=by
        cases hz:i-l.length with
        |zero=>rfl
        |succ z=>rw[hz]at q;simp at q
       rw[this]at q;simp only[AX,Ba]at q;subst q
       have:i=k:=by omega
       subst this;exact hx
    obtain⟨l,h1,h2⟩:=build len (Ad _);refine⟨l,Mi rfl ?_,by omega,fun x hx=>?_⟩
    .cases BQ:len with
     |zero=>
      have:l=[]:=AF sP
      subst this;exact .snil _ _ _
     |succ n=>
      have Zf:a.spot=none:=by
       obtain⟨x,vs,hv,_⟩:=one 0 sP
       have:=(PG hv).2.1 sP
       simpa[Addr.add]using this
      have ea:a=⟨a.block,a.off,none⟩:=by cases a;simp_all
      rw[<-BQ,<-h1,show l.length=(l.map E).length by simp,ea];have cell:∀(i:Nat) (c:List AV) (j:Nat) (av:AV),(l.map E)[i]?=some c->c[j]?=some av->∃v,w.cell? ⟨a.block,a.off+i*(m+1)+j,none⟩=some v/\v.oneCell'=true/\Bo (YR w) w D2 av v:=by
       intro i c j av q1 q2;rw[Ap,Ay]at q1;obtain⟨x,q1,rfl⟩:=q1;obtain⟨vs,hv,hr,_⟩:=h2 i x q1;obtain⟨k1,_,k3⟩:=PG hv;have hj:j<m+1:=by
        have:=(Au.1 q2).1
        rw[hE]at this;exact this
       obtain⟨v,e1,e2⟩:=k3 j sP;refine⟨v,?_,hr.2.1 v (AW e1),hr.2.2 j av v q2 e1⟩;rw[<-e2,hm];unfold Addr.add;split
       .rename_i h0;rw[h0];simp
       .rfl
      refine .slice _ _ a.block a.off (m+1) cap (fun i j=>(w.cell? ⟨a.block,a.off+i*(m+1)+j,none⟩).getD undef) (by rw[AO];omega) (fun i c q=>?_) (fun i c j av q1 q2=>?_) (fun i c j av q1 q2=>?_)
      .rw[Ap,Ay]at q;obtain⟨x,_,rfl⟩:=q;exact hE x
      .obtain⟨v,e1,e2,_⟩:=cell i c j av q1 q2;exact⟨QW e1,by rw[e1];rfl,by rw[e1];exact e2⟩
      .obtain⟨v,e1,_,e3⟩:=cell i c j av q1 q2;rw[e1];exact e3
    .obtain⟨i,hi⟩:=Cv.1 hx;obtain⟨_,_,_,h⟩:=h2 i x hi;exact h
   .cases h
theorem Jz{t e:TypeId}(hu:P.underlying t=some (.slice e)):Hf enc P w bk N t (fun _:Unit=>[AV.junk]) (fun _=>True):=by
 intro fuel cs d ps h _;cases fuel with
 |zero=>simp[DataW.trod]at h
 |succ fuel=>
  rw[DataW.trod_step]at h;unfold DataW.trodStep at h;rw[hu]at h;split at h<;>rename_i hq<;>first | cases hq | skip
  all_goals first | (cases h;done) | skip
  all_goals exact⟨(),Mi rfl (.junk _ _),trivial⟩
theorem Hf.to{t:TypeId}{α β:Type}{e:α->List AV}{ok:α->Prop}{e' : β->List AV}{kV : β->Prop}(h:Hf enc P w bk N t e ok)(f:α->β)(hf:∀x,ok x->e' (f x)=e x/\kV (f x)):Hf enc P w bk N t e' kV:=by
 intro fuel cs d ps k hb;obtain⟨x,h1,h2⟩:=h fuel cs d ps k hb;obtain⟨e1,e2⟩:=hf x h2;exact⟨f x,by rw[e1];exact h1,e2⟩
def QG(enc:TypeId×Value->H)(P:Program)(w:World)(bk:DataW H->Nat)(N L:Nat)(l:List Field)(o:Nat){α:Type}(e:α->List AV)(ok:α->Prop):Prop:=
 ∀(fuel:Nat) (cs:List Value) (xs:List (DataW H×List MemPlace)),cs.length=L->l.mapM (fun f=>DataW.trod enc P w 0 (fun _=>true) true fuel f.type ((cs.drop f.offset).take (P.cellsOf f.type)))=some xs->(∀x∈xs,bk x.1<=N) ->
  ∃x:α,B3 (YR w) w D2 (e x) (cs.drop o)/\ok x
theorem EP{L:Nat}:QG enc P w bk N L [] L (fun _:Unit=>[]) (fun _=>True):=by
 intro fuel cs xs hl _ _;refine⟨(),?_,trivial⟩;rw[Df sP];exact iw
theorem BG{L o n:Nat}{f:Field}{l:List Field}{α β:Type}{e:α->List AV}{ok:α->Prop}{e' : β->List AV}{kV : β->Prop}(ho:f.offset=o)(hn:P.cellsOf f.type=n)(h:Hf enc P w bk N f.type e ok)(k:QG enc P w bk N L l (o+n) e' kV) :
  QG enc P w bk N L (f::l) o (fun p:α×β=>e p.1++e' p.2) (fun p=>ok p.1/\kV p.2):=by
 intro fuel cs xs hl hx hb;rw[HF]at hx;simp only[Option.bind_eq_bind,Nm]at hx;obtain⟨y,hy,ys,rP,bl⟩:=hx;simp only[Option.pure_def,Ba]at bl;subst bl;obtain⟨x,r1,r2⟩:=h fuel _ y.1 y.2 hy (hb y (Ab ..));obtain⟨z,s1,s2⟩:=k fuel cs ys hl rP (fun q hq=>hb q (Ai _ hq));refine⟨(x,z),?_,r2,s2⟩;have e:cs.drop o=(cs.drop o).take n++cs.drop (o+n):=by rw[<-E3,Ev]
 rw[e];rw[ho,hn]at r1;exact XF r1 s1
theorem D5{t:TypeId}{L:Nat}{fs:Array Field}{α:Type}{e:α->List AV}{ok:α->Prop}(hB:QE bk)(hu:P.underlying t=some (.struct fs))(hL:P.cellsOf t=L)(h:QG enc P w bk N L fs.toList 0 e ok):Hf enc P w bk N t e ok:=by
 intro fuel cs d ps k hb;cases fuel with
 |zero=>simp[DataW.trod]at k
 |succ fuel=>
  rw[DataW.trod_step]at k;unfold DataW.trodStep at k;rw[hu]at k
  change (if cs.length=P.cellsOf t then(fs.toList.mapM fun f=>DataW.trod enc P w 0 (fun _=>true) true fuel f.type ((cs.drop f.offset).take (P.cellsOf f.type))).map fun xs=>(DataW.agg (xs.map (·.1)),xs.flatMap (·.2))else none)=some (d,ps)at k
  split at k
  .rename_i hc;simp only[Ay,GV]at k;obtain⟨xs,hx,hd,_⟩:=k;have pN:=hB.agg (xs.map (·.1));rw[hd]at pN;obtain⟨x,r1,r2⟩:=h fuel cs xs sP hx (fun y hy=>AP (pN y.1 (AA.2 ⟨y,hy,rfl⟩)) hb);exact⟨x,r1,r2⟩
  .cases k
theorem E8{t:TypeId}{α:Type}{e:α->AV}{ok:α->Prop}(h:Hf enc P w bk N t (fun x=>[e x]) ok){v:Value}{d:DataW H}(hv:v.oneCell'=true)(k:DataW.Trod enc P w 0 (fun _=>true) true t v d p)(hb:bk d<=N) :
  ∃x,Bo (YR w) w D2 (e x) v/\ok x:=by
 obtain⟨fuel,k⟩:=k;have ec:v.cells.toList=[v]:=by cases v<;>first | rfl | cases hv
 rw[ec]at k;obtain⟨x,r1,r2⟩:=h fuel _ d p k hb;exact⟨x,r1.2.2 0 _ _ rfl rfl,r2⟩
theorem Oo{t:TypeId}{α:Type}{e:α->List AV}{ok:α->Prop}(h:Hf enc P w bk N t e ok){cs:Array Value}{d:DataW H}(k:DataW.Trod enc P w 0 (fun _=>true) true t (.agg cs) d p)(hb:bk d<=N) :
  ∃x,Bo (YR w) w D2 (.agg (e x)) (.agg cs)/\ok x:=by
 obtain⟨fuel,k⟩:=k;obtain⟨x,r1,r2⟩:=h fuel cs.toList d p k hb;refine⟨x,.agg _ _ _ (by have:=r1.1;simpa using this) (fun i y q=>r1.2.1 y (by rw[Array.mem_toList_iff];exact DN q)) (fun i av y q1 q2=>r1.2.2 i av y q1 (by simpa using q2)),r2⟩
end
end Go.Eng
namespace Go.Eng
open Go.Proofs
abbrev nr:TI := UP
abbrev tF:TI := ⟨.func,1,8,.nilFunc,true⟩
abbrev tI:TI := ⟨.int .i64,1,8,.int .i64 0,true⟩
abbrev tP(n:Nat):TI := ⟨.ptr n,1,8,.pointer none,true⟩
abbrev tS(n:Nat):TI := ⟨.slice n,1,24,.slice none 0 0,true⟩
def ZN{α:Type}(d:α):List α -> Nat -> α
 | [],_ => d
 |a::r,n => match n with |0 => a |n + 1 => ZN d r n
abbrev tiN:TI := UP
def o7:List TI := [⟨.other,1,0,(.tuple #[]),true⟩,tF,tI,tI,⟨.bool,1,1,(.bool .false),true⟩,⟨.int .u8,1,1,(.int .u8 0),true⟩,⟨.int .u8,1,1,(.int .u8 0),true⟩,⟨.struct [(2,0),(3,1),(4,2),(6,3)],4,24,(.agg #[.int .i64 0,.int .i64 0,.bool .false,.int .u8 0]),true⟩,⟨.struct [(2,0),(3,1),(4,2),(6,3)],4,24,(.agg #[.int .i64 0,.int .i64 0,.bool .false,.int .u8 0]),true⟩,⟨.string,1,16,(.string ⟨#[]⟩),true⟩,⟨.string,1,16,(.string ⟨#[]⟩),true⟩,⟨.string,1,16,(.string ⟨#[]⟩),true⟩,⟨.int .u64,1,8,(.int .u64 0),true⟩,tiN,tiN,tiN]
def o8:List TI := [⟨.ptr 407,1,8,(.pointer .none),true⟩,tiN,tiN,tiN,⟨.iface,1,16,.nilIface,true⟩,⟨.int .i32,1,4,(.int .i32 0),true⟩,⟨.slice 79,1,24,(.slice .none 0 0),true⟩,⟨.slice 97,1,24,(.slice .none 0 0),true⟩,⟨.struct [(22,0),(23,1)],2,48,(.agg #[.slice .none 0 0,.slice .none 0 0]),true⟩,⟨.struct [(22,0),(23,1)],2,48,(.agg #[.slice .none 0 0,.slice .none 0 0]),true⟩,⟨.slice 49,1,24,(.slice .none 0 0),true⟩,⟨.slice 9,1,24,(.slice .none 0 0),true⟩,tF,tiN,tiN,⟨.slice 60,1,24,(.slice .none 0 0),true⟩]
def o9:List TI := [tI,tiN,tiN,tiN,tiN,tiN,tiN,tiN,tiN,tiN,tiN,tiN,tiN,tiN,tiN,⟨.struct [(3,0),(3,1),(3,2)],3,24,(.agg #[.int .i64 0,.int .i64 0,.int .i64 0]),true⟩]
def pa:List TI := [tiN,⟨.struct [(9,0),(47,1)],4,40,(.agg #[.string ⟨#[]⟩,.int .i64 0,.int .i64 0,.int .i64 0]),true⟩,tiN,tiN,tiN,tiN,⟨.slice 58,1,24,(.slice .none 0 0),true⟩,tiN,tiN,tiN,⟨.struct [(9,0),(47,1),(9,4),(9,5)],6,72,(.agg #[.string ⟨#[]⟩,.int .i64 0,.int .i64 0,.int .i64 0,.string ⟨#[]⟩,.string ⟨#[]⟩]),true⟩,tiN,⟨.struct [(9,0),(47,1),(9,4)],5,56,(.agg #[.string ⟨#[]⟩,.int .i64 0,.int .i64 0,.int .i64 0,.string ⟨#[]⟩]),true⟩,tiN,tiN,tiN]
def pb:List TI := [tF,tF,tiN,tiN,⟨.slice 5,1,24,(.slice .none 0 0),true⟩,tF,tiN,⟨.slice 143,1,24,(.slice .none 0 0),true⟩,tiN,tiN,tiN,tiN,tiN,tiN,tiN,⟨.struct [(9,0),(47,1),(71,4),(9,5),(9,6),(9,7),(4,8)],9,120,(.agg #[.string ⟨#[]⟩,.int .i64 0,.int .i64 0,.int .i64 0,.slice .none 0 0,.string ⟨#[]⟩,.string ⟨#[]⟩,.string ⟨#[]⟩,.bool .false]),true⟩]
def pc:List TI := [tiN,tiN,tiN,tF,tiN,tiN,⟨.map 9 9,1,8,(.map .none),true⟩,tiN,tiN,tiN,⟨.other,1,0,(.tuple #[.string ⟨#[]⟩,.bool .false]),true⟩,tiN,⟨.slice 421,1,24,(.slice .none 0 0),true⟩,⟨.slice 423,1,24,(.slice .none 0 0),true⟩,⟨.slice 425,1,24,(.slice .none 0 0),true⟩,⟨.slice 427,1,24,(.slice .none 0 0),true⟩]
def pd:List TI := [tiN,⟨.struct [(9,0),(92,1),(93,2),(94,3),(95,4)],5,112,(.agg #[.string ⟨#[]⟩,.slice .none 0 0,.slice .none 0 0,.slice .none 0 0,.slice .none 0 0]),true⟩,tiN,tiN,tiN,tiN,⟨.ptr 104,1,8,(.pointer .none),true⟩,tiN,⟨.struct [(102,0),(68,1)],2,32,(.agg #[.pointer .none,.slice .none 0 0]),true⟩,tiN,⟨.iface,1,16,.nilIface,false⟩,⟨.other,1,0,(.tuple #[.int .i64 0,.nilIface]),true⟩,tiN,tiN,tiN,tiN]
def pe:List TI := [tF,⟨.map 49 9,1,8,(.map .none),true⟩,tiN,tiN,tF,⟨.other,1,0,(.tuple #[.string ⟨#[]⟩,.string ⟨#[]⟩,.bool .false]),true⟩,tiN,tiN,tiN,⟨.ptr 179,1,8,(.pointer .none),true⟩,tiN,tiN,tiN,tiN,tiN,⟨.int .u64,1,8,(.int .u64 0),true⟩]
def pf:List TI := [tiN,tiN,tiN,tiN,tiN,tiN,tiN,tiN,tiN,tiN,tiN,tiN,⟨.slice 226,1,24,(.slice .none 0 0),true⟩,⟨.slice 226,1,24,(.slice .none 0 0),true⟩,tiN,⟨.struct [(9,0),(141,1)],2,40,(.agg #[.string ⟨#[]⟩,.slice .none 0 0]),true⟩]
def pg:List TI := [tiN,tiN,tiN,tiN,⟨.map 49 79,1,8,(.map .none),true⟩,⟨.map 9 22,1,8,(.map .none),true⟩,tiN,⟨.struct [(148,0),(149,1)],2,16,(.agg #[.map .none,.map .none]),true⟩,tiN,tiN,tiN,⟨.int .u32,1,4,(.int .u32 0),true⟩,⟨.slice 155,1,24,(.slice .none 0 0),true⟩,tiN,tiN,tiN]
def la:List TI := [tF,tiN,tiN,tiN,tiN,tiN,tiN,⟨.array 3 3,3,24,(.agg #[.int .i64 0,.int .i64 0,.int .i64 0]),true⟩,tiN,tiN,⟨.ptr 5,1,8,(.pointer .none),true⟩,tiN,tiN,tiN,tiN,tiN]
def lb:List TI := [⟨.array 8 155,8,32,(.agg (Array.replicate 8 (.int .u32 0))),true⟩,⟨.int .u64,1,8,(.int .u64 0),true⟩,tiN,⟨.struct [(176,0),(9,8),(177,9)],10,56,(.agg #[.int .u32 0,.int .u32 0,.int .u32 0,.int .u32 0,.int .u32 0,.int .u32 0,.int .u32 0,.int .u32 0,.string ⟨#[]⟩,.int .u64 0]),true⟩,tiN,tiN,tiN,tI,⟨.other,1,0,(.tuple #[.int .i64 0,.int .i64 0]),true⟩,tiN,tiN,tiN,⟨.other,1,0,(.tuple #[.int .i64 0,.bool .false]),true⟩,tiN,tiN,tiN]
def lc:List TI := [tF,tiN,tiN,tiN,tiN,tiN,tiN,tiN,tiN,tiN,tiN,tiN,tiN,tiN,tiN,tiN]
def ld:List TI := []
def lf:List TI := [tiN,tiN,⟨.struct [(3,0),(3,1)],2,16,(.agg #[.int .i64 0,.int .i64 0]),true⟩,tiN,tiN,tiN,tiN,tiN,tiN,tiN,tiN,⟨.other,1,8,(.pointer .none),true⟩,tiN,tiN,tiN,tF]
def lg:List TI := [tiN,tiN,⟨.array 64 155,64,256,(.agg (Array.replicate 64 (.int .u32 0))),true⟩,tiN,tiN,⟨.other,1,0,(.tuple #[.int .u64 0,.int .u64 0]),true⟩,tiN,tiN,tiN,⟨.array 8 5,8,8,(.agg (Array.replicate 8 (.int .u8 0))),true⟩,⟨.int .u64,1,8,(.int .u64 0),true⟩,tiN,tiN,tiN,⟨.ptr 3,1,8,(.pointer .none),true⟩,tiN]
def lh:List TI := [⟨.slice 3,1,24,(.slice .none 0 0),true⟩,tiN,tiN,tiN,tiN,tiN,tiN,tiN,tiN,tiN,tiN,⟨.ptr 143,1,8,(.pointer .none),true⟩,tiN,tiN,tiN,tiN]
def li:List TI := [tiN,tiN,tF,tiN,tiN,tiN,tiN,tiN,tiN,tiN,tiN,tiN,tiN,⟨.other,1,0,(.tuple #[.int .u32 0,.int .u32 0]),true⟩,tiN,⟨.other,1,0,(.tuple #[.int .u64 0,.int .u64 0]),true⟩]
def lj:List TI := [tiN,⟨.ptr 250,1,8,(.pointer .none),true⟩,⟨.other,1,0,(.tuple #[.int .i64 0,.int .i64 0]),true⟩,tiN,tiN,tiN,tiN,tiN,tiN,tiN,tiN,tiN,tiN,tiN,tiN,tiN]
def lk:List TI := [tiN,tiN,tiN,tiN,tiN,tiN,tiN,tF,tiN,tiN,tiN,tiN,tiN,⟨.array 24 5,24,24,(.agg (Array.replicate 24 (.int .u8 0))),true⟩,tiN,⟨.other,1,0,(.tuple #[.slice .none 0 0,.string ⟨#[]⟩]),true⟩]
def ll:List TI := [tiN,⟨.other,1,0,(.tuple #[.int .i32 0,.int .i64 0]),true⟩,tiN,tiN,tI,⟨.other,1,0,(.tuple #[.int .i64 0,.nilIface]),true⟩,tiN,⟨.ptr 350,1,8,(.pointer .none),true⟩,tiN,tiN,tiN,tiN,tiN,tiN,tiN,tiN]
def lm:List TI := [tiN,tiN,tiN,tiN,tiN,tiN,tiN,tiN,tiN,⟨.array 20 177,20,160,(.agg (Array.replicate 20 (.int .u64 0))),true⟩,⟨.array 65 5,65,65,(.agg ((List.replicate 32 (.int .u8 0)).append (List.replicate 33 (.int .u8 0))).toArray),true⟩,⟨.other,1,0,(.tuple #[.int .u64 0,.nilIface]),true⟩,tiN,tiN,⟨.struct [(9,0),(9,1),(106,2)],3,48,(.agg #[.string ⟨#[]⟩,.string ⟨#[]⟩,.nilIface]),false⟩,tiN]
def lp:List TI := [tiN,tiN,tiN,tiN,tiN,tiN,tiN,tiN,tiN,tiN,tiN,tiN,tiN,tiN,tiN,⟨.array 256 5,256,256,(.agg (((List.replicate 64 (.int .u8 0)).append (List.replicate 64 (.int .u8 0))).append ((List.replicate 64 (.int .u8 0)).append (List.replicate 64 (.int .u8 0)))).toArray),true⟩]
def lq:List TI := [tiN,⟨.struct [(5,0),(5,1)],2,2,(.agg #[.int .u8 0,.int .u8 0]),true⟩,⟨.array 16 369,32,32,(.agg (Array.replicate 32 (.int .u8 0))),true⟩,tiN,⟨.ptr 374,1,8,(.pointer .none),true⟩,tiN,⟨.struct [(9,0)],1,16,(.agg #[.string ⟨#[]⟩]),true⟩,tiN,tiN,tiN,tiN,tiN,tiN,tiN,⟨.array 32 5,32,32,(.agg (Array.replicate 32 (.int .u8 0))),true⟩,⟨.array 64 5,64,64,(.agg (Array.replicate 64 (.int .u8 0))),true⟩]
def lr:List TI := []
def ls:List TI := [tiN,tiN,tiN,tiN,tiN,tiN,tiN,⟨.other,0,0,(.agg #[]),false⟩,tiN,tiN,tiN,tiN,tiN,tiN,tiN,⟨.slice 430,1,24,(.slice .none 0 0),true⟩]
def lu:List TI := [⟨.slice 419,1,24,(.slice .none 0 0),true⟩,⟨.slice 432,1,24,(.slice .none 0 0),true⟩,tiN,⟨.struct [(3,0),(9,1),(9,2),(416,3),(417,4)],5,88,(.agg #[.int .i64 0,.string ⟨#[]⟩,.string ⟨#[]⟩,.slice .none 0 0,.slice .none 0 0]),true⟩,tiN,⟨.struct [(9,0),(415,1),(419,2),(419,7)],12,216,(.agg #[.string ⟨#[]⟩,.slice .none 0 0,.int .i64 0,.string ⟨#[]⟩,.string ⟨#[]⟩,.slice .none 0 0,.slice .none 0 0,.int .i64 0,.string ⟨#[]⟩,.string ⟨#[]⟩,.slice .none 0 0,.slice .none 0 0]),true⟩,tiN,⟨.struct [(9,0),(415,1),(419,2)],7,128,(.agg #[.string ⟨#[]⟩,.slice .none 0 0,.int .i64 0,.string ⟨#[]⟩,.string ⟨#[]⟩,.slice .none 0 0,.slice .none 0 0]),true⟩,tiN,⟨.struct [(9,0),(9,1),(9,2)],3,48,(.agg #[.string ⟨#[]⟩,.string ⟨#[]⟩,.string ⟨#[]⟩]),true⟩,tiN,⟨.struct [(9,0),(9,1)],2,32,(.agg #[.string ⟨#[]⟩,.string ⟨#[]⟩]),true⟩,tiN,tiN,⟨.struct [(9,0),(3,1),(419,2)],7,112,(.agg #[.string ⟨#[]⟩,.int .i64 0,.int .i64 0,.string ⟨#[]⟩,.string ⟨#[]⟩,.slice .none 0 0,.slice .none 0 0]),true⟩,tiN]
def lv:List TI := [⟨.struct [(9,0),(419,1),(4,6)],7,112,(.agg #[.string ⟨#[]⟩,.int .i64 0,.string ⟨#[]⟩,.string ⟨#[]⟩,.slice .none 0 0,.slice .none 0 0,.bool .false]),true⟩]
def qq:List (List TI) := [o7,o8,o9,pa,pb,pc,pd,pe,pf,pg,la,lb,lc,ld,lf,lg,lh,li,lj,lk,ll,lm,lp,lq,lr,ls,lu,lv]
def ey:EU := fun t => ZN nr (ZN [] qq (t / 16)) (t % 16)
def usedT:List Nat := [0,1,2,3,4,5,6,7,8,9,10,11,12,16,20,21,22,23,24,25,26,27,28,31,32,47,49,54,58,60,64,65,68,69,71,79,83,86,90,92,93,94,95,97,102,104,106,107,112,113,116,117,121,127,140,141,143,148,149,151,155,156,160,167,170,176,177,179,183,184,188,192,226,235,239,242,245,249,250,254,256,267,274,285,287,289,290,311,317,319,321,324,325,327,345,346,347,350,367,369,370,372,374,382,383,407,415,416,417,419,421,423,425,427,430,432]
def restT:List Nat := (List.range 448).filter fun t => !usedT.contains t
theorem aF:usedT.map ey = usedT.map (Xz Tryz.prog) := by kernel_rfl
theorem tab_rest:restT.map ey = restT.map fun _ => nr := by kernel_rfl
theorem Vu{α:Type}(d:α):∀(l:List α) (n:Nat),l.length <= n -> ZN d l n = d
 | [],_,_ => rfl
 |_::_,0,h => by simp at h
 |_::r,n + 1,h => Vu d r n (by simpa using h)
theorem DZ:B7 Tryz.prog ey := by
 intro t
 by_cases h:t<448
 .by_cases u:t∈usedT
  .exact .inr (List.map_inj_left.1 aF t u)
  .exact .inl (List.map_inj_left.1 tab_rest t (JF.2 ⟨KJ.2 h,by simpa using u⟩))
 .have h1:ZN ([]:List TI) qq (t / 16) = [] := Vu _ _ _ (by show 28 <= t / 16;omega)
  have h2:ey t = nr := by unfold ey;rw[h1];rfl
  exact .inl h2
end Go.Eng
