/- Lemmas 15. -/
import Derived.Test.YteaiieomnhbmgaaGreatDoorAA14
import Derived.Deep.LoopGhost
import Derived.ReadAgain
import Derived.RowKit
namespace Go.Eng
variable {h:Nat->HO}{fn:Func}{c:Code}{U:Nat->Prop}{K:AV->Prop}{av:AV}{cs:List AV}{i:Nat}{w:World}{x:Value}{f:Nat}{g:Gh}(cx:Cx)(σ:JR)
theorem FI{r:Nat}(e:Tw h r=true):AQ h r:=by
 unfold Tw at e;unfold AQ;split at e
 .cases e
 .rename_i hh;exact hh
theorem BS.ids0(r:BS g w U av x)(e:ids0 h av=true):BS g w (AQ h) av x:=by
 cases r with
 |v=>exact .v _ _
 |junk=>exact .junk _ _
 |snil=>exact .snil _ _ _
 |slice _ es b off sz cap val hc hl DY EE=>exact .slice _ es b off sz cap val hc hl DY EE
 |tok _ r sz es x hs hl hu ht hn hx=>exact .tok _ r sz es x ((BS.slice_none hs).up _) hl (FI e) ht hn hx
 |ver _ r sz v es x hs hl hu ht hn hx=>exact .ver _ r sz v es x ((BS.slice_none hs).up _) hl (FI e) ht hn hx
 |full _ sz es x hs hl hx=>exact .full _ sz es x ((BS.slice_none hs).up _) hl hx
 |msl _ r n a cap hu ht hn ha hx=>exact .msl _ r n a cap (FI e) ht hn ha hx
 |agg=>cases e
 |tup=>cases e
 |cptr _ cs b off val DY EE=>exact .cptr _ cs b off val DY EE
 |ref _ r off b hu ht hx=>exact .ref _ r off b (FI e) ht hx
 |eref _ r n sz i off b cap hu ht hn hx=>exact .eref _ r n sz i off b cap (FI e) ht hn hx
 |mref _ r b hu ht hx=>exact .mref _ r b (FI e) ht hx
 |cmap _ sh Cc b es ck hS hb hm hv=>exact .cmap _ sh Cc b es ck hS hb hm hv
 |clo=>cases e
theorem U7(e:aY h cs=true)(hi:cs[i]?=some av):ids0 h av=true:=by
 induction cs generalizing i with
 |nil=>simp at hi
 |cons c cs ih=>
  unfold aY at e;split at e
  .rename_i hc;cases i with
   |zero=>simp only[Bf,BB]at hi;exact hi▸hc
   |succ i=>exact ih e (by simpa using hi)
  .cases e
theorem mR(e:Y3 h cs=true)(hi:cs[i]?=some av):WH h av=true:=by
 induction cs generalizing i with
 |nil=>simp at hi
 |cons c cs ih=>
  unfold Y3 at e;split at e
  .rename_i hc;cases i with
   |zero=>simp only[Bf,BB]at hi;exact hi▸hc
   |succ i=>exact ih e (by simpa using hi)
  .cases e
theorem jg{Cc:List (Value×AV)}(e:SO h Cc=true){kv:Value×AV}(hi:Cc[i]?=some kv):WH h kv.2=true:=by
 induction Cc generalizing i with
 |nil=>simp at hi
 |cons c cs ih=>
  unfold SO at e;split at e
  .rename_i hc;cases i with
   |zero=>simp only[Bf,BB]at hi;exact hi▸hc
   |succ i=>exact ih e (by simpa using hi)
  .cases e
theorem BS.ids(r:BS g w U av x)(e:WH h av=true):BS g w (AQ h) av x:=by
 cases r with
 |agg _ cs vs hs h1 hr=>exact .agg _ cs vs hs h1 fun i av x q1 q2=>(hr i av x q1 q2).ids0 (U7 e q1)
 |tup _ cs vs hs hr=>exact .tup _ cs vs hs fun i av x q1 q2=>(hr i av x q1 q2).ids0 (U7 e q1)
 |clo _ f cs vs hs hr=>exact .clo _ f cs vs hs fun i av x q1 q2=>(hr i av x q1 q2).ids0 (U7 e q1)
 |v=>exact .v _ _
 |junk=>exact .junk _ _
 |snil=>exact .snil _ _ _
 |slice _ es b off sz cap val hc hl DY EE=>exact .slice _ es b off sz cap val hc hl DY EE
 |tok _ r sz es x hs hl hu ht hn hx=>exact .tok _ r sz es x ((BS.slice_none hs).up _) hl (FI e) ht hn hx
 |ver _ r sz v es x hs hl hu ht hn hx=>exact .ver _ r sz v es x ((BS.slice_none hs).up _) hl (FI e) ht hn hx
 |full _ sz es x hs hl hx=>exact .full _ sz es x ((BS.slice_none hs).up _) hl hx
 |msl _ r n a cap hu ht hn ha hx=>exact .msl _ r n a cap (FI e) ht hn ha hx
 |cptr _ cs b off val DY EE=>exact .cptr _ cs b off val DY EE
 |ref _ r off b hu ht hx=>exact .ref _ r off b (FI e) ht hx
 |eref _ r n sz i off b cap hu ht hn hx=>exact .eref _ r n sz i off b cap (FI e) ht hn hx
 |mref _ r b hu ht hx=>exact .mref _ r b (FI e) ht hx
 |cmap _ sh Cc b es ck hS hb hm hv=>exact .cmap _ sh Cc b es ck hS hb hm hv
theorem bm{st:St}{h:Nat->HO}:∀{l:List (Nat×AV)},leT st h l->∀i,UE l i=.junk\/(st.t i=UE l i/\WH h (UE l i)=true)
 | [],_,i=>.inl rfl
 |(j,a)::l,⟨h1,h2⟩,i=>by
  unfold UE
  by_cases e:i=j
  .subst e;simp only[Dq,KT];exact .inr h1
  .simp only[Df e,Ey];exact bm h2 i
theorem bl{st:St}{h hb:Nat->HO}(hhb:∀j,hb j=.free\/(st.h j=hb j/\Tx h (hb j)=true)):∀{l:List (Nat×HO)},leH st h l->∀i,Ap l hb i=.free\/(st.h i=Ap l hb i/\Tx h (Ap l hb i)=true)
 | [],_,i=>hhb i
 |(j,a)::l,⟨h1,h2⟩,i=>by
  unfold Ap
  by_cases e:i=j
  .subst e;simp only[Dq,KT];exact .inr h1
  .simp only[Df e,Ey];exact bl hhb h2 i
def MD(h0:Nat->HO):Prop:=match cx.ext with | false=>∀i,h0 i=.free | true=>∀i,h0 i≠.free->1000<=i/\i<2000
section
variable {P:Program}{N:Nat}{ds:List Deferred}{w0:World}{g0:Gh}{h0:Nat->HO}{st:St}{g:Gh}{a:Act}{w:World}{cx:Cx}
theorem SR.weaken(hE:MD cx h0)(hS:SR N ds w0 g0 h0 st g a w){s:LS}(Ij:St.le cx st s):SR N ds w0 g0 h0 s.st g a w:=by
 obtain⟨h1,h2,h3,h4⟩:=Ij;have hT:=bm h1;have hH:∀i,s.st.h i=.free\/(st.h i=s.st.h i/\Tx s.st.h (s.st.h i)=true):=bl h3 h2;have Km:∀r,(s.st.h r).live->(st.h r).live:=fun r hl=>by
  rcases hH r with e | ⟨e,_⟩
  .rw[e]at hl;exact hl.elim
  .rw[e];exact hl
 have hI:=hS.inv;refine⟨⟨hI.os,hI.tape,hI.output,hI.size,hI.frame,hI.slt,fun r=>?_,fun r r' b l l'=>hI.inj r r' b (Km r l) (Km r' l'),fun r b l=>hI.loc r b (Km r l),hI.sg,hI.glob⟩,⟨hS.le.gh,fun i hi=>?_,hS.le.keeps⟩,hS.dfs,hS.size,fun i=>?_⟩
 .rcases hH r with e | ⟨e,e2⟩
  .rw[e];trivial
  .have ho:=hI.objs r;rw[e]at ho;generalize s.st.h r=o at ho e2;cases o with
   |cells cs=>
    obtain⟨t,b,E,vs,a1,a2,a3,a4,a5⟩:=ho;exact⟨t,b,E,vs,a1,a2,a3,⟨a4.1,a4.2.1,fun i av x q1 q2=>(a4.2.2 i av x q1 q2).ids (mR e2 q1)⟩,a5⟩
   |hol sz es i c av=>
    obtain⟨t,l,al,b,cap,E,vs,b1,b2,b3,b4,b5,b6,b7,b8,x,b9,Xe⟩:=ho;exact⟨t,l,al,b,cap,E,vs,b1,b2,b3,b4,b5,b6,b7,b8,x,b9,Xe.ids e2⟩
   |mapU sh Cc=>
    obtain⟨t,b,es,ck,a1,a2,a3,a4,a5,a6⟩:=ho;exact⟨t,b,es,ck,a1,a2,a3,a4,fun i kv e q1 q2=>(a5 i kv e q1 q2).ids (jg e2 q1),a6⟩
   |_=>exact ho
 .have hu:=hS.le.us i hi;unfold MD at hE;split at hE
  .exact absurd (hE i) hi
  .rename_i hx;rw[hx]at h4;exact h4 i (hE i hi).1 (hE i hi).2 hu
 .show BS g w (AQ s.st.h) (UE s.t i) _;rcases hT i with e | ⟨e,e2⟩
  .rw[e];exact .junk _ _
  .rw[<-e]at e2⊢;exact(hS.slots i).ids e2
def Ex.real:Ex->Exit
 |.normal=>.normal
 |.exit id=>.exit id
 |.ret=>.ret
def xJ(N:Nat)(o:Oper):Bool:=match o.dst with | some d=>Nat.blt d N | none=>true
def EX(N:Nat):Code->Bool
 |.region _ ops _=>ops.toList.all (xJ N)
 |.seq a b=>EX N a&&EX N b
 |.cond _ a b=>EX N a&&EX N b
 |.block _ c=>EX N c
 |.loop c=>EX N c
 |_=>true
theorem OR(hP:cx.P=P)(hT:CI P cx.T)(hm:P.follows .mixedOrders=true)(hE:MD cx h0)(hY:∀l σ h g w,EO σ=true->D7 w0 g0 h0 h g w->Le h0 g0 w0 h g w->cx.yp l σ (DX σ g) w)(ro:Option Nat):∀(c:Code),EX N c=true->∀{Qa:Ex->St->Prop} {Q:Exit->Act->World->Prop},
  (∀e st g a w,Qa e st->SR N ds w0 g0 h0 st g a w->Q e.real a w)->∀{st:St} {g:Gh} {a:Act} {w:World},SR N ds w0 g0 h0 st g a w->To cx c Qa st->c.wpIn (KK ro) 0 P Q a w:=by
 intro c
 induction c with
 |skip=>intro _ Qa Q hQ st g a w hS hk;exact wpIn_skip (hQ .normal _ _ _ _ hk hS)
 |label l=>intro _ Qa Q hQ st g a w hS hk;exact wpIn_label (hQ .normal _ _ _ _ hk hS)
 |exit id=>intro _ Qa Q hQ st g a w hS hk;exact wpIn_exit (hQ (.exit id) _ _ _ _ hk hS)
 |ret=>intro _ Qa Q hQ st g a w hS hk;exact wpIn_ret (hQ .ret _ _ _ _ hk hS)
 |region id ops dr=>
  intro hc Qa Q hQ st g a w hS hk;have hd:∀o∈ops.toList,∀i,o.dst=some i->i<N:=fun o ho i hi=>by
   have:=(Bd.1 hc) o ho
   simpa[xJ,hi]using this
  have go:∀(st:St) (g:Gh) (hS:SR N ds w0 g0 h0 st g a w) (wM : Cx),wM.P=P->CI P wM.T->wM.yp=cx.yp->NK wM ops dr st (Qa .normal)->(Code.region id ops dr).wpIn (KK ro) 0 P Q a w:=by
   intro st g hS wM hP hT hy hk;have hY:∀l σ h g w,EO σ=true->D7 w0 g0 h0 h g w->Le h0 g0 w0 h g w->wM.yp l σ (DX σ g) w:=by rw[hy];exact hY
   unfold NK at hk;split at hk
   .exact wpIn_region_list (Yt hP hT hY (fun EF g' a' w' q1 q2=>hQ .normal _ _ _ _ q1 q2) ops.toList hd hS hk)
   .obtain⟨_,FT,hk⟩:=ic hk;obtain⟨i1,i2⟩:=hS.inv.heapEq (w':={ w with drawn:=w.drawn+1 }) ⟨rfl,rfl,rfl⟩ rfl;have UT : SR N ds w0 g0 h0 st g a { w with drawn:=w.drawn+1 }:=⟨i1,hS.le.trans i2,hS.dfs,hS.size,fun i=>(hS.slots i).le i2⟩;exact wpIn_region_any hm (Yn hP hT hY (fun EF g' a' w' q1 q2=>hQ .normal _ _ _ _ q1 q2) (fun j o ho=>hd o (by simpa using Array.mem_of_getElem? ho)) _ _ UT hk)
  have xT:∀(st:St) (g:Gh) (hS:SR N ds w0 g0 h0 st g a w),(match cx.pl.dyn with | []=>NK cx ops dr st (Qa .normal) | _=>∃n,NK { cx with nid:=n } ops dr st (Qa .normal))->(Code.region id ops dr).wpIn (KK ro) 0 P Q a w:=by
   intro st g hS hk;split at hk
   .exact go st g hS cx hP hT rfl hk
   .obtain⟨n,hk⟩:=hk;exact go st g hS { cx with nid:=n } hP hT rfl hk
  unfold To xI at hk;split at hk
  .split at hk
   .split at hk
    .split at hk
     .obtain⟨h',g',UT,s,h1,h2⟩:=rS hS hk;exact xT s.st _ (UT.weaken hE h1) h2
     .obtain⟨h',g',UT,s,h1,h2⟩:=tJ hS hk;exact xT s.st _ (UT.weaken hE h1) h2
    .obtain⟨EF,g',UT,s,h1,h2⟩:=tM hS hk;exact xT s.st _ (UT.weaken hE h1) h2
   .obtain⟨h',g',UT,s,h1,h2⟩:=tR hS hk;exact xT s.st _ (UT.weaken hE h1) h2
  .exact xT st _ hS hk
 |seq x y ihx ihy=>
  intro hc Qa Q hQ st g a w hS hk;simp only[EX,Af]at hc;refine wpIn_seq (ihx hc.1 (Qa:=fun e EF=>match e with | .normal=>To cx y Qa EF | e=>Qa e EF) (fun e st g a w q hS=>?_) hS hk);cases e with
  |normal=>exact ihy hc.2 hQ hS q
  |exit id=>exact hQ (.exit id) _ _ _ _ q hS
  |ret=>exact hQ .ret _ _ _ _ q hS
 |cond c x y ihx ihy=>
  intro hc Qa Q hQ st g a w hS hk;simp only[EX,Af]at hc;have hr:=hS.eval c;unfold To at hk;generalize hx:ev st.t c=v at hk hr;split at hk
  .exact wpIn_cond_true hr.v_eq (ihx hc.1 hQ hS hk)
  .exact wpIn_cond_false hr.v_eq (ihy hc.2 hQ hS hk)
  .exact hk.elim
 |block id c ih=>
  intro hc Qa Q hQ st g a w hS hk;refine wpIn_block (ih hc (Qa:=fun e EF=>match e with | .exit j=>(bif Nat.beq j id then Qa .normal EF else Qa (.exit j) EF) | e=>Qa e EF) (fun e st g a w q hS=>?_) hS hk);cases e with
  |normal=>exact hQ .normal _ _ _ _ q hS
  |ret=>exact hQ .ret _ _ _ _ q hS
  |exit j=>
   show(if j=id then Q .normal a w else Q (.exit j) a w);dsimp only at q
   by_cases e:j=id
   .rw[Al e];rw[e,Dq,KT]at q;exact hQ .normal _ _ _ _ q hS
   .rw[Aj e];rw[Df e,Ey]at q;exact hQ (.exit j) _ _ _ _ q hS
 |loop c ih=>
  intro hc Qa Q hQ st g a w hS hk;obtain⟨α,I,μ,⟨x,hx⟩,yf⟩:=hk;refine TC (fun n a w=>∃x g,μ x=n/\SR N ds w0 g0 h0 (I x).st g a w) (μ x) ⟨x,g,rfl,hS.weaken hE hx⟩ ?_
  rintro n a w ⟨x,g,rfl,hS⟩
  refine ih hc (Qa:=fun e EF=>match e with | .normal=>∃y,μ y<μ x/\St.le cx EF (I y) | e=>Qa e EF) (fun e st g a w q hS=>?_) hS (yf x);cases e with
  |normal=>
   obtain⟨y,q1,q2⟩:=q;exact⟨μ y,q1,y,g,rfl,hS.weaken hE q2⟩
  |exit id=>exact hQ (.exit id) _ _ _ _ q hS
  |ret=>exact hQ .ret _ _ _ _ q hS
 |_=>intro _ Qa Q hQ st g a w hS hk;exact hk.elim
end
section
variable {P:Program}{N:Nat}{ds:List Deferred}{w0:World}{g0:Gh}{h0:Nat->HO}{st:St}{g:Gh}{a:Act}{w:World}
theorem bn{T:Ha}(hT:CI P T){h:Nat->HO}(ho:∀r,EC g w (AQ h) r (h r)){t:Nat}{p:AV}{vp:Value}(hp:BS g w (AQ h) p vp)(hk:IZ T h t p K) :
  ∃ad,(asAddr vp).run P w=.ok ad w/\BU P h g w (loadVar t ad) K:=by
 obtain⟨x,av,h1,h2,h3⟩:=XI ho hT hp hk;have fin:∀b off,vp=.pointer (some ⟨b,off,none⟩)->∃ad,(asAddr vp).run P w=.ok ad w/\BU P h g w (loadVar t ad) K:=by
  rintro b off rfl
  refine⟨⟨b,off,none⟩,by simp[asAddr],x,av,?_,h2,h3⟩;simpa[Instr.loadAt,Instr.sureAddr]using h1
 unfold IZ at hk;split at hk
 .cases hp;exact fin _ _ rfl
 .cases hp;exact fin _ _ rfl
 .cases hp;exact fin _ _ rfl
 .exact hk.elim
def eD(tmps:Array Value):ResultVar->Sem Value
 |.tmp t=>pure (tmps.getD t undef)
 |.cell ad t=>do loadVar t (<-asAddr (tmps.getD ad undef))
theorem Pm(fn:Func)(tmps:Array Value):results fn tmps=(do
 let vs <-fn.results.mapM (eD tmps)
 pure (if h:vs.size=1 then vs[0]else .tuple vs)):=rfl
theorem Zf{cx:Cx}(hT:CI P cx.T)(hS:SR N ds w0 g0 h0 st g a w):∀(rs:List ResultVar) {K:List AV->Prop},rl cx.T st rs K ->
  ∃l vs,K l/\(rs.mapM (eD a.tmps)).run P w=.ok vs w/\vs.length=l.length/\vs.length=rs.length /\
   ∀(i:Nat) (av:AV) (x:Value),l[i]?=some av->vs[i]?=some x->BS g w FK av x
 | [],K,hk=>⟨[],[],hk,by simp,rfl,rfl,fun i av x h=>by simp at h⟩
 |.tmp t::r,K,hk=>by
  obtain⟨l,vs,h1,h2,h3,h4,h5⟩:=Zf hT hS r hk;refine⟨_,a.tmps.getD t undef::vs,h1,?_,by simp[h3],by simp[h4],fun i av x q1 q2=>?_⟩
  .rw[Lw];simp only[eD,Sem.run_bind,Sem.run_pure,Result.andThen_ok,h2]
  .cases i with
   |zero=>
    simp only[Bf,BB]at q1 q2;subst q1;subst q2;exact BS.str hS.inv.objs (hS.slots t)
   |succ i=>exact h5 i av x (by simpa using q1) (by simpa using q2)
 |.cell ad t::r,K,hk=>by
  obtain⟨addr,e1,x0,av0,e2,hk',e4⟩:=bn hT hS.inv.objs (hS.slots ad) hk;obtain⟨l,vs,h1,h2,h3,h4,h5⟩:=Zf hT hS r hk';refine⟨_,x0::vs,h1,?_,by simp[h3],by simp[h4],fun i av x q1 q2=>?_⟩
  .rw[Lw];simp only[eD,Sem.run_bind,Sem.run_pure,Result.andThen_ok,h2,e1,e2]
  .cases i with
   |zero=>
    simp only[Bf,BB]at q1 q2;subst q1;subst q2;exact BS.str hS.inv.objs e4
   |succ i=>exact h5 i av x (by simpa using q1) (by simpa using q2)
theorem rk{cx:Cx}(hT:CI P cx.T)(hS:SR N ds w0 g0 h0 st g a w)(hk:rj cx st fn.results.toList K) :
  ∃g' r v h',K r/\(results fn a.tmps).run P w=.ok v w/\D7 w0 g0 h0 h' g' w/\Le h0 g0 w0 h' g' w/\BS g' w FK r v:=by
 obtain⟨g',i1,i2⟩:=NS cx.pl.fin hS.inv;have UT : SR N ds w0 g0 h0 ⟨st.t,Qq st.h cx.pl.fin⟩ g' a w:=⟨i1,hS.le.trans i2,hS.dfs,hS.size,fun i=>(hS.slots i).le i2⟩;obtain⟨l,vs,h1,h2,h3,h4,h5⟩:=Zf hT UT _ hk;have C3:(results fn a.tmps).run P w=.ok (if h:vs.toArray.size=1 then vs.toArray[0]else .tuple vs.toArray) w:=by
  rw[Pm,show fn.results=fn.results.toList.toArray by simp,List.mapM_toArray];simp only[Sem.run_bind,Sem.run_map,h2,Result.andThen_ok,Sem.run_pure]
 refine⟨g',?_⟩
 match l,vs,h1,h3,h5,C3 with
 | [v],[x],h1,h3,h5,C3=>exact⟨v,x,_,h1,by simpa using C3,i1,UT.le,h5 0 v x rfl rfl⟩
 | [],vs,h1,h3,h5,C3=>
  have:vs=[]:=AP h3
  subst this;exact⟨.tup [],.tuple #[],_,h1,by simpa using C3,i1,UT.le,.tup _ _ _ rfl fun i av x q=>by simp at q⟩
 |v::v' :: l,vs,h1,h3,h5,C3=>
  refine⟨.tup (v::v' :: l),.tuple vs.toArray,_,h1,?_,i1,UT.le,.tup _ _ _ (by simpa using h3) fun i av x q1 q2=>h5 i av x q1 (by simpa using q2)⟩;rw[C3]
  have:vs.toArray.size≠1:=by simp[h3]
  simp only[this,dif_neg,not_false_eq_true]
theorem D7.toFree(hI:D7 w0 g0 Ae st.h g w):D7 w0 g0 Ae Ae g w:=
 ⟨hI.os,hI.tape,hI.output,hI.size,hI.frame,hI.slt,fun _=>trivial,fun _ _ _ h=>h.elim,fun _ _ h=>h.elim,hI.sg,hI.glob⟩
theorem Qc{U:Nat->Prop}{n:Nat}:∀{args:List AV} {vals:List Value},vals.length=args.length->(∀(i:Nat) (av:AV) (x:Value),args[i]?=some av->vals[i]?=some x->BS g w U av x) ->
  ∀i,BS g w U (Qb args i) ((vals++List.replicate n undef).getD i undef)
 | [],[],_,_,i=>by
  have:(([]:List Value)++List.replicate n undef).getD i undef=undef:=by
   rw[F1,B9,List.getElem?_replicate];split<;>rfl
  rw[this];exact .v _ _
 | [],_::_,h,_,_=>by simp at h
 |_::_,[],h,_,_=>by simp at h
 |x::l,v::vs,h,hr,i=>by
  cases i with
  |zero=>exact hr 0 x v rfl rfl
  |succ i=>
   have:=Qc (n:=n) (args:=l) (vals:=vs) (by simpa using h) (fun i av x q1 q2=>hr (i+1) av x (by simpa using q1) (by simpa using q2)) i
   simpa[Qb]using this
theorem kW {f : Nat}{args : List AV}{Q : AV -> Prop}(hP : cx.P = P)(hT : CI P cx.T)(hm : P.follows .mixedOrders = true)(hx : cx.ext = false)(hf : P.funcs[f]? = some fn)(hn : (fn.name == "runtime.NumGoroutine") = false)(hb:fn.body=some c)(hN:args.length<=fn.ntmps)(hc:EX fn.ntmps c=true)(hk:To cx c (uk cx fn.results.toList Q) ⟨Qb args,Ae⟩)(hY:∀l σ g w,cx.yp l σ g w:=by exact fun _ _ _ _=>trivial):Ba P f args Ae fun r h'=>h'=Ae/\Q r:=by
 refine⟨⟨fn,hf,hn,by simp[hb]⟩,fun g w vals hs hv hI=>calls_of_wp hf hb ?_⟩;have hU:AQ Ae=FK:=by funext i;unfold AQ FK Ae;simp
 have hS:SR fn.ntmps [] w g Ae ⟨Qb args,Ae⟩ g { tmps:=vals++Array.replicate (fn.ntmps-vals.size) undef,defers:=[] } w:=by
  refine⟨hI,.refl _ _ _,rfl,by simp[hs];omega,fun i=>?_⟩
  have:=Qc (n:=fn.ntmps-vals.size) (args:=args) (vals:=vals.toList) (by simpa using hs) (fun i av x q1 q2=>hv i av x q1 (by simpa using q2)) i
  rw[CG,<-A4];rw[B9]at this;simpa using this
 refine wpIn_wide.1 (OR hP hT hm (by unfold MD;rw[hx];exact fun _=>rfl) (fun l σ _ _ w _ _ _=>hY l σ _ w) none c hc (fun e st g' a w' hk hS=>?_) hS hk);have out:rj cx st fn.results.toList Q->a.defers=[]/\∃v,(results fn a.tmps).run P w'=.ok v w'/\∃v' r h' g',(Ending.returned v:Ending)=.returned v'/\(h'=Ae/\Q r)/\BS g' w' (AQ h') r v'/\D7 w g Ae h' g' w'/\Le Ae g w h' g' w':=by
  intro hk;obtain⟨g2,r,v,h',q1,q2,q3,q4,q5⟩:=rk hT hS hk;exact⟨hS.dfs,v,q2,v,r,Ae,g2,rfl,⟨rfl,q1⟩,by rw[hU];exact q5,D7.toFree (st:=⟨st.t,h'⟩) q3,⟨fun i hi=>absurd rfl hi,fun i hi=>absurd rfl hi,q4.keeps⟩⟩
 cases e with
 |normal=>exact out hk
 |ret=>exact out hk
 |exit id=>exact hk.elim
theorem TU{cx:Cx}(hT:CI P cx.T)(hS:SR N ds w0 g0 h0 st g a w):∀(rs:List ResultVar) {K:List AV->Prop},rn cx.T st rs K ->
  ∃l vs,K l/\(rs.mapM (eD a.tmps)).run P w=.ok vs w/\vs.length=l.length/\vs.length=rs.length /\
   ∀(i:Nat) (av:AV) (x:Value),l[i]?=some av->vs[i]?=some x->BS g w (AQ st.h) av x
 | [],K,hk=>⟨[],[],hk,by simp,rfl,rfl,fun i av x h=>by simp at h⟩
 |.tmp t::r,K,hk=>by
  obtain⟨l,vs,h1,h2,h3,h4,h5⟩:=TU hT hS r hk;refine⟨_,a.tmps.getD t undef::vs,h1,?_,by simp[h3],by simp[h4],fun i av x q1 q2=>?_⟩
  .rw[Lw];simp only[eD,Sem.run_bind,Sem.run_pure,Result.andThen_ok,h2]
  .cases i with
   |zero=>
    simp only[Bf,BB]at q1 q2;subst q1;subst q2;exact hS.slots t
   |succ i=>exact h5 i av x (by simpa using q1) (by simpa using q2)
 |.cell ad t::r,K,hk=>by
  obtain⟨addr,e1,x0,av0,e2,hk',e4⟩:=bn hT hS.inv.objs (hS.slots ad) hk;obtain⟨l,vs,h1,h2,h3,h4,h5⟩:=TU hT hS r hk';refine⟨_,x0::vs,h1,?_,by simp[h3],by simp[h4],fun i av x q1 q2=>?_⟩
  .rw[Lw];simp only[eD,Sem.run_bind,Sem.run_pure,Result.andThen_ok,h2,e1,e2]
  .cases i with
   |zero=>
    simp only[Bf,BB]at q1 q2;subst q1;subst q2;exact e4
   |succ i=>exact h5 i av x (by simpa using q1) (by simpa using q2)
theorem G1{σ:JR}:∀{H0:List (Nat×HO)},Jj σ H0=true->∀i,Ap H0 Ae i≠.free->1000<=i/\i<2000/\CF σ i=some i
 | [],_,i,h=>absurd rfl h
 |(a,o)::r,hx,i,h=>by
  simp only[Jj,Af,Dt,Cv]at hx;obtain⟨⟨⟨h1,h2⟩,h3⟩,h4⟩:=hx
  by_cases e:i=a
  .subst e;refine⟨h1,h2,?_⟩;split at h3
   .rename_i j e;rw[e,AL h3]
   .cases h3
  .unfold Ap at h;simp only[Df e,Ey]at h;exact G1 h4 i h
theorem Qd{H0:List (Nat×HO)}{σ:JR}(hσ:Ht σ=true)(hx:Jj σ H0=true){h:Nat->HO}(hI:D7 w0 g0 (Ap H0 Ae) h g w)(hL:Le (Ap H0 Ae) g0 w0 h g w) :
  LB (CF σ) h (F4 σ h) g (DX σ g) w/\D7 w0 g0 (Ap H0 Ae) (F4 σ h) (DX σ g) w/\Le (Ap H0 Ae) g0 w0 (F4 σ h) (DX σ g) w:=by
 have inv:=Y5 hσ;have FN:∀j,F4 σ h j=match IE σ j with | some i=>(h i).ren (CF σ) h | none=>.free:=QS _ _ σ
 have hR:LB (CF σ) h (F4 σ h) g (DX σ g) w:=by
  refine⟨fun r r' hr hu=>?_,fun b o=>Sr,hI.objs⟩;have hb:=(inv r r').1 hr;refine⟨by simp[DX,hb],by simp[DX,hb],by simp[DX,hb],by simp[DX,hb],?_⟩;unfold AQ;rw[FN,hb];exact(NA _ _ _).2 hu
 have Km:∀j,(F4 σ h j).live->∃i,IE σ j=some i/\(h i).live:=fun j hl=>by
  rw[FN]at hl;cases e:IE σ j with
  |none=>rw[e]at hl;exact hl.elim
  |some i=>rw[e]at hl;exact⟨i,rfl,(Ny _ _ _).1 hl⟩
 have Y1:∀j i,IE σ j=some i->(DX σ g).own j=g.own i:=fun j i e=>by simp[DX,e]
 refine⟨hR,⟨hI.os,hI.tape,hI.output,hI.size,hI.frame,hI.slt,fun j=>?_,fun j j' b hl RD e e'=>?_,fun j b hl e=>?_,hI.sg,hI.glob⟩,⟨fun i hi=>?_,fun i hi=>?_,hL.keeps⟩⟩
 .rw[FN];cases e:IE σ j with
  |none=>trivial
  |some i=>
   by_cases hu:AQ h i
   .exact(hI.objs i).ren hR ((inv i j).2 e) hu
   .have:h i=.free:=B6.1 hu
    dsimp only;rw[this];trivial
 .obtain⟨i,e1,l1⟩:=Km j hl;obtain⟨i',e2,l2⟩:=Km j' RD;rw[Y1 j i e1]at e;rw[Y1 j' i' e2]at e';obtain rfl:=hI.inj i i' b l1 l2 e e'
  have:=(inv i j).2 e1
  rw[(inv i j').2 e2]at this;cases this;rfl
 .obtain⟨i,e1,l1⟩:=Km j hl;rw[Y1 j i e1]at e;exact hI.loc i b l1 e
 .obtain⟨_,_,hf⟩:=G1 hx i hi;have hb:=(inv i i).1 hf;have e1:(DX σ g).ρ i=g.ρ i/\(DX σ g).ln i=g.ln i/\(DX σ g).tk i=g.tk i:=by simp[DX,hb]
  obtain⟨k1,k2,k3,k4⟩:=hL.gh i hi;exact⟨e1.2.2.trans k1,by omega,fun t=>e1.1.trans (k3 t),fun l=>e1.1.trans (k4 ch)⟩
 .obtain⟨_,_,hf⟩:=G1 hx i hi;have hb:=(inv i i).1 hf;unfold AQ;rw[FN,hb];exact(NA _ _ _).2 (hL.us i hi)
theorem aL{f:Nat}{args:List AV}{H0:List (Nat×HO)}{Q:AV->(Nat->HO)->Prop}(hP:cx.P=P)(hT:CI P cx.T)(hm:P.follows .mixedOrders=true)(hx:cx.ext=true)(hf:P.funcs[f]?=some fn)(_hn : (fn.name == "runtime.NumGoroutine") = false)(hb : fn.body = some c)(hN : args.length <= fn.ntmps)(hc : EX fn.ntmps c = true)(hσ : (Ht σ && Jj σ H0) = true)(hk:To cx c (ar cx fn.results.toList σ Q) ⟨Qb args,Ap H0 Ae⟩){g:Gh}{w:World}{vals:Array Value}(hs:vals.size=args.length)(hv:∀(i:Nat) (av:AV) (x:Value),args[i]?=some av->vals[i]?=some x->BS g w (AQ (Ap H0 Ae)) av x)(hI:D7 w g (Ap H0 Ae) (Ap H0 Ae) g w)(hY:∀l σ h' g' w',EO σ=true->D7 w g (Ap H0 Ae) h' g' w'->Le (Ap H0 Ae) g w h' g' w'->cx.yp l σ (DX σ g') w') :
  Calls P f vals w fun e w'=>∃v r h' g',e=.returned v/\Q r h'/\BS g' w' (AQ h') r v/\D7 w g (Ap H0 Ae) h' g' w'/\Le (Ap H0 Ae) g w h' g' w':=by
 simp only[Af]at hσ;obtain⟨hσ,sW⟩:=hσ;refine calls_of_wp hf hb ?_;have hS:SR fn.ntmps [] w g (Ap H0 Ae) ⟨Qb args,Ap H0 Ae⟩ g { tmps:=vals++Array.replicate (fn.ntmps-vals.size) undef,defers:=[] } w:=by
  refine⟨hI,.refl _ _ _,rfl,by simp[hs];omega,fun i=>?_⟩
  have:=Qc (n:=fn.ntmps-vals.size) (args:=args) (vals:=vals.toList) (by simpa using hs) (fun i av x q1 q2=>hv i av x q1 (by simpa using q2)) i
  rw[CG,<-A4];rw[B9]at this;simpa using this
 refine wpIn_wide.1 (OR hP hT hm (by unfold MD;rw[hx];exact fun i hi=>⟨(G1 sW i hi).1,(G1 sW i hi).2.1⟩) hY none c hc (fun e st g' a w' hk hS=>?_) hS hk);have out:jL cx st fn.results.toList σ Q->a.defers=[]/\∃v,(results fn a.tmps).run P w'=.ok v w'/\∃v' r h' g',(Ending.returned v:Ending)=.returned v'/\Q r h'/\BS g' w' (AQ h') r v'/\D7 w g (Ap H0 Ae) h' g' w'/\Le (Ap H0 Ae) g w h' g' w':=by
  intro hk;obtain⟨g2,i1,i2⟩:=NS cx.pl.fin hS.inv;have UT : SR fn.ntmps [] w g (Ap H0 Ae) ⟨st.t,Qq st.h cx.pl.fin⟩ g2 a w':=⟨i1,hS.le.trans i2,hS.dfs,hS.size,fun i=>(hS.slots i).le i2⟩;obtain⟨l,vs,h1,h2,h3,h4,h5⟩:=TU hT UT _ hk;obtain⟨hR,j1,j2⟩:=Qd hσ sW i1 UT.le;have C3:(results fn a.tmps).run P w'=.ok (if h:vs.toArray.size=1 then vs.toArray[0]else .tuple vs.toArray) w':=by
   rw[Pm,show fn.results=fn.results.toList.toArray by simp,List.mapM_toArray];simp only[Sem.run_bind,Sem.run_map,h2,Result.andThen_ok,Sem.run_pure]
  refine⟨hS.dfs,?_⟩
  match l,vs,h1,h3,h5,C3 with
  | [v],[x],h1,h3,h5,C3=>exact⟨x,by simpa using C3,x,_,_,_,rfl,h1,(h5 0 v x rfl rfl).ren hR,j1,j2⟩
  | [],vs,h1,h3,h5,C3=>
   have:vs=[]:=AP h3
   subst this;exact⟨.tuple #[],by simpa using C3,.tuple #[],_,_,_,rfl,h1,BS.ren hR (.tup _ [] _ rfl fun i av x q=>by simp at q),j1,j2⟩
  |v::v' :: l,vs,h1,h3,h5,C3=>
   refine⟨.tuple vs.toArray,?_,.tuple vs.toArray,_,_,_,rfl,h1,BS.ren hR (.tup _ _ _ (by simpa using h3) fun i av x q1 q2=>h5 i av x q1 (by simpa using q2)),j1,j2⟩;rw[C3]
   have:vs.toArray.size≠1:=by simp[h3]
   simp only[this,dif_neg,not_false_eq_true]
 cases e with
 |normal=>exact out hk
 |ret=>exact out hk
 |exit id=>exact hk.elim
theorem mf{f:Nat}{args:List AV}{H0:List (Nat×HO)}{Q:AV->(Nat->HO)->Prop}(hP:cx.P=P)(hT:CI P cx.T)(hm:P.follows .mixedOrders=true)(hx:cx.ext=true)(hf:P.funcs[f]?=some fn)(hn : (fn.name == "runtime.NumGoroutine") = false)(hb : fn.body = some c)(hN : args.length <= fn.ntmps)(hc : EX fn.ntmps c = true)(hσ : (Ht σ && Jj σ H0) = true)(hk:To cx c (ar cx fn.results.toList σ Q) ⟨Qb args,Ap H0 Ae⟩)(hY:∀l σ g w,cx.yp l σ g w:=by exact fun _ _ _ _=>trivial):Ba P f args (Ap H0 Ae) Q:=
 ⟨⟨fn,hf,hn,by simp[hb]⟩,fun g w vals hs hv hI=>aL cx σ hP hT hm hx hf hn hb hN hc hσ hk hs hv hI (fun l σ _ _ w _ _ _=>hY l σ _ w)⟩
end
def CV(r r' : AV):Prop:=∀(g:Gh) (w:World) (U:Nat->Prop) (x:Value),BS g w U r x->BS g w U r' x
theorem CV.refl(r:AV):CV r r:=fun _ _ _ _ h=>h
theorem CV.of_eq{r r' : AV}(h:r=r'):CV r r':=h▸.refl r
theorem CV.trans{a b c:AV}(h:CV a b)(k:CV b c):CV a c:=fun g w U x r=>k g w U x (h g w U x r)
theorem CV.nil:CV nzA (.slice .none []):=fun _ _ _ _ h=>by cases h;exact .snil _ _ _
def Lb:List AV->List AV->Prop
 | [],[]=>True
 |a::r,b::s=>CV a b/\Lb r s
 |_,_=>False
theorem Lb.refl:∀l:List AV,Lb l l
 | []=>trivial
 |a::l=>⟨.refl a,Lb.refl l⟩
theorem Lb.len:∀{l l' : List AV},Lb l l'->l'.length=l.length
 | [],[],_=>rfl
 |_::_,_::_,h=>Aa (·+1) h.2.len
 | [],_::_,h=>h.elim
 |_::_,[],h=>h.elim
theorem Lb.get:∀{l l' : List AV},Lb l l'->∀(i:Nat) (b:AV),l'[i]?=some b->∃a,l[i]?=some a/\CV a b
 | [],[],_,i,b,h=>by simp at h
 |a::r,b::s,hs,i,c,h=>by
  cases i with
  |zero=>simp only[Bf,BB]at h;subst h;exact⟨a,rfl,hs.1⟩
  |succ i=>exact Lb.get hs.2 i c (by simpa using h)
 | [],_::_,h,_,_,_=>h.elim
 |_::_,[],h,_,_,_=>h.elim
theorem CV.tup{l l' : List AV}(h:Lb l l'):CV (.tup l) (.tup l'):=fun g w U x r=>by
 cases r with
 |tup _ _ vs hs hr=>
  refine .tup _ _ vs (by rw[hs,h.len]) fun i av x q1 q2=>?_;obtain⟨a,e1,e2⟩:=h.get i av q1;exact e2 _ _ _ _ (hr i a x e1 q2)
theorem CV.agg{l l' : List AV}(h:Lb l l'):CV (.agg l) (.agg l'):=fun g w U x r=>by
 cases r with
 |agg _ _ vs hs h1 hr=>
  refine .agg _ _ vs (by rw[hs,h.len]) h1 fun i av x q1 q2=>?_;obtain⟨a,e1,e2⟩:=h.get i av q1;exact e2 _ _ _ _ (hr i a x e1 q2)
def cE:List (List AV)->List (List AV)->Prop
 | [],[]=>True
 |a::r,b::s=>Lb a b/\cE r s
 |_,_=>False
theorem cE.len:∀{l l' : List (List AV)},cE l l'->l'.length=l.length
 | [],[],_=>rfl
 |_::_,_::_,h=>Aa (·+1) h.2.len
 | [],_::_,h=>h.elim
 |_::_,[],h=>h.elim
theorem cE.get:∀{l l' : List (List AV)},cE l l'->∀(i:Nat) (b:List AV),l'[i]?=some b->∃a,l[i]?=some a/\Lb a b
 | [],[],_,i,b,h=>by simp at h
 |a::r,b::s,hs,i,c,h=>by
  cases i with
  |zero=>simp only[Bf,BB]at h;subst h;exact⟨a,rfl,hs.1⟩
  |succ i=>exact cE.get hs.2 i c (by simpa using h)
 | [],_::_,h,_,_,_=>h.elim
 |_::_,[],h,_,_,_=>h.elim
theorem CV.slice{l l' : List (List AV)}(h:cE l l'):CV (.slice .none l) (.slice .none l'):=fun g w U x r=>by
 have CQ:=h.len;cases r with
 |snil _ a cap=>
  have:l'=[]:=AP (by rw[CQ];rfl)
  subst this;exact .snil _ a cap
 |slice _ _ b off sz cap val hc hl DY EE=>
  rw[<-CQ];refine .slice _ _ b off sz cap val (by rw[CQ];exact hc) (fun i cs hi=>?_) (fun i cs j av hi hj=>?_) (fun i cs j av hi hj=>?_)
  .obtain⟨a,e1,e2⟩:=h.get i cs hi;rw[e2.len];exact hl i a e1
  .obtain⟨a,e1,e2⟩:=h.get i cs hi;obtain⟨c,f1,f2⟩:=e2.get j av hj;exact DY i a j c e1 f1
  .obtain⟨a,e1,e2⟩:=h.get i cs hi;obtain⟨c,f1,f2⟩:=e2.get j av hj;exact f2 _ _ _ _ (EE i a j c e1 f1)
section
variable {P:Program}
theorem Ba.mono{f:Nat}{args:List AV}{h0:Nat->HO}{Q Q' : AV->(Nat->HO)->Prop}(h:Ba P f args h0 Q)(hq:∀r h',Q r h'->∃r',CV r r'/\Q' r' h'):Ba P f args h0 Q':=
 ⟨h.1,fun g w vals q1 q2 q3=>(h.2 g w vals q1 q2 q3).mono fun _ _ ⟨v,r,h',g',e1,e2,e3,rest⟩=>
  let ⟨r',s,k⟩:=hq r h' e2
  ⟨v,r',h',g',e1,k,s _ _ _ _ e3,rest⟩⟩
theorem Ba.args{args args' : List AV}{h0:Nat->HO}{Q:AV->(Nat->HO)->Prop}(h:Ba P f args h0 Q)(hs:Lb args' args):Ba P f args' h0 Q:=
 ⟨h.1,fun g w vals q1 q2 q3=>h.2 g w vals (by rw[q1,hs.len]) (fun i av x e1 e2=>by
  obtain⟨a,f1,f2⟩:=hs.get i av e1;exact f2 _ _ _ _ (q2 i a x f1 e2)) q3⟩
theorem Jd.args{f:Nat}{args args' : List AV}{res:AV}(h:Jd P f args res)(hs:Lb args' args):Jd P f args' res:=Ba.args h hs
theorem Gd {args : List AV}{res : AV}(hP : cx.P = P)(hT : CI P cx.T)(hm : P.follows .mixedOrders = true)(hx : cx.ext = false)(hf : P.funcs[f]? = some fn)(hn : (fn.name == "runtime.NumGoroutine") = false)(hb:fn.body=some c)(hN:args.length<=fn.ntmps)(hc:EX fn.ntmps c=true)(hk:To cx c (uk cx fn.results.toList fun r=>CV r res) ⟨Qb args,Ae⟩)(hY:∀l σ g w,cx.yp l σ g w:=by exact fun _ _ _ _=>trivial):Jd P f args res:=
 (kW cx hP hT hm hx hf hn hb hN hc hk hY).mono fun _ _ ⟨e1,e2⟩=>⟨res,e2,rfl,e1⟩
end
end Go.Eng
namespace Go.Eng
open Go.ChangeShapes Go.WideShapes
variable {w:World}{g:Gh}
def po(w:World):Gh:=⟨fun _=>undef,fun _=>0,fun _=>false,fun _=>none,fun b _=>b<w.heap.size⟩
theorem YF{b o:Nat}{v:Value}(h:w.cell? ⟨b,o,none⟩=some v):b<w.heap.size:=by
 unfold World.cell? at h;cases hh:w.heap[b]? with
 |none=>simp[hh]at h
 |some x=>exact(Bv.1 hh).1
theorem zf(hg:∃m,w.cell? ⟨0,0,none⟩=some (.int .i64 m))(ht:∀x∈me,x.1<w.heap.size/\w.cell? ⟨x.1,x.2.1,none⟩=x.2.2):D7 w (po w) Ae Ae (po w) w where
 os:=rfl
 tape:=rfl
 output:=rfl
 size:=Ak _
 frame:=fun _ _ _=>rfl
 slt:=fun _ _ h=>h
 objs:=fun _=>trivial
 inj:=fun _ _ _ h=>h.elim
 loc:=fun _ _ h=>h.elim
 sg:=fun _ _ h=>.inl h
 glob:=⟨⟨by obtain⟨m,h⟩:=hg;exact YF h,hg⟩,fun x hx=>ht x hx⟩
theorem Vm{α β:Type}{f:α->Option β}:∀{l:List α} {r:List β},l.mapM f=some r->r.length=l.length/\∀(i:Nat) x,l[i]?=some x->∃y,r[i]?=some y/\f x=some y
 | [],r,h=>by simp at h;subst h;simp
 |a::l,r,h=>by
  rw[Lw]at h;cases ha:f a with
  |none=>simp[ha]at h
  |some b=>
   cases hl:l.mapM f with
   |none=>simp[ha,hl]at h
   |some s=>
    simp[ha,hl]at h;subst h;obtain⟨h1,h2⟩:=Vm hl;refine⟨by simp[h1],fun i x hx=>?_⟩;cases i with
    |zero=>simp at hx;subst hx;exact⟨b,by simp,ha⟩
    |succ i=>obtain⟨y,h3,h4⟩:=h2 i x (by simpa using hx);exact⟨y,by simpa using h3,h4⟩
theorem Xl{base:Nat}{a:Addr}{n:Nat}{cs:List Value}(h:w.cells? base a n=some cs) :
  cs.length=n/\(0<n->a.spot=none)/\∀j,j<n->∃v,cs[j]?=some v/\w.cell? ⟨a.block,a.off+j,none⟩=some v:=by
 unfold World.cells? at h;split at h
 .obtain⟨h1,h2⟩:=Vm h;have one:∀j,j<n->∃v,cs[j]?=some v/\w.cell? (a.add j)=some v:=fun j hj=>by
   obtain⟨v,e1,e2⟩:=h2 j j (by simp[hj]);exact⟨v,e1,e2⟩
  have y6:0<n->a.spot=none:=fun hn=>by
   obtain⟨v,_,hv⟩:=one 0 hn;simp only[Addr.add,Al]at hv;cases hs:a.spot with
   |none=>rfl
   |some s=>
    simp only[World.cell?]at hv;split at hv
    .simp[hs]at hv
    .cases hv
  refine⟨by simpa using h1,y6,fun j hj=>?_⟩;obtain⟨v,e1,e2⟩:=one j hj;refine⟨v,e1,?_⟩;have hs:=y6 ch;have e:a.add j=⟨a.block,a.off+j,none⟩:=by
   unfold Addr.add;split
   .rename_i h0;subst h0;cases a;simp_all
   .rfl
  rw[<-e];exact e2
 .cases h
section
variable {H:Type}{enc:TypeId×Value->H}{P:Program}{w:World}{bk:DataW H->Nat}{N:Nat}
structure Yh(bk:DataW H->Nat):Prop where
 slice:∀es sp,es.length<=bk (.slice es sp)/\∀d∈es,bk d<=bk (.slice es sp)
 agg:∀ps,∀d∈ps,bk d<=bk (.agg ps)
 str:∀b:List UInt8,b.length<=bk (.lit (.string b))
def LA(enc:TypeId×Value->H)(P:Program)(w:World)(bk:DataW H->Nat)(N:Nat)(t:TypeId){α:Type}(e:α->List AV)(ok:α->Prop):Prop:=
 ∀(fuel:Nat) (cs:List Value) (d:DataW H) (ps:List MemPlace),DataW.trod enc P w 0 (fun _=>true) true fuel t cs=some (d,ps)->bk d<=N->∃x:α,CY (po w) w FK (e x) cs/\ok x
theorem Sq{U:Nat->Prop}{a:AV}{v:Value}(h1:v.oneCell'=true)(h2:BS g w U a v):CY g w U [a] [v]:=by
 refine⟨rfl,fun x hx=>by simp at hx;subst hx;exact h1,fun i av x q1 q2=>?_⟩;cases i with
 |zero=>simp at q1 q2;subst q1;subst q2;exact h2
 |succ i=>simp at q1
theorem kD{U:Nat->Prop}{a b:List AV}{c d:List Value}(h:CY g w U a c)(k:CY g w U b d):CY g w U (a++b) (c++d):=by
 obtain⟨h1,h2,h3⟩:=h;obtain⟨k1,k2,k3⟩:=k;refine⟨by simp[h1,k1],fun x hx=>(AO.1 hx).elim (h2 x) (k2 x),fun i av x q1 q2=>?_⟩
 by_cases hi:i<a.length
 .rw[AZ hi]at q1;rw[AZ ch]at q2;exact h3 i av x q1 q2
 .rw[A0 ch]at q1;rw[A0 ch,h1]at q2;exact k3 _ av x q1 q2
theorem wE{U:Nat->Prop}:CY g w U [] []:=⟨rfl,(fun x hx=>by cases hx),fun i av x q1=>by simp at q1⟩
theorem RS{t:TypeId}{k:IntKind}(hu:P.underlying t=some (.int k)):LA enc P w bk N t (fun n:Int=>[AV.v (.int k n)]) (fun n=>k.min<=n/\n<=k.max):=by
 intro fuel cs d ps h _;cases fuel with
 |zero=>simp[DataW.trod]at h
 |succ fuel=>
  rw[DataW.trod_step]at h;unfold DataW.trodStep at h;rw[hu]at h;split at h<;>rename_i he<;>first | cases he | skip
  all_goals first | (split at h<;>first | cases h | skip) | cases h | skip
  rename_i n hc _;obtain⟨rfl,hw⟩:=hc;simp only[Lit.wf,Af,AC]at hw;exact⟨_,Sq rfl (.v _ _),hw⟩
theorem dX{t:TypeId}(hu:P.underlying t=some .bool):LA enc P w bk N t (fun b:Bool=>[AV.v (.bool b)]) (fun _=>True):=by
 intro fuel cs d ps h _;cases fuel with
 |zero=>simp[DataW.trod]at h
 |succ fuel=>
  rw[DataW.trod_step]at h;unfold DataW.trodStep at h;rw[hu]at h;split at h<;>rename_i he<;>first | cases he | skip
  all_goals first | cases h | skip
  exact⟨_,Sq rfl (.v _ _),trivial⟩
theorem Ze{t:TypeId}(hB:Yh bk)(hu:P.underlying t=some .string):LA enc P w bk N t (fun s:ByteArray=>[AV.v (.string s)]) (fun s=>s.size<=N):=by
 intro fuel cs d ps h hb;cases fuel with
 |zero=>simp[DataW.trod]at h
 |succ fuel=>
  rw[DataW.trod_step]at h;unfold DataW.trodStep at h;rw[hu]at h;split at h<;>rename_i he<;>first | cases he | skip
  all_goals first | (split at h<;>first | cases h | skip) | cases h | skip
  rename_i s hs;refine⟨s,Sq rfl (.v _ _),?_⟩
  have:=hB.str s.data.toList
  have e:s.data.toList.length=s.size:=by rw[Br];rfl
  omega
theorem FP{t e:TypeId}{α:Type}{E:α->List AV}{ok:α->Prop}{m:Nat}(hB:Yh bk)(hu:P.underlying t=some (.slice e))(hm:P.cellsOf e=m+1)(hE:∀x,(E x).length=m+1)(he:LA enc P w bk N e E ok) :
  LA enc P w bk N t (fun l:List α=>[AV.slice .none (l.map E)]) (fun l=>l.length<=N/\∀x∈l,ok x):=by
 intro fuel cs d ps h hb;cases fuel with
 |zero=>simp[DataW.trod]at h
 |succ fuel=>
  rw[DataW.trod_step]at h;unfold DataW.trodStep at h;rw[hu]at h;split at h<;>rename_i hq<;>first | cases hq | skip
  all_goals first | (cases h;done) | skip
  .cases h
   exact⟨[],Sq rfl (.snil _ _ _),Ax _,fun x hx=>by cases hx⟩
  .rename_i a len cap;simp only at h;split at h
   .rename_i hc;simp only[AS,Ua]at h;obtain⟨sv,hel,rest,_,hd⟩:=h;simp only[Gl]at hd;obtain⟨hd,_⟩:=hd;obtain⟨hl,FN⟩:=Vm hel;rw[GV]at hl;have hbs:=hB.slice (sv.map (·.1)) (rest.map (·.1));rw[hd]at hbs;rw[A8]at hbs;have one:∀i,i<len->∃(x:α) (vs:List Value),w.cells? 0 (a.add (i*P.cellsOf e)) (P.cellsOf e)=some vs/\CY (po w) w FK (E x) vs/\ok x:=fun i hi=>by
     obtain⟨y,hy,hf⟩:=FN i i (by simp[hi]);simp only[Ua]at hf;obtain⟨vs,hv,ht⟩:=hf;obtain⟨x,r1,r2⟩:=he fuel vs y.1 y.2 ht (AI (hbs.2 y.1 (Ai.2 ⟨y,Aw hy,rfl⟩)) hb);exact⟨x,vs,hv,r1,r2⟩
    have build:∀k,k<=len->∃l:List α,l.length=k/\∀(i:Nat) x,l[i]?=some x->∃vs:List Value,w.cells? 0 (a.add (i*P.cellsOf e)) (P.cellsOf e)=some vs/\CY (po w) w FK (E x) vs/\ok x:=fun k=>by
     induction k with
     |zero=>exact fun _=>⟨[],rfl,fun i x q=>by simp at q⟩
     |succ k ih=>
      intro hk;obtain⟨l,h1,h2⟩:=ih ch;obtain⟨x,hx⟩:=one k ch;refine⟨l++[x],by simp[h1],fun i y q=>?_⟩
      by_cases hi:i<l.length
      .rw[AZ hi]at q;exact h2 i y q
      .rw[A0 ch]at q
       have:i-l.length=0:=by
        cases hz:i-l.length with
        |zero=>rfl
        |succ z=>rw[hz]at q;simp at q
       rw[this]at q;simp only[Bf,BB]at q;subst q
       have:i=k:=by omega
       subst this;exact hx
    obtain⟨l,h1,h2⟩:=build len (Ak _);refine⟨l,Sq rfl ?_,by omega,fun x hx=>?_⟩
    .cases CQ:len with
     |zero=>
      have:l=[]:=AP ch
      subst this;exact .snil _ _ _
     |succ n=>
      have y6:a.spot=none:=by
       obtain⟨x,vs,hv,_⟩:=one 0 ch
       have:=(Xl hv).2.1 ch
       simpa[Addr.add]using this
      have ea:a=⟨a.block,a.off,none⟩:=by cases a;simp_all
      rw[<-CQ,<-h1,show l.length=(l.map E).length by simp,ea];have cell:∀(i:Nat) (c:List AV) (j:Nat) (av:AV),(l.map E)[i]?=some c->c[j]?=some av->∃v,w.cell? ⟨a.block,a.off+i*(m+1)+j,none⟩=some v/\v.oneCell'=true/\BS (po w) w FK av v:=by
       intro i c j av q1 q2;rw[AG,AS]at q1;obtain⟨x,q1,rfl⟩:=q1;obtain⟨vs,hv,hr,_⟩:=h2 i x q1;obtain⟨k1,_,k3⟩:=Xl hv;have hj:j<m+1:=by
        have:=(Av.1 q2).1
        rw[hE]at this;exact this
       obtain⟨v,e1,e2⟩:=k3 j ch;refine⟨v,?_,hr.2.1 v (Aw e1),hr.2.2 j av v q2 e1⟩;rw[<-e2,hm];unfold Addr.add;split
       .rename_i h0;rw[h0];simp
       .rfl
      refine .slice _ _ a.block a.off (m+1) cap (fun i j=>(w.cell? ⟨a.block,a.off+i*(m+1)+j,none⟩).getD undef) (by rw[A8];omega) (fun i c q=>?_) (fun i c j av q1 q2=>?_) (fun i c j av q1 q2=>?_)
      .rw[AG,AS]at q;obtain⟨x,_,rfl⟩:=q;exact hE x
      .obtain⟨v,e1,e2,_⟩:=cell i c j av q1 q2;exact⟨YF e1,by rw[e1];rfl,by rw[e1];exact e2⟩
      .obtain⟨v,e1,_,e3⟩:=cell i c j av q1 q2;rw[e1];exact e3
    .obtain⟨i,hi⟩:=Cp.1 hx;obtain⟨_,_,_,h⟩:=h2 i x hi;exact h
   .cases h
theorem N3{t e:TypeId}(hu:P.underlying t=some (.slice e)):LA enc P w bk N t (fun _:Unit=>[AV.junk]) (fun _=>True):=by
 intro fuel cs d ps h _;cases fuel with
 |zero=>simp[DataW.trod]at h
 |succ fuel=>
  rw[DataW.trod_step]at h;unfold DataW.trodStep at h;rw[hu]at h;split at h<;>rename_i hq<;>first | cases hq | skip
  all_goals first | (cases h;done) | skip
  all_goals exact⟨(),Sq rfl (.junk _ _),trivial⟩
theorem LA.to{t:TypeId}{α β:Type}{e:α->List AV}{ok:α->Prop}{e' : β->List AV}{zr : β->Prop}(h:LA enc P w bk N t e ok)(f:α->β)(hf:∀x,ok x->e' (f x)=e x/\zr (f x)):LA enc P w bk N t e' zr:=by
 intro fuel cs d ps k hb;obtain⟨x,h1,h2⟩:=h fuel cs d ps k hb;obtain⟨e1,e2⟩:=hf x h2;exact⟨f x,by rw[e1];exact h1,e2⟩
def Yl(enc:TypeId×Value->H)(P:Program)(w:World)(bk:DataW H->Nat)(N L:Nat)(l:List Field)(o:Nat){α:Type}(e:α->List AV)(ok:α->Prop):Prop:=
 ∀(fuel:Nat) (cs:List Value) (xs:List (DataW H×List MemPlace)),cs.length=L->l.mapM (fun f=>DataW.trod enc P w 0 (fun _=>true) true fuel f.type ((cs.drop f.offset).take (P.cellsOf f.type)))=some xs->(∀x∈xs,bk x.1<=N) ->
  ∃x:α,CY (po w) w FK (e x) (cs.drop o)/\ok x
theorem Fz{L:Nat}:Yl enc P w bk N L [] L (fun _:Unit=>[]) (fun _=>True):=by
 intro fuel cs xs hl _ _;refine⟨(),?_,trivial⟩;rw[Wq ch];exact wE
theorem BK{L o n:Nat}{f:Field}{l:List Field}{α β:Type}{e:α->List AV}{ok:α->Prop}{e' : β->List AV}{zr : β->Prop}(ho:f.offset=o)(hn:P.cellsOf f.type=n)(h:LA enc P w bk N f.type e ok)(k:Yl enc P w bk N L l (o+n) e' zr) :
  Yl enc P w bk N L (f::l) o (fun p:α×β=>e p.1++e' p.2) (fun p=>ok p.1/\zr p.2):=by
 intro fuel cs xs hl hx hb;rw[Lw]at hx;simp only[Option.bind_eq_bind,Ua]at hx;obtain⟨y,hy,ys,hys,pE⟩:=hx;simp only[Option.pure_def,BB]at pE;subst pE;obtain⟨x,r1,r2⟩:=h fuel _ y.1 y.2 hy (hb y (Ab ..));obtain⟨z,s1,s2⟩:=k fuel cs ys hl hys (fun q hq=>hb q (Ah _ hq));refine⟨(x,z),?_,r2,s2⟩;have e:cs.drop o=(cs.drop o).take n++cs.drop (o+n):=by rw[<-List.drop_drop,GF]
 rw[e];rw[ho,hn]at r1;exact kD r1 s1
theorem Et{t:TypeId}{L:Nat}{fs:Array Field}{α:Type}{e:α->List AV}{ok:α->Prop}(hB:Yh bk)(hu:P.underlying t=some (.struct fs))(hL:P.cellsOf t=L)(h:Yl enc P w bk N L fs.toList 0 e ok):LA enc P w bk N t e ok:=by
 intro fuel cs d ps k hb;cases fuel with
 |zero=>simp[DataW.trod]at k
 |succ fuel=>
  rw[DataW.trod_step]at k;unfold DataW.trodStep at k;rw[hu]at k
  change (if cs.length=P.cellsOf t then(fs.toList.mapM fun f=>DataW.trod enc P w 0 (fun _=>true) true fuel f.type ((cs.drop f.offset).take (P.cellsOf f.type))).map fun xs=>(DataW.agg (xs.map (·.1)),xs.flatMap (·.2))else none)=some (d,ps)at k
  split at k
  .rename_i hc;simp only[AS,Gl]at k;obtain⟨xs,hx,hd,_⟩:=k;have hba:=hB.agg (xs.map (·.1));rw[hd]at hba;obtain⟨x,r1,r2⟩:=h fuel cs xs ch hx (fun y hy=>AI (hba y.1 (Ai.2 ⟨y,hy,rfl⟩)) hb);exact⟨x,r1,r2⟩
  .cases k
theorem QM{t:TypeId}{α:Type}{e:α->AV}{ok:α->Prop}(h:LA enc P w bk N t (fun x=>[e x]) ok){v:Value}{d:DataW H}{p:List MemPlace}(hv:v.oneCell'=true)(k:DataW.Trod enc P w 0 (fun _=>true) true t v d p)(hb:bk d<=N) :
  ∃x,BS (po w) w FK (e x) v/\ok x:=by
 obtain⟨fuel,k⟩:=k;have ec:v.cells.toList=[v]:=by cases v<;>first | rfl | cases hv
 rw[ec]at k;obtain⟨x,r1,r2⟩:=h fuel _ d p k hb;exact⟨x,r1.2.2 0 _ _ rfl rfl,r2⟩
end
end Go.Eng
