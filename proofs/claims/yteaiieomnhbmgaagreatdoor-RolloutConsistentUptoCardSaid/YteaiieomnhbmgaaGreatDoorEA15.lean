/- Lemmas 15. -/
import Derived.Test.YteaiieomnhbmgaaGreatDoorEA14
import Derived.Deep.LoopGhost
import Derived.ReadAgain
import Derived.RowKit
namespace Go.Eng
variable {h:Nat->HO}{fn:Func}{c:Code}{U:Nat->Prop}{K:AV->Prop}{av:AV}{cs:List AV}{i:Nat}{w:World}{x:Value}{f:Nat}{g:Gh}(cx:Cx)(σ:JN)
theorem FA{r:Nat}(e:Tr h r=true):AS h r:=by
 unfold Tr at e;unfold AS;split at e
 .cases e
 .rename_i hh;exact hh
theorem BO.ids0(r:BO g w U av x)(e:ids0 h av=true):BO g w (AS h) av x:=by
 cases r with
 |v=>exact .v _ _
 |junk=>exact .junk _ _
 |snil=>exact .snil _ _ _
 |slice _ es b off sz cap val hc hl DT Ez=>exact .slice _ es b off sz cap val hc hl DT Ez
 |tok _ r sz es x hs hl hu ht hn hx=>exact .tok _ r sz es x ((BO.slice_none hs).up _) hl (FA e) ht hn hx
 |ver _ r sz v es x hs hl hu ht hn hx=>exact .ver _ r sz v es x ((BO.slice_none hs).up _) hl (FA e) ht hn hx
 |full _ sz es x hs hl hx=>exact .full _ sz es x ((BO.slice_none hs).up _) hl hx
 |msl _ r n a cap hu ht hn ha hx=>exact .msl _ r n a cap (FA e) ht hn ha hx
 |agg=>cases e
 |tup=>cases e
 |cptr _ cs b off val DT Ez=>exact .cptr _ cs b off val DT Ez
 |ref _ r off b hu ht hx=>exact .ref _ r off b (FA e) ht hx
 |eref _ r n sz i off b cap hu ht hn hx=>exact .eref _ r n sz i off b cap (FA e) ht hn hx
 |mref _ r b hu ht hx=>exact .mref _ r b (FA e) ht hx
 |cmap _ sh Cc b es ck hS hb hm hv=>exact .cmap _ sh Cc b es ck hS hb hm hv
 |clo=>cases e
theorem U4(e:aS h cs=true)(hi:cs[i]?=some av):ids0 h av=true:=by
 induction cs generalizing i with
 |nil=>simp at hi
 |cons c cs ih=>
  unfold aS at e;split at e
  .rename_i hc;cases i with
   |zero=>simp only[Be,Bz]at hi;exact hi▸hc
   |succ i=>exact ih e (by simpa using hi)
  .cases e
theorem mP(e:YX h cs=true)(hi:cs[i]?=some av):Ww h av=true:=by
 induction cs generalizing i with
 |nil=>simp at hi
 |cons c cs ih=>
  unfold YX at e;split at e
  .rename_i hc;cases i with
   |zero=>simp only[Be,Bz]at hi;exact hi▸hc
   |succ i=>exact ih e (by simpa using hi)
  .cases e
theorem ji{Cc:List (Value×AV)}(e:SI h Cc=true){kv:Value×AV}(hi:Cc[i]?=some kv):Ww h kv.2=true:=by
 induction Cc generalizing i with
 |nil=>simp at hi
 |cons c cs ih=>
  unfold SI at e;split at e
  .rename_i hc;cases i with
   |zero=>simp only[Be,Bz]at hi;exact hi▸hc
   |succ i=>exact ih e (by simpa using hi)
  .cases e
theorem BO.ids(r:BO g w U av x)(e:Ww h av=true):BO g w (AS h) av x:=by
 cases r with
 |agg _ cs vs hs h1 hr=>exact .agg _ cs vs hs h1 fun i av x q1 q2=>(hr i av x q1 q2).ids0 (U4 e q1)
 |tup _ cs vs hs hr=>exact .tup _ cs vs hs fun i av x q1 q2=>(hr i av x q1 q2).ids0 (U4 e q1)
 |clo _ f cs vs hs hr=>exact .clo _ f cs vs hs fun i av x q1 q2=>(hr i av x q1 q2).ids0 (U4 e q1)
 |v=>exact .v _ _
 |junk=>exact .junk _ _
 |snil=>exact .snil _ _ _
 |slice _ es b off sz cap val hc hl DT Ez=>exact .slice _ es b off sz cap val hc hl DT Ez
 |tok _ r sz es x hs hl hu ht hn hx=>exact .tok _ r sz es x ((BO.slice_none hs).up _) hl (FA e) ht hn hx
 |ver _ r sz v es x hs hl hu ht hn hx=>exact .ver _ r sz v es x ((BO.slice_none hs).up _) hl (FA e) ht hn hx
 |full _ sz es x hs hl hx=>exact .full _ sz es x ((BO.slice_none hs).up _) hl hx
 |msl _ r n a cap hu ht hn ha hx=>exact .msl _ r n a cap (FA e) ht hn ha hx
 |cptr _ cs b off val DT Ez=>exact .cptr _ cs b off val DT Ez
 |ref _ r off b hu ht hx=>exact .ref _ r off b (FA e) ht hx
 |eref _ r n sz i off b cap hu ht hn hx=>exact .eref _ r n sz i off b cap (FA e) ht hn hx
 |mref _ r b hu ht hx=>exact .mref _ r b (FA e) ht hx
 |cmap _ sh Cc b es ck hS hb hm hv=>exact .cmap _ sh Cc b es ck hS hb hm hv
theorem aZ{st:St}{h:Nat->HO}:∀{l:List (Nat×AV)},leT st h l->∀i,UC l i=.junk\/(st.t i=UC l i/\Ww h (UC l i)=true)
 | [],_,i=>.inl rfl
 |(j,a)::l,⟨h1,h2⟩,i=>by
  unfold UC
  by_cases e:i=j
  .subst e;simp only[Dp,KM];exact .inr h1
  .simp only[Dc e,Er];exact aZ h2 i
theorem aY{st:St}{h hb:Nat->HO}(hhb:∀j,hb j=.free\/(st.h j=hb j/\Ts h (hb j)=true)):∀{l:List (Nat×HO)},leH st h l->∀i,Ap l hb i=.free\/(st.h i=Ap l hb i/\Ts h (Ap l hb i)=true)
 | [],_,i=>hhb i
 |(j,a)::l,⟨h1,h2⟩,i=>by
  unfold Ap
  by_cases e:i=j
  .subst e;simp only[Dp,KM];exact .inr h1
  .simp only[Dc e,Er];exact aY hhb h2 i
def Mu(h0:Nat->HO):Prop:=match cx.ext with | false=>∀i,h0 i=.free | true=>∀i,h0 i≠.free->1000<=i/\i<2000
section
variable {P:Program}{N:Nat}{ds:List Deferred}{w0:World}{g0:Gh}{h0:Nat->HO}{st:St}{g:Gh}{a:Act}{w:World}{cx:Cx}
theorem SR.weaken(hE:Mu cx h0)(hS:SR N ds w0 g0 h0 st g a w){s:LS}(Ib:St.le cx st s):SR N ds w0 g0 h0 s.st g a w:=by
 obtain⟨h1,h2,h3,h4⟩:=Ib;have hT:=aZ h1;have hH:∀i,s.st.h i=.free\/(st.h i=s.st.h i/\Ts s.st.h (s.st.h i)=true):=aY h3 h2;have Kf:∀r,(s.st.h r).live->(st.h r).live:=fun r hl=>by
  rcases hH r with e | ⟨e,_⟩
  .rw[e]at hl;exact hl.elim
  .rw[e];exact hl
 have hI:=hS.inv;refine⟨⟨hI.os,hI.tape,hI.output,hI.size,hI.frame,hI.slt,fun r=>?_,fun r r' b l l'=>hI.inj r r' b (Kf r l) (Kf r' l'),fun r b l=>hI.loc r b (Kf r l),hI.sg,hI.glob⟩,⟨hS.le.gh,fun i hi=>?_,hS.le.keeps⟩,hS.dfs,hS.size,fun i=>?_⟩
 .rcases hH r with e | ⟨e,e2⟩
  .rw[e];trivial
  .have ho:=hI.objs r;rw[e]at ho;generalize s.st.h r=o at ho e2;cases o with
   |cells cs=>
    obtain⟨t,b,E,vs,a1,a2,a3,a4,a5⟩:=ho;exact⟨t,b,E,vs,a1,a2,a3,⟨a4.1,a4.2.1,fun i av x q1 q2=>(a4.2.2 i av x q1 q2).ids (mP e2 q1)⟩,a5⟩
   |hol sz es i c av=>
    obtain⟨t,l,al,b,cap,E,vs,b1,b2,b3,b4,b5,b6,b7,b8,x,b9,WU⟩:=ho;exact⟨t,l,al,b,cap,E,vs,b1,b2,b3,b4,b5,b6,b7,b8,x,b9,WU.ids e2⟩
   |mapU sh Cc=>
    obtain⟨t,b,es,ck,a1,a2,a3,a4,a5,a6⟩:=ho;exact⟨t,b,es,ck,a1,a2,a3,a4,fun i kv e q1 q2=>(a5 i kv e q1 q2).ids (ji e2 q1),a6⟩
   |_=>exact ho
 .have hu:=hS.le.us i hi;unfold Mu at hE;split at hE
  .exact absurd (hE i) hi
  .rename_i hx;rw[hx]at h4;exact h4 i (hE i hi).1 (hE i hi).2 hu
 .show BO g w (AS s.st.h) (UC s.t i) _;rcases hT i with e | ⟨e,e2⟩
  .rw[e];exact .junk _ _
  .rw[<-e]at e2⊢;exact(hS.slots i).ids e2
def Ex.real:Ex->Exit
 |.normal=>.normal
 |.exit id=>.exit id
 |.ret=>.ret
def xI(N:Nat)(o:Oper):Bool:=match o.dst with | some d=>Nat.blt d N | none=>true
def EQ(N:Nat):Code->Bool
 |.region _ ops _=>ops.toList.all (xI N)
 |.seq a b=>EQ N a&&EQ N b
 |.cond _ a b=>EQ N a&&EQ N b
 |.block _ c=>EQ N c
 |.loop c=>EQ N c
 |_=>true
theorem OO(hP:cx.P=P)(hT:CK P cx.T)(hm:P.follows .mixedOrders=true)(hE:Mu cx h0)(hY:∀l σ h g w,EJ σ=true->D2 w0 g0 h0 h g w->Le h0 g0 w0 h g w->cx.yp l σ (DS σ g) w)(ro:Option Nat):∀(c:Code),EQ N c=true->∀{Qa:Ex->St->Prop} {Q:Exit->Act->World->Prop},
  (∀e st g a w,Qa e st->SR N ds w0 g0 h0 st g a w->Q e.real a w)->∀{st:St} {g:Gh} {a:Act} {w:World},SR N ds w0 g0 h0 st g a w->Rj cx c Qa st->c.wpIn (KD ro) 0 P Q a w:=by
 intro c
 induction c with
 |skip=>intro _ Qa Q hQ st g a w hS hk;exact wpIn_skip (hQ .normal _ _ _ _ hk hS)
 |label l=>intro _ Qa Q hQ st g a w hS hk;exact wpIn_label (hQ .normal _ _ _ _ hk hS)
 |exit id=>intro _ Qa Q hQ st g a w hS hk;exact wpIn_exit (hQ (.exit id) _ _ _ _ hk hS)
 |ret=>intro _ Qa Q hQ st g a w hS hk;exact wpIn_ret (hQ .ret _ _ _ _ hk hS)
 |region id ops dr=>
  intro hc Qa Q hQ st g a w hS hk;have hd:∀o∈ops.toList,∀i,o.dst=some i->i<N:=fun o ho i hi=>by
   have:=(AZ.1 hc) o ho
   simpa[xI,hi]using this
  have go:∀(st:St) (g:Gh) (hS:SR N ds w0 g0 h0 st g a w) (wJ : Cx),wJ.P=P->CK P wJ.T->wJ.yp=cx.yp->NI wJ ops dr st (Qa .normal)->(Code.region id ops dr).wpIn (KD ro) 0 P Q a w:=by
   intro st g hS wJ hP hT hy hk;have hY:∀l σ h g w,EJ σ=true->D2 w0 g0 h0 h g w->Le h0 g0 w0 h g w->wJ.yp l σ (DS σ g) w:=by rw[hy];exact hY
   unfold NI at hk;split at hk
   .exact wpIn_region_list (Yl hP hT hY (fun EA g' a' w' q1 q2=>hQ .normal _ _ _ _ q1 q2) ops.toList hd hS hk)
   .obtain⟨_,FT,hk⟩:=ii hk;obtain⟨i1,i2⟩:=hS.inv.heapEq (w':={ w with drawn:=w.drawn+1 }) ⟨rfl,rfl,rfl⟩ rfl;have UR : SR N ds w0 g0 h0 st g a { w with drawn:=w.drawn+1 }:=⟨i1,hS.le.trans i2,hS.dfs,hS.size,fun i=>(hS.slots i).le i2⟩;exact wpIn_region_any hm (Ye hP hT hY (fun EA g' a' w' q1 q2=>hQ .normal _ _ _ _ q1 q2) (fun j o ho=>hd o (by simpa using Ms ho)) _ _ UR hk)
  have xP:∀(st:St) (g:Gh) (hS:SR N ds w0 g0 h0 st g a w),(match cx.pl.dyn with | []=>NI cx ops dr st (Qa .normal) | _=>∃n,NI { cx with nid:=n } ops dr st (Qa .normal))->(Code.region id ops dr).wpIn (KD ro) 0 P Q a w:=by
   intro st g hS hk;split at hk
   .exact go st g hS cx hP hT rfl hk
   .obtain⟨n,hk⟩:=hk;exact go st g hS { cx with nid:=n } hP hT rfl hk
  unfold Rj xH at hk;split at hk
  .split at hk
   .split at hk
    .split at hk
     .obtain⟨h',g',UR,s,h1,h2⟩:=rR hS hk;exact xP s.st _ (UR.weaken hE h1) h2
     .obtain⟨h',g',UR,s,h1,h2⟩:=tN hS hk;exact xP s.st _ (UR.weaken hE h1) h2
    .obtain⟨EA,g',UR,s,h1,h2⟩:=tR hS hk;exact xP s.st _ (UR.weaken hE h1) h2
   .obtain⟨h',g',UR,s,h1,h2⟩:=tV hS hk;exact xP s.st _ (UR.weaken hE h1) h2
  .exact xP st _ hS hk
 |seq x y ihx ihy=>
  intro hc Qa Q hQ st g a w hS hk;simp only[EQ,Ag]at hc;refine wpIn_seq (ihx hc.1 (Qa:=fun e EA=>match e with | .normal=>Rj cx y Qa EA | e=>Qa e EA) (fun e st g a w q hS=>?_) hS hk);cases e with
  |normal=>exact ihy hc.2 hQ hS q
  |exit id=>exact hQ (.exit id) _ _ _ _ q hS
  |ret=>exact hQ .ret _ _ _ _ q hS
 |cond c x y ihx ihy=>
  intro hc Qa Q hQ st g a w hS hk;simp only[EQ,Ag]at hc;have hr:=hS.eval c;unfold Rj at hk;generalize hx:ev st.t c=v at hk hr;split at hk
  .exact wpIn_cond_true hr.v_eq (ihx hc.1 hQ hS hk)
  .exact wpIn_cond_false hr.v_eq (ihy hc.2 hQ hS hk)
  .exact hk.elim
 |block id c ih=>
  intro hc Qa Q hQ st g a w hS hk;refine wpIn_block (ih hc (Qa:=fun e EA=>match e with | .exit j=>(bif Nat.beq j id then Qa .normal EA else Qa (.exit j) EA) | e=>Qa e EA) (fun e st g a w q hS=>?_) hS hk);cases e with
  |normal=>exact hQ .normal _ _ _ _ q hS
  |ret=>exact hQ .ret _ _ _ _ q hS
  |exit j=>
   show(if j=id then Q .normal a w else Q (.exit j) a w);dsimp only at q
   by_cases e:j=id
   .rw[Ao e];rw[e,Dp,KM]at q;exact hQ .normal _ _ _ _ q hS
   .rw[Aj e];rw[Dc e,Er]at q;exact hQ (.exit j) _ _ _ _ q hS
 |loop c ih=>
  intro hc Qa Q hQ st g a w hS hk;obtain⟨α,I,μ,⟨x,hx⟩,yd⟩:=hk;refine TA (fun n a w=>∃x g,μ x=n/\SR N ds w0 g0 h0 (I x).st g a w) (μ x) ⟨x,g,rfl,hS.weaken hE hx⟩ ?_
  rintro n a w ⟨x,g,rfl,hS⟩
  refine ih hc (Qa:=fun e EA=>match e with | .normal=>∃y,μ y<μ x/\St.le cx EA (I y) | e=>Qa e EA) (fun e st g a w q hS=>?_) hS (yd x);cases e with
  |normal=>
   obtain⟨y,q1,q2⟩:=q;exact⟨μ y,q1,y,g,rfl,hS.weaken hE q2⟩
  |exit id=>exact hQ (.exit id) _ _ _ _ q hS
  |ret=>exact hQ .ret _ _ _ _ q hS
 |_=>intro _ Qa Q hQ st g a w hS hk;exact hk.elim
end
section
variable {P:Program}{N:Nat}{ds:List Deferred}{w0:World}{g0:Gh}{h0:Nat->HO}{st:St}{g:Gh}{a:Act}{w:World}
theorem bc{T:G2}(hT:CK P T){h:Nat->HO}(ho:∀r,Ew g w (AS h) r (h r)){t:Nat}{p:AV}{vp:Value}(hp:BO g w (AS h) p vp)(hk:IX T h t p K) :
  ∃ad,(asAddr vp).run P w=.ok ad w/\BQ P h g w (loadVar t ad) K:=by
 obtain⟨x,av,h1,h2,h3⟩:=XA ho hT hp hk;have fin:∀b off,vp=.pointer (some ⟨b,off,none⟩)->∃ad,(asAddr vp).run P w=.ok ad w/\BQ P h g w (loadVar t ad) K:=by
  rintro b off rfl
  refine⟨⟨b,off,none⟩,by simp[asAddr],x,av,?_,h2,h3⟩;simpa[Instr.loadAt,Instr.sureAddr]using h1
 unfold IX at hk;split at hk
 .cases hp;exact fin _ _ rfl
 .cases hp;exact fin _ _ rfl
 .cases hp;exact fin _ _ rfl
 .exact hk.elim
def dX(tmps:Array Value):ResultVar->Sem Value
 |.tmp t=>pure (tmps.getD t undef)
 |.cell ad t=>do loadVar t (<-asAddr (tmps.getD ad undef))
theorem Pj(fn:Func)(tmps:Array Value):results fn tmps=(do
 let vs <-fn.results.mapM (dX tmps)
 pure (if h:vs.size=1 then vs[0]else .tuple vs)):=rfl
theorem Y9{cx:Cx}(hT:CK P cx.T)(hS:SR N ds w0 g0 h0 st g a w):∀(rs:List ResultVar) {K:List AV->Prop},rh cx.T st rs K ->
  ∃l vs,K l/\(rs.mapM (dX a.tmps)).run P w=.ok vs w/\vs.length=l.length/\vs.length=rs.length /\
   ∀(i:Nat) (av:AV) (x:Value),l[i]?=some av->vs[i]?=some x->BO g w Fx av x
 | [],K,hk=>⟨[],[],hk,by simp,rfl,rfl,fun i av x h=>by simp at h⟩
 |.tmp t::r,K,hk=>by
  obtain⟨l,vs,h1,h2,h3,h4,h5⟩:=Y9 hT hS r hk;refine⟨_,a.tmps.getD t undef::vs,h1,?_,by simp[h3],by simp[h4],fun i av x q1 q2=>?_⟩
  .rw[Lt];simp only[dX,Sem.run_bind,Sem.run_pure,Result.andThen_ok,h2]
  .cases i with
   |zero=>
    simp only[Be,Bz]at q1 q2;subst q1;subst q2;exact BO.str hS.inv.objs (hS.slots t)
   |succ i=>exact h5 i av x (by simpa using q1) (by simpa using q2)
 |.cell ad t::r,K,hk=>by
  obtain⟨addr,e1,x0,av0,e2,hk',e4⟩:=bc hT hS.inv.objs (hS.slots ad) hk;obtain⟨l,vs,h1,h2,h3,h4,h5⟩:=Y9 hT hS r hk';refine⟨_,x0::vs,h1,?_,by simp[h3],by simp[h4],fun i av x q1 q2=>?_⟩
  .rw[Lt];simp only[dX,Sem.run_bind,Sem.run_pure,Result.andThen_ok,h2,e1,e2]
  .cases i with
   |zero=>
    simp only[Be,Bz]at q1 q2;subst q1;subst q2;exact BO.str hS.inv.objs e4
   |succ i=>exact h5 i av x (by simpa using q1) (by simpa using q2)
theorem rg{cx:Cx}(hT:CK P cx.T)(hS:SR N ds w0 g0 h0 st g a w)(hk:rf cx st fn.results.toList K) :
  ∃g' r v h',K r/\(results fn a.tmps).run P w=.ok v w/\D2 w0 g0 h0 h' g' w/\Le h0 g0 w0 h' g' w/\BO g' w Fx r v:=by
 obtain⟨g',i1,i2⟩:=NQ cx.pl.fin hS.inv;have UR : SR N ds w0 g0 h0 ⟨st.t,Qp st.h cx.pl.fin⟩ g' a w:=⟨i1,hS.le.trans i2,hS.dfs,hS.size,fun i=>(hS.slots i).le i2⟩;obtain⟨l,vs,h1,h2,h3,h4,h5⟩:=Y9 hT UR _ hk;have CV:(results fn a.tmps).run P w=.ok (if h:vs.toArray.size=1 then vs.toArray[0]else .tuple vs.toArray) w:=by
  rw[Pj,show fn.results=fn.results.toList.toArray by simp,List.mapM_toArray];simp only[Sem.run_bind,Sem.run_map,h2,Result.andThen_ok,Sem.run_pure]
 refine⟨g',?_⟩
 match l,vs,h1,h3,h5,CV with
 | [v],[x],h1,h3,h5,CV=>exact⟨v,x,_,h1,by simpa using CV,i1,UR.le,h5 0 v x rfl rfl⟩
 | [],vs,h1,h3,h5,CV=>
  have:vs=[]:=AQ h3
  subst this;exact⟨.tup [],.tuple #[],_,h1,by simpa using CV,i1,UR.le,.tup _ _ _ rfl fun i av x q=>by simp at q⟩
 |v::v' :: l,vs,h1,h3,h5,CV=>
  refine⟨.tup (v::v' :: l),.tuple vs.toArray,_,h1,?_,i1,UR.le,.tup _ _ _ (by simpa using h3) fun i av x q1 q2=>h5 i av x q1 (by simpa using q2)⟩;rw[CV]
  have:vs.toArray.size≠1:=by simp[h3]
  simp only[this,dif_neg,not_false_eq_true]
theorem D2.toFree(hI:D2 w0 g0 Af st.h g w):D2 w0 g0 Af Af g w:=
 ⟨hI.os,hI.tape,hI.output,hI.size,hI.frame,hI.slt,fun _=>trivial,fun _ _ _ h=>h.elim,fun _ _ h=>h.elim,hI.sg,hI.glob⟩
theorem Qc{U:Nat->Prop}{n:Nat}:∀{args:List AV} {vals:List Value},vals.length=args.length->(∀(i:Nat) (av:AV) (x:Value),args[i]?=some av->vals[i]?=some x->BO g w U av x) ->
  ∀i,BO g w U (Qb args i) ((vals++List.replicate n undef).getD i undef)
 | [],[],_,_,i=>by
  have:(([]:List Value)++List.replicate n undef).getD i undef=undef:=by
   rw[FW,Ca,List.getElem?_replicate];split<;>rfl
  rw[this];exact .v _ _
 | [],_::_,h,_,_=>by simp at h
 |_::_,[],h,_,_=>by simp at h
 |x::l,v::vs,h,hr,i=>by
  cases i with
  |zero=>exact hr 0 x v rfl rfl
  |succ i=>
   have:=Qc (n:=n) (args:=l) (vals:=vs) (by simpa using h) (fun i av x q1 q2=>hr (i+1) av x (by simpa using q1) (by simpa using q2)) i
   simpa[Qb]using this
theorem kT {f : Nat}{args : List AV}{Q : AV -> Prop}(hP : cx.P = P)(hT : CK P cx.T)(hm : P.follows .mixedOrders = true)(hx : cx.ext = false)(hf : P.funcs[f]? = some fn)(hn : (fn.name == "runtime.NumGoroutine") = false)(hb:fn.body=some c)(hN:args.length<=fn.ntmps)(hc:EQ fn.ntmps c=true)(hk:Rj cx c (un cx fn.results.toList Q) ⟨Qb args,Af⟩)(hY:∀l σ g w,cx.yp l σ g w:=by exact fun _ _ _ _=>trivial):Bc P f args Af fun r h'=>h'=Af/\Q r:=by
 refine⟨⟨fn,hf,hn,by simp[hb]⟩,fun g w vals hs hv hI=>calls_of_wp hf hb ?_⟩;have hU:AS Af=Fx:=by funext i;unfold AS Fx Af;simp
 have hS:SR fn.ntmps [] w g Af ⟨Qb args,Af⟩ g { tmps:=vals++Array.replicate (fn.ntmps-vals.size) undef,defers:=[] } w:=by
  refine⟨hI,.refl _ _ _,rfl,by simp[hs];omega,fun i=>?_⟩
  have:=Qc (n:=fn.ntmps-vals.size) (args:=args) (vals:=vals.toList) (by simpa using hs) (fun i av x q1 q2=>hv i av x q1 (by simpa using q2)) i
  rw[CI,<-A5];rw[Ca]at this;simpa using this
 refine wpIn_wide.1 (OO hP hT hm (by unfold Mu;rw[hx];exact fun _=>rfl) (fun l σ _ _ w _ _ _=>hY l σ _ w) none c hc (fun e st g' a w' hk hS=>?_) hS hk);have out:rf cx st fn.results.toList Q->a.defers=[]/\∃v,(results fn a.tmps).run P w'=.ok v w'/\∃v' r h' g',(Ending.returned v:Ending)=.returned v'/\(h'=Af/\Q r)/\BO g' w' (AS h') r v'/\D2 w g Af h' g' w'/\Le Af g w h' g' w':=by
  intro hk;obtain⟨g2,r,v,h',q1,q2,q3,q4,q5⟩:=rg hT hS hk;exact⟨hS.dfs,v,q2,v,r,Af,g2,rfl,⟨rfl,q1⟩,by rw[hU];exact q5,D2.toFree (st:=⟨st.t,h'⟩) q3,⟨fun i hi=>absurd rfl hi,fun i hi=>absurd rfl hi,q4.keeps⟩⟩
 cases e with
 |normal=>exact out hk
 |ret=>exact out hk
 |exit id=>exact hk.elim
theorem TU{cx:Cx}(hT:CK P cx.T)(hS:SR N ds w0 g0 h0 st g a w):∀(rs:List ResultVar) {K:List AV->Prop},ri cx.T st rs K ->
  ∃l vs,K l/\(rs.mapM (dX a.tmps)).run P w=.ok vs w/\vs.length=l.length/\vs.length=rs.length /\
   ∀(i:Nat) (av:AV) (x:Value),l[i]?=some av->vs[i]?=some x->BO g w (AS st.h) av x
 | [],K,hk=>⟨[],[],hk,by simp,rfl,rfl,fun i av x h=>by simp at h⟩
 |.tmp t::r,K,hk=>by
  obtain⟨l,vs,h1,h2,h3,h4,h5⟩:=TU hT hS r hk;refine⟨_,a.tmps.getD t undef::vs,h1,?_,by simp[h3],by simp[h4],fun i av x q1 q2=>?_⟩
  .rw[Lt];simp only[dX,Sem.run_bind,Sem.run_pure,Result.andThen_ok,h2]
  .cases i with
   |zero=>
    simp only[Be,Bz]at q1 q2;subst q1;subst q2;exact hS.slots t
   |succ i=>exact h5 i av x (by simpa using q1) (by simpa using q2)
 |.cell ad t::r,K,hk=>by
  obtain⟨addr,e1,x0,av0,e2,hk',e4⟩:=bc hT hS.inv.objs (hS.slots ad) hk;obtain⟨l,vs,h1,h2,h3,h4,h5⟩:=TU hT hS r hk';refine⟨_,x0::vs,h1,?_,by simp[h3],by simp[h4],fun i av x q1 q2=>?_⟩
  .rw[Lt];simp only[dX,Sem.run_bind,Sem.run_pure,Result.andThen_ok,h2,e1,e2]
  .cases i with
   |zero=>
    simp only[Be,Bz]at q1 q2;subst q1;subst q2;exact e4
   |succ i=>exact h5 i av x (by simpa using q1) (by simpa using q2)
theorem GS{σ:JN}:∀{H0:List (Nat×HO)},Jg σ H0=true->∀i,Ap H0 Af i≠.free->1000<=i/\i<2000/\CH σ i=some i
 | [],_,i,h=>absurd rfl h
 |(a,o)::r,hx,i,h=>by
  simp only[Jg,Ag,Dt,Cw]at hx;obtain⟨⟨⟨h1,h2⟩,h3⟩,h4⟩:=hx
  by_cases e:i=a
  .subst e;refine⟨h1,h2,?_⟩;split at h3
   .rename_i j e;rw[e,AM h3]
   .cases h3
  .unfold Ap at h;simp only[Dc e,Er]at h;exact GS h4 i h
theorem Qd{H0:List (Nat×HO)}{σ:JN}(hσ:Hl σ=true)(hx:Jg σ H0=true){h:Nat->HO}(hI:D2 w0 g0 (Ap H0 Af) h g w)(hL:Le (Ap H0 Af) g0 w0 h g w) :
  Lx (CH σ) h (FZ σ h) g (DS σ g) w/\D2 w0 g0 (Ap H0 Af) (FZ σ h) (DS σ g) w/\Le (Ap H0 Af) g0 w0 (FZ σ h) (DS σ g) w:=by
 have inv:=YZ hσ;have FH:∀j,FZ σ h j=match IA σ j with | some i=>(h i).ren (CH σ) h | none=>.free:=QN _ _ σ
 have hR:Lx (CH σ) h (FZ σ h) g (DS σ g) w:=by
  refine⟨fun r r' hr hu=>?_,fun b o=>Sm,hI.objs⟩;have hb:=(inv r r').1 hr;refine⟨by simp[DS,hb],by simp[DS,hb],by simp[DS,hb],by simp[DS,hb],?_⟩;unfold AS;rw[FH,hb];exact(Nx _ _ _).2 hu
 have Kf:∀j,(FZ σ h j).live->∃i,IA σ j=some i/\(h i).live:=fun j hl=>by
  rw[FH]at hl;cases e:IA σ j with
  |none=>rw[e]at hl;exact hl.elim
  |some i=>rw[e]at hl;exact⟨i,rfl,(Nw _ _ _).1 hl⟩
 have YV:∀j i,IA σ j=some i->(DS σ g).own j=g.own i:=fun j i e=>by simp[DS,e]
 refine⟨hR,⟨hI.os,hI.tape,hI.output,hI.size,hI.frame,hI.slt,fun j=>?_,fun j j' b hl Ry e e'=>?_,fun j b hl e=>?_,hI.sg,hI.glob⟩,⟨fun i hi=>?_,fun i hi=>?_,hL.keeps⟩⟩
 .rw[FH];cases e:IA σ j with
  |none=>trivial
  |some i=>
   by_cases hu:AS h i
   .exact(hI.objs i).ren hR ((inv i j).2 e) hu
   .have:h i=.free:=B7.1 hu
    dsimp only;rw[this];trivial
 .obtain⟨i,e1,l1⟩:=Kf j hl;obtain⟨i',e2,l2⟩:=Kf j' Ry;rw[YV j i e1]at e;rw[YV j' i' e2]at e';obtain rfl:=hI.inj i i' b l1 l2 e e'
  have:=(inv i j).2 e1
  rw[(inv i j').2 e2]at this;cases this;rfl
 .obtain⟨i,e1,l1⟩:=Kf j hl;rw[YV j i e1]at e;exact hI.loc i b l1 e
 .obtain⟨_,_,hf⟩:=GS hx i hi;have hb:=(inv i i).1 hf;have e1:(DS σ g).ρ i=g.ρ i/\(DS σ g).ln i=g.ln i/\(DS σ g).tk i=g.tk i:=by simp[DS,hb]
  obtain⟨k1,k2,k3,k4⟩:=hL.gh i hi;exact⟨e1.2.2.trans k1,by omega,fun t=>e1.1.trans (k3 t),fun l=>e1.1.trans (k4 ch)⟩
 .obtain⟨_,_,hf⟩:=GS hx i hi;have hb:=(inv i i).1 hf;unfold AS;rw[FH,hb];exact(Nx _ _ _).2 (hL.us i hi)
theorem aD{f:Nat}{args:List AV}{H0:List (Nat×HO)}{Q:AV->(Nat->HO)->Prop}(hP:cx.P=P)(hT:CK P cx.T)(hm:P.follows .mixedOrders=true)(hx:cx.ext=true)(hf:P.funcs[f]?=some fn)(_hn : (fn.name == "runtime.NumGoroutine") = false)(hb : fn.body = some c)(hN : args.length <= fn.ntmps)(hc : EQ fn.ntmps c = true)(hσ : (Hl σ && Jg σ H0) = true)(hk:Rj cx c (af cx fn.results.toList σ Q) ⟨Qb args,Ap H0 Af⟩){g:Gh}{w:World}{vals:Array Value}(hs:vals.size=args.length)(hv:∀(i:Nat) (av:AV) (x:Value),args[i]?=some av->vals[i]?=some x->BO g w (AS (Ap H0 Af)) av x)(hI:D2 w g (Ap H0 Af) (Ap H0 Af) g w)(hY:∀l σ h' g' w',EJ σ=true->D2 w g (Ap H0 Af) h' g' w'->Le (Ap H0 Af) g w h' g' w'->cx.yp l σ (DS σ g') w') :
  Calls P f vals w fun e w'=>∃v r h' g',e=.returned v/\Q r h'/\BO g' w' (AS h') r v/\D2 w g (Ap H0 Af) h' g' w'/\Le (Ap H0 Af) g w h' g' w':=by
 simp only[Ag]at hσ;obtain⟨hσ,s5⟩:=hσ;refine calls_of_wp hf hb ?_;have hS:SR fn.ntmps [] w g (Ap H0 Af) ⟨Qb args,Ap H0 Af⟩ g { tmps:=vals++Array.replicate (fn.ntmps-vals.size) undef,defers:=[] } w:=by
  refine⟨hI,.refl _ _ _,rfl,by simp[hs];omega,fun i=>?_⟩
  have:=Qc (n:=fn.ntmps-vals.size) (args:=args) (vals:=vals.toList) (by simpa using hs) (fun i av x q1 q2=>hv i av x q1 (by simpa using q2)) i
  rw[CI,<-A5];rw[Ca]at this;simpa using this
 refine wpIn_wide.1 (OO hP hT hm (by unfold Mu;rw[hx];exact fun i hi=>⟨(GS s5 i hi).1,(GS s5 i hi).2.1⟩) hY none c hc (fun e st g' a w' hk hS=>?_) hS hk);have out:jN cx st fn.results.toList σ Q->a.defers=[]/\∃v,(results fn a.tmps).run P w'=.ok v w'/\∃v' r h' g',(Ending.returned v:Ending)=.returned v'/\Q r h'/\BO g' w' (AS h') r v'/\D2 w g (Ap H0 Af) h' g' w'/\Le (Ap H0 Af) g w h' g' w':=by
  intro hk;obtain⟨g2,i1,i2⟩:=NQ cx.pl.fin hS.inv;have UR : SR fn.ntmps [] w g (Ap H0 Af) ⟨st.t,Qp st.h cx.pl.fin⟩ g2 a w':=⟨i1,hS.le.trans i2,hS.dfs,hS.size,fun i=>(hS.slots i).le i2⟩;obtain⟨l,vs,h1,h2,h3,h4,h5⟩:=TU hT UR _ hk;obtain⟨hR,j1,j2⟩:=Qd hσ s5 i1 UR.le;have CV:(results fn a.tmps).run P w'=.ok (if h:vs.toArray.size=1 then vs.toArray[0]else .tuple vs.toArray) w':=by
   rw[Pj,show fn.results=fn.results.toList.toArray by simp,List.mapM_toArray];simp only[Sem.run_bind,Sem.run_map,h2,Result.andThen_ok,Sem.run_pure]
  refine⟨hS.dfs,?_⟩
  match l,vs,h1,h3,h5,CV with
  | [v],[x],h1,h3,h5,CV=>exact⟨x,by simpa using CV,x,_,_,_,rfl,h1,(h5 0 v x rfl rfl).ren hR,j1,j2⟩
  | [],vs,h1,h3,h5,CV=>
   have:vs=[]:=AQ h3
   subst this;exact⟨.tuple #[],by simpa using CV,.tuple #[],_,_,_,rfl,h1,BO.ren hR (.tup _ [] _ rfl fun i av x q=>by simp at q),j1,j2⟩
  |v::v' :: l,vs,h1,h3,h5,CV=>
   refine⟨.tuple vs.toArray,?_,.tuple vs.toArray,_,_,_,rfl,h1,BO.ren hR (.tup _ _ _ (by simpa using h3) fun i av x q1 q2=>h5 i av x q1 (by simpa using q2)),j1,j2⟩;rw[CV]
   have:vs.toArray.size≠1:=by simp[h3]
   simp only[this,dif_neg,not_false_eq_true]
 cases e with
 |normal=>exact out hk
 |ret=>exact out hk
 |exit id=>exact hk.elim
theorem mf{f:Nat}{args:List AV}{H0:List (Nat×HO)}{Q:AV->(Nat->HO)->Prop}(hP:cx.P=P)(hT:CK P cx.T)(hm:P.follows .mixedOrders=true)(hx:cx.ext=true)(hf:P.funcs[f]?=some fn)(hn : (fn.name == "runtime.NumGoroutine") = false)(hb : fn.body = some c)(hN : args.length <= fn.ntmps)(hc : EQ fn.ntmps c = true)(hσ : (Hl σ && Jg σ H0) = true)(hk:Rj cx c (af cx fn.results.toList σ Q) ⟨Qb args,Ap H0 Af⟩)(hY:∀l σ g w,cx.yp l σ g w:=by exact fun _ _ _ _=>trivial):Bc P f args (Ap H0 Af) Q:=
 ⟨⟨fn,hf,hn,by simp[hb]⟩,fun g w vals hs hv hI=>aD cx σ hP hT hm hx hf hn hb hN hc hσ hk hs hv hI (fun l σ _ _ w _ _ _=>hY l σ _ w)⟩
end
def CY(r r' : AV):Prop:=∀(g:Gh) (w:World) (U:Nat->Prop) (x:Value),BO g w U r x->BO g w U r' x
theorem CY.refl(r:AV):CY r r:=fun _ _ _ _ h=>h
theorem CY.of_eq{r r' : AV}(h:r=r'):CY r r':=h▸.refl r
theorem CY.trans{a b c:AV}(h:CY a b)(k:CY b c):CY a c:=fun g w U x r=>k g w U x (h g w U x r)
theorem CY.nil:CY nzA (.slice .none []):=fun _ _ _ _ h=>by cases h;exact .snil _ _ _
def K8:List AV->List AV->Prop
 | [],[]=>True
 |a::r,b::s=>CY a b/\K8 r s
 |_,_=>False
theorem K8.refl:∀l:List AV,K8 l l
 | []=>trivial
 |a::l=>⟨.refl a,K8.refl l⟩
theorem K8.len:∀{l l' : List AV},K8 l l'->l'.length=l.length
 | [],[],_=>rfl
 |_::_,_::_,h=>Aa (·+1) h.2.len
 | [],_::_,h=>h.elim
 |_::_,[],h=>h.elim
theorem K8.get:∀{l l' : List AV},K8 l l'->∀(i:Nat) (b:AV),l'[i]?=some b->∃a,l[i]?=some a/\CY a b
 | [],[],_,i,b,h=>by simp at h
 |a::r,b::s,hs,i,c,h=>by
  cases i with
  |zero=>simp only[Be,Bz]at h;subst h;exact⟨a,rfl,hs.1⟩
  |succ i=>exact K8.get hs.2 i c (by simpa using h)
 | [],_::_,h,_,_,_=>h.elim
 |_::_,[],h,_,_,_=>h.elim
theorem CY.tup{l l' : List AV}(h:K8 l l'):CY (.tup l) (.tup l'):=fun g w U x r=>by
 cases r with
 |tup _ _ vs hs hr=>
  refine .tup _ _ vs (by rw[hs,h.len]) fun i av x q1 q2=>?_;obtain⟨a,e1,e2⟩:=h.get i av q1;exact e2 _ _ _ _ (hr i a x e1 q2)
theorem CY.agg{l l' : List AV}(h:K8 l l'):CY (.agg l) (.agg l'):=fun g w U x r=>by
 cases r with
 |agg _ _ vs hs h1 hr=>
  refine .agg _ _ vs (by rw[hs,h.len]) h1 fun i av x q1 q2=>?_;obtain⟨a,e1,e2⟩:=h.get i av q1;exact e2 _ _ _ _ (hr i a x e1 q2)
def cw:List (List AV)->List (List AV)->Prop
 | [],[]=>True
 |a::r,b::s=>K8 a b/\cw r s
 |_,_=>False
theorem cw.len:∀{l l' : List (List AV)},cw l l'->l'.length=l.length
 | [],[],_=>rfl
 |_::_,_::_,h=>Aa (·+1) h.2.len
 | [],_::_,h=>h.elim
 |_::_,[],h=>h.elim
theorem cw.get:∀{l l' : List (List AV)},cw l l'->∀(i:Nat) (b:List AV),l'[i]?=some b->∃a,l[i]?=some a/\K8 a b
 | [],[],_,i,b,h=>by simp at h
 |a::r,b::s,hs,i,c,h=>by
  cases i with
  |zero=>simp only[Be,Bz]at h;subst h;exact⟨a,rfl,hs.1⟩
  |succ i=>exact cw.get hs.2 i c (by simpa using h)
 | [],_::_,h,_,_,_=>h.elim
 |_::_,[],h,_,_,_=>h.elim
theorem CY.slice{l l' : List (List AV)}(h:cw l l'):CY (.slice .none l) (.slice .none l'):=fun g w U x r=>by
 have CP:=h.len;cases r with
 |snil _ a cap=>
  have:l'=[]:=AQ (by rw[CP];rfl)
  subst this;exact .snil _ a cap
 |slice _ _ b off sz cap val hc hl DT Ez=>
  rw[<-CP];refine .slice _ _ b off sz cap val (by rw[CP];exact hc) (fun i cs hi=>?_) (fun i cs j av hi hj=>?_) (fun i cs j av hi hj=>?_)
  .obtain⟨a,e1,e2⟩:=h.get i cs hi;rw[e2.len];exact hl i a e1
  .obtain⟨a,e1,e2⟩:=h.get i cs hi;obtain⟨c,f1,f2⟩:=e2.get j av hj;exact DT i a j c e1 f1
  .obtain⟨a,e1,e2⟩:=h.get i cs hi;obtain⟨c,f1,f2⟩:=e2.get j av hj;exact f2 _ _ _ _ (Ez i a j c e1 f1)
section
variable {P:Program}
theorem Bc.mono{f:Nat}{args:List AV}{h0:Nat->HO}{Q Q' : AV->(Nat->HO)->Prop}(h:Bc P f args h0 Q)(hq:∀r h',Q r h'->∃r',CY r r'/\Q' r' h'):Bc P f args h0 Q':=
 ⟨h.1,fun g w vals q1 q2 q3=>(h.2 g w vals q1 q2 q3).mono fun _ _ ⟨v,r,h',g',e1,e2,e3,rest⟩=>
  let ⟨r',s,k⟩:=hq r h' e2
  ⟨v,r',h',g',e1,k,s _ _ _ _ e3,rest⟩⟩
theorem Bc.args{args args' : List AV}{h0:Nat->HO}{Q:AV->(Nat->HO)->Prop}(h:Bc P f args h0 Q)(hs:K8 args' args):Bc P f args' h0 Q:=
 ⟨h.1,fun g w vals q1 q2 q3=>h.2 g w vals (by rw[q1,hs.len]) (fun i av x e1 e2=>by
  obtain⟨a,f1,f2⟩:=hs.get i av e1;exact f2 _ _ _ _ (q2 i a x f1 e2)) q3⟩
theorem Jb.args{f:Nat}{args args' : List AV}{res:AV}(h:Jb P f args res)(hs:K8 args' args):Jb P f args' res:=Bc.args h hs
theorem F8 {args : List AV}{res : AV}(hP : cx.P = P)(hT : CK P cx.T)(hm : P.follows .mixedOrders = true)(hx : cx.ext = false)(hf : P.funcs[f]? = some fn)(hn : (fn.name == "runtime.NumGoroutine") = false)(hb:fn.body=some c)(hN:args.length<=fn.ntmps)(hc:EQ fn.ntmps c=true)(hk:Rj cx c (un cx fn.results.toList fun r=>CY r res) ⟨Qb args,Af⟩)(hY:∀l σ g w,cx.yp l σ g w:=by exact fun _ _ _ _=>trivial):Jb P f args res:=
 (kT cx hP hT hm hx hf hn hb hN hc hk hY).mono fun _ _ ⟨e1,e2⟩=>⟨res,e2,rfl,e1⟩
end
end Go.Eng
namespace Go.Eng
open Go.ChangeShapes Go.WideShapes
variable {p:List MemPlace}{w:World}{g:Gh}
def md(w:World):Gh:=⟨fun _=>undef,fun _=>0,fun _=>false,fun _=>none,fun b _=>b<w.heap.size⟩
theorem Yw{b o:Nat}{v:Value}(h:w.cell? ⟨b,o,none⟩=some v):b<w.heap.size:=by
 unfold World.cell? at h;cases hh:w.heap[b]? with
 |none=>simp[hh]at h
 |some x=>exact(Bu.1 hh).1
theorem y8(hg:∃m,w.cell? ⟨0,0,none⟩=some (.int .i64 m))(ht:∀x∈me,x.1<w.heap.size/\w.cell? ⟨x.1,x.2.1,none⟩=x.2.2):D2 w (md w) Af Af (md w) w where
 os:=rfl
 tape:=rfl
 output:=rfl
 size:=Ak _
 frame:=fun _ _ _=>rfl
 slt:=fun _ _ h=>h
 objs:=fun _=>trivial
 inj:=fun _ _ _ h=>h.elim
 loc:=fun _ _ h=>h.elim
 sg:=fun _ _ h=>.inl h
 glob:=⟨⟨by obtain⟨m,h⟩:=hg;exact Yw h,hg⟩,fun x hx=>ht x hx⟩
theorem Vj{α β:Type}{f:α->Option β}:∀{l:List α} {r:List β},l.mapM f=some r->r.length=l.length/\∀(i:Nat) x,l[i]?=some x->∃y,r[i]?=some y/\f x=some y
 | [],r,h=>by simp at h;subst h;simp
 |a::l,r,h=>by
  rw[Lt]at h;cases ha:f a with
  |none=>simp[ha]at h
  |some b=>
   cases hl:l.mapM f with
   |none=>simp[ha,hl]at h
   |some s=>
    simp[ha,hl]at h;subst h;obtain⟨h1,h2⟩:=Vj hl;refine⟨by simp[h1],fun i x hx=>?_⟩;cases i with
    |zero=>simp at hx;subst hx;exact⟨b,by simp,ha⟩
    |succ i=>obtain⟨y,h3,h4⟩:=h2 i x (by simpa using hx);exact⟨y,by simpa using h3,h4⟩
theorem Xa{base:Nat}{a:Addr}{n:Nat}{cs:List Value}(h:w.cells? base a n=some cs) :
  cs.length=n/\(0<n->a.spot=none)/\∀j,j<n->∃v,cs[j]?=some v/\w.cell? ⟨a.block,a.off+j,none⟩=some v:=by
 unfold World.cells? at h;split at h
 .obtain⟨h1,h2⟩:=Vj h;have one:∀j,j<n->∃v,cs[j]?=some v/\w.cell? (a.add j)=some v:=fun j hj=>by
   obtain⟨v,e1,e2⟩:=h2 j j (by simp[hj]);exact⟨v,e1,e2⟩
  have yW:0<n->a.spot=none:=fun hn=>by
   obtain⟨v,_,hv⟩:=one 0 hn;simp only[Addr.add,Ao]at hv;cases hs:a.spot with
   |none=>rfl
   |some s=>
    simp only[World.cell?]at hv;split at hv
    .simp[hs]at hv
    .cases hv
  refine⟨by simpa using h1,yW,fun j hj=>?_⟩;obtain⟨v,e1,e2⟩:=one j hj;refine⟨v,e1,?_⟩;have hs:=yW ch;have e:a.add j=⟨a.block,a.off+j,none⟩:=by
   unfold Addr.add;split
   .rename_i h0;subst h0;cases a;simp_all
   .rfl
  rw[<-e];exact e2
 .cases h
section
variable {H:Type}{enc:TypeId×Value->H}{P:Program}{w:World}{bk:DataW H->Nat}{N:Nat}
structure X9(bk:DataW H->Nat):Prop where
 slice:∀es sp,es.length<=bk (.slice es sp)/\∀d∈es,bk d<=bk (.slice es sp)
 agg:∀ps,∀d∈ps,bk d<=bk (.agg ps)
 str:∀b:List UInt8,b.length<=bk (.lit (.string b))
def KH(enc:TypeId×Value->H)(P:Program)(w:World)(bk:DataW H->Nat)(N:Nat)(t:TypeId){α:Type}(e:α->List AV)(ok:α->Prop):Prop:=
 ∀(fuel:Nat) (cs:List Value) (d:DataW H) (ps:List MemPlace),DataW.trod enc P w 0 (fun _=>true) true fuel t cs=some (d,ps)->bk d<=N->∃x:α,CU (md w) w Fx (e x) cs/\ok x
theorem Sj{U:Nat->Prop}{a:AV}{v:Value}(h1:v.oneCell'=true)(h2:BO g w U a v):CU g w U [a] [v]:=by
 refine⟨rfl,fun x hx=>by simp at hx;subst hx;exact h1,fun i av x q1 q2=>?_⟩;cases i with
 |zero=>simp at q1 q2;subst q1;subst q2;exact h2
 |succ i=>simp at q1
theorem kz{U:Nat->Prop}{a b:List AV}{c d:List Value}(h:CU g w U a c)(k:CU g w U b d):CU g w U (a++b) (c++d):=by
 obtain⟨h1,h2,h3⟩:=h;obtain⟨k1,k2,k3⟩:=k;refine⟨by simp[h1,k1],fun x hx=>(AP.1 hx).elim (h2 x) (k2 x),fun i av x q1 q2=>?_⟩
 by_cases hi:i<a.length
 .rw[A0 hi]at q1;rw[A0 ch]at q2;exact h3 i av x q1 q2
 .rw[A1 ch]at q1;rw[A1 ch,h1]at q2;exact k3 _ av x q1 q2
theorem wB{U:Nat->Prop}:CU g w U [] []:=⟨rfl,(fun x hx=>by cases hx),fun i av x q1=>by simp at q1⟩
theorem RM{t:TypeId}{k:IntKind}(hu:P.underlying t=some (.int k)):KH enc P w bk N t (fun n:Int=>[AV.v (.int k n)]) (fun n=>k.min<=n/\n<=k.max):=by
 intro fuel cs d ps h _;cases fuel with
 |zero=>simp[DataW.trod]at h
 |succ fuel=>
  rw[DataW.trod_step]at h;unfold DataW.trodStep at h;rw[hu]at h;split at h<;>rename_i he<;>first | cases he | skip
  all_goals first | (split at h<;>first | cases h | skip) | cases h | skip
  rename_i n hc _;obtain⟨rfl,hw⟩:=hc;simp only[Lit.wf,Ag,AD]at hw;exact⟨_,Sj rfl (.v _ _),hw⟩
theorem dL{t:TypeId}(hu:P.underlying t=some .bool):KH enc P w bk N t (fun b:Bool=>[AV.v (.bool b)]) (fun _=>True):=by
 intro fuel cs d ps h _;cases fuel with
 |zero=>simp[DataW.trod]at h
 |succ fuel=>
  rw[DataW.trod_step]at h;unfold DataW.trodStep at h;rw[hu]at h;split at h<;>rename_i he<;>first | cases he | skip
  all_goals first | cases h | skip
  exact⟨_,Sj rfl (.v _ _),trivial⟩
theorem Y8{t:TypeId}(hB:X9 bk)(hu:P.underlying t=some .string):KH enc P w bk N t (fun s:ByteArray=>[AV.v (.string s)]) (fun s=>s.size<=N):=by
 intro fuel cs d ps h hb;cases fuel with
 |zero=>simp[DataW.trod]at h
 |succ fuel=>
  rw[DataW.trod_step]at h;unfold DataW.trodStep at h;rw[hu]at h;split at h<;>rename_i he<;>first | cases he | skip
  all_goals first | (split at h<;>first | cases h | skip) | cases h | skip
  rename_i s hs;refine⟨s,Sj rfl (.v _ _),?_⟩
  have:=hB.str s.data.toList
  have e:s.data.toList.length=s.size:=by rw[BT];rfl
  omega
theorem FI{t e:TypeId}{α:Type}{E:α->List AV}{ok:α->Prop}{m:Nat}(hB:X9 bk)(hu:P.underlying t=some (.slice e))(hm:P.cellsOf e=m+1)(hE:∀x,(E x).length=m+1)(he:KH enc P w bk N e E ok) :
  KH enc P w bk N t (fun l:List α=>[AV.slice .none (l.map E)]) (fun l=>l.length<=N/\∀x∈l,ok x):=by
 intro fuel cs d ps h hb;cases fuel with
 |zero=>simp[DataW.trod]at h
 |succ fuel=>
  rw[DataW.trod_step]at h;unfold DataW.trodStep at h;rw[hu]at h;split at h<;>rename_i hq<;>first | cases hq | skip
  all_goals first | (cases h;done) | skip
  .cases h
   exact⟨[],Sj rfl (.snil _ _ _),AA _,fun x hx=>by cases hx⟩
  .rename_i a len cap;simp only at h;split at h
   .rename_i hc;simp only[AW,Ua]at h;obtain⟨sC,hel,rest,_,hd⟩:=h;simp only[Gd]at hd;obtain⟨hd,_⟩:=hd;obtain⟨hl,FH⟩:=Vj hel;rw[Ls]at hl;have hbs:=hB.slice (sC.map (·.1)) (rest.map (·.1));rw[hd]at hbs;rw[Bb]at hbs;have one:∀i,i<len->∃(x:α) (vs:List Value),w.cells? 0 (a.add (i*P.cellsOf e)) (P.cellsOf e)=some vs/\CU (md w) w Fx (E x) vs/\ok x:=fun i hi=>by
     obtain⟨y,hy,hf⟩:=FH i i (by simp[hi]);simp only[Ua]at hf;obtain⟨vs,hv,ht⟩:=hf;obtain⟨x,r1,r2⟩:=he fuel vs y.1 y.2 ht (AG (hbs.2 y.1 (Ai.2 ⟨y,Az hy,rfl⟩)) hb);exact⟨x,vs,hv,r1,r2⟩
    have build:∀k,k<=len->∃l:List α,l.length=k/\∀(i:Nat) x,l[i]?=some x->∃vs:List Value,w.cells? 0 (a.add (i*P.cellsOf e)) (P.cellsOf e)=some vs/\CU (md w) w Fx (E x) vs/\ok x:=fun k=>by
     induction k with
     |zero=>exact fun _=>⟨[],rfl,fun i x q=>by simp at q⟩
     |succ k ih=>
      intro hk;obtain⟨l,h1,h2⟩:=ih ch;obtain⟨x,hx⟩:=one k ch;refine⟨l++[x],by simp[h1],fun i y q=>?_⟩
      by_cases hi:i<l.length
      .rw[A0 hi]at q;exact h2 i y q
      .rw[A1 ch]at q
       have:i-l.length=0:=by
        cases hz:i-l.length with
        |zero=>rfl
        |succ z=>rw[hz]at q;simp at q
       rw[this]at q;simp only[Be,Bz]at q;subst q
       have:i=k:=by omega
       subst this;exact hx
    obtain⟨l,h1,h2⟩:=build len (Ak _);refine⟨l,Sj rfl ?_,by omega,fun x hx=>?_⟩
    .cases CP:len with
     |zero=>
      have:l=[]:=AQ ch
      subst this;exact .snil _ _ _
     |succ n=>
      have yW:a.spot=none:=by
       obtain⟨x,vs,hv,_⟩:=one 0 ch
       have:=(Xa hv).2.1 ch
       simpa[Addr.add]using this
      have ea:a=⟨a.block,a.off,none⟩:=by cases a;simp_all
      rw[<-CP,<-h1,show l.length=(l.map E).length by simp,ea];have cell:∀(i:Nat) (c:List AV) (j:Nat) (av:AV),(l.map E)[i]?=some c->c[j]?=some av->∃v,w.cell? ⟨a.block,a.off+i*(m+1)+j,none⟩=some v/\v.oneCell'=true/\BO (md w) w Fx av v:=by
       intro i c j av q1 q2;rw[AH,AW]at q1;obtain⟨x,q1,rfl⟩:=q1;obtain⟨vs,hv,hr,_⟩:=h2 i x q1;obtain⟨k1,_,k3⟩:=Xa hv;have hj:j<m+1:=by
        have:=(Ay.1 q2).1
        rw[hE]at this;exact this
       obtain⟨v,e1,e2⟩:=k3 j ch;refine⟨v,?_,hr.2.1 v (Az e1),hr.2.2 j av v q2 e1⟩;rw[<-e2,hm];unfold Addr.add;split
       .rename_i h0;rw[h0];simp
       .rfl
      refine .slice _ _ a.block a.off (m+1) cap (fun i j=>(w.cell? ⟨a.block,a.off+i*(m+1)+j,none⟩).getD undef) (by rw[Bb];omega) (fun i c q=>?_) (fun i c j av q1 q2=>?_) (fun i c j av q1 q2=>?_)
      .rw[AH,AW]at q;obtain⟨x,_,rfl⟩:=q;exact hE x
      .obtain⟨v,e1,e2,_⟩:=cell i c j av q1 q2;exact⟨Yw e1,by rw[e1];rfl,by rw[e1];exact e2⟩
      .obtain⟨v,e1,_,e3⟩:=cell i c j av q1 q2;rw[e1];exact e3
    .obtain⟨i,hi⟩:=Cp.1 hx;obtain⟨_,_,_,h⟩:=h2 i x hi;exact h
   .cases h
theorem N2{t e:TypeId}(hu:P.underlying t=some (.slice e)):KH enc P w bk N t (fun _:Unit=>[AV.junk]) (fun _=>True):=by
 intro fuel cs d ps h _;cases fuel with
 |zero=>simp[DataW.trod]at h
 |succ fuel=>
  rw[DataW.trod_step]at h;unfold DataW.trodStep at h;rw[hu]at h;split at h<;>rename_i hq<;>first | cases hq | skip
  all_goals first | (cases h;done) | skip
  all_goals exact⟨(),Sj rfl (.junk _ _),trivial⟩
theorem KH.to{t:TypeId}{α β:Type}{e:α->List AV}{ok:α->Prop}{e' : β->List AV}{zl : β->Prop}(h:KH enc P w bk N t e ok)(f:α->β)(hf:∀x,ok x->e' (f x)=e x/\zl (f x)):KH enc P w bk N t e' zl:=by
 intro fuel cs d ps k hb;obtain⟨x,h1,h2⟩:=h fuel cs d ps k hb;obtain⟨e1,e2⟩:=hf x h2;exact⟨f x,by rw[e1];exact h1,e2⟩
def Yc(enc:TypeId×Value->H)(P:Program)(w:World)(bk:DataW H->Nat)(N L:Nat)(l:List Field)(o:Nat){α:Type}(e:α->List AV)(ok:α->Prop):Prop:=
 ∀(fuel:Nat) (cs:List Value) (xs:List (DataW H×List MemPlace)),cs.length=L->l.mapM (fun f=>DataW.trod enc P w 0 (fun _=>true) true fuel f.type ((cs.drop f.offset).take (P.cellsOf f.type)))=some xs->(∀x∈xs,bk x.1<=N) ->
  ∃x:α,CU (md w) w Fx (e x) (cs.drop o)/\ok x
theorem Fr{L:Nat}:Yc enc P w bk N L [] L (fun _:Unit=>[]) (fun _=>True):=by
 intro fuel cs xs hl _ _;refine⟨(),?_,trivial⟩;rw[Wg ch];exact wB
theorem BJ{L o n:Nat}{f:Field}{l:List Field}{α β:Type}{e:α->List AV}{ok:α->Prop}{e' : β->List AV}{zl : β->Prop}(ho:f.offset=o)(hn:P.cellsOf f.type=n)(h:KH enc P w bk N f.type e ok)(k:Yc enc P w bk N L l (o+n) e' zl) :
  Yc enc P w bk N L (f::l) o (fun p:α×β=>e p.1++e' p.2) (fun p=>ok p.1/\zl p.2):=by
 intro fuel cs xs hl hx hb;rw[Lt]at hx;simp only[Option.bind_eq_bind,Ua]at hx;obtain⟨y,hy,ys,hys,py⟩:=hx;simp only[Option.pure_def,Bz]at py;subst py;obtain⟨x,r1,r2⟩:=h fuel _ y.1 y.2 hy (hb y (Ab ..));obtain⟨z,s1,s2⟩:=k fuel cs ys hl hys (fun q hq=>hb q (Ah _ hq));refine⟨(x,z),?_,r2,s2⟩;have e:cs.drop o=(cs.drop o).take n++cs.drop (o+n):=by rw[<-List.drop_drop,Gx]
 rw[e];rw[ho,hn]at r1;exact kz r1 s1
theorem Ep{t:TypeId}{L:Nat}{fs:Array Field}{α:Type}{e:α->List AV}{ok:α->Prop}(hB:X9 bk)(hu:P.underlying t=some (.struct fs))(hL:P.cellsOf t=L)(h:Yc enc P w bk N L fs.toList 0 e ok):KH enc P w bk N t e ok:=by
 intro fuel cs d ps k hb;cases fuel with
 |zero=>simp[DataW.trod]at k
 |succ fuel=>
  rw[DataW.trod_step]at k;unfold DataW.trodStep at k;rw[hu]at k
  change (if cs.length=P.cellsOf t then(fs.toList.mapM fun f=>DataW.trod enc P w 0 (fun _=>true) true fuel f.type ((cs.drop f.offset).take (P.cellsOf f.type))).map fun xs=>(DataW.agg (xs.map (·.1)),xs.flatMap (·.2))else none)=some (d,ps)at k
  split at k
  .rename_i hc;simp only[AW,Gd]at k;obtain⟨xs,hx,hd,_⟩:=k;have hba:=hB.agg (xs.map (·.1));rw[hd]at hba;obtain⟨x,r1,r2⟩:=h fuel cs xs ch hx (fun y hy=>AG (hba y.1 (Ai.2 ⟨y,hy,rfl⟩)) hb);exact⟨x,r1,r2⟩
  .cases k
theorem Iz{t:TypeId}{α:Type}{e:α->AV}{ok:α->Prop}(h:KH enc P w bk N t (fun x=>[e x]) ok){v:Value}{d:DataW H}(hv:v.oneCell'=true)(k:DataW.Trod enc P w 0 (fun _=>true) true t v d p)(hb:bk d<=N) :
  ∃x,BO (md w) w Fx (e x) v/\ok x:=by
 obtain⟨fuel,k⟩:=k;have ec:v.cells.toList=[v]:=by cases v<;>first | rfl | cases hv
 rw[ec]at k;obtain⟨x,r1,r2⟩:=h fuel _ d p k hb;exact⟨x,r1.2.2 0 _ _ rfl rfl,r2⟩
theorem QI{t:TypeId}{α:Type}{e:α->List AV}{ok:α->Prop}(h:KH enc P w bk N t e ok){cs:Array Value}{d:DataW H}(k:DataW.Trod enc P w 0 (fun _=>true) true t (.agg cs) d p)(hb:bk d<=N) :
  ∃x,BO (md w) w Fx (.agg (e x)) (.agg cs)/\ok x:=by
 obtain⟨fuel,k⟩:=k;obtain⟨x,r1,r2⟩:=h fuel cs.toList d p k hb;refine⟨x,.agg _ _ _ (by have:=r1.1;simpa using this) (fun i y q=>r1.2.1 y (by rw[Array.mem_toList_iff];exact Ms q)) (fun i av y q1 q2=>r1.2.2 i av y q1 (by simpa using q2)),r2⟩
end
end Go.Eng
