/- Lemmas 15. -/
import Derived.Test.YteaiieomnhbmgaaGreatDoorFA14
import Derived.Deep.LoopGhost
import Derived.ReadAgain
import Derived.RowKit
namespace Go.Eng
variable {h:Nat->HO}{fn:Func}{c:Code}{U:Nat->Prop}{K:AV->Prop}{av:AV}{cs:List AV}{i:Nat}{w:World}{x:Value}{f:Nat}{g:Gh}(cx:Cx)(σ:J6)
theorem FE{r:Nat}(e:TE h r=true):AR h r:=by
 unfold TE at e;unfold AR;split at e
 .cases e
 .rename_i hh;exact hh
theorem BU.ids0(r:BU g w U av x)(e:ids0 h av=true):BU g w (AR h) av x:=by
 cases r with
 |v=>exact .v _ _
 |junk=>exact .junk _ _
 |snil=>exact .snil _ _ _
 |slice _ es b off sz cap val hc hl DV EA=>exact .slice _ es b off sz cap val hc hl DV EA
 |tok _ r sz es x hs hl hu ht hn hx=>exact .tok _ r sz es x ((BU.slice_none hs).up _) hl (FE e) ht hn hx
 |ver _ r sz v es x hs hl hu ht hn hx=>exact .ver _ r sz v es x ((BU.slice_none hs).up _) hl (FE e) ht hn hx
 |full _ sz es x hs hl hx=>exact .full _ sz es x ((BU.slice_none hs).up _) hl hx
 |msl _ r n a cap hu ht hn ha hx=>exact .msl _ r n a cap (FE e) ht hn ha hx
 |agg=>cases e
 |tup=>cases e
 |cptr _ cs b off val DV EA=>exact .cptr _ cs b off val DV EA
 |ref _ r off b hu ht hx=>exact .ref _ r off b (FE e) ht hx
 |eref _ r n sz i off b cap hu ht hn hx=>exact .eref _ r n sz i off b cap (FE e) ht hn hx
 |mref _ r b hu ht hx=>exact .mref _ r b (FE e) ht hx
 |cmap _ sh Ch b es ck hS hb hm hv=>exact .cmap _ sh Ch b es ck hS hb hm hv
 |clo=>cases e
theorem Vd(e:bA h cs=true)(hi:cs[i]?=some av):ids0 h av=true:=by
 induction cs generalizing i with
 |nil=>simp at hi
 |cons c cs ih=>
  unfold bA at e;split at e
  .rename_i hc;cases i with
   |zero=>simp only[Bd,BB]at hi;exact hi▸hc
   |succ i=>exact ih e (by simpa using hi)
  .cases e
theorem nx(e:Zi h cs=true)(hi:cs[i]?=some av):WP h av=true:=by
 induction cs generalizing i with
 |nil=>simp at hi
 |cons c cs ih=>
  unfold Zi at e;split at e
  .rename_i hc;cases i with
   |zero=>simp only[Bd,BB]at hi;exact hi▸hc
   |succ i=>exact ih e (by simpa using hi)
  .cases e
theorem jL{Ch:List (Value×AV)}(e:SU h Ch=true){kv:Value×AV}(hi:Ch[i]?=some kv):WP h kv.2=true:=by
 induction Ch generalizing i with
 |nil=>simp at hi
 |cons c cs ih=>
  unfold SU at e;split at e
  .rename_i hc;cases i with
   |zero=>simp only[Bd,BB]at hi;exact hi▸hc
   |succ i=>exact ih e (by simpa using hi)
  .cases e
theorem BU.ids(r:BU g w U av x)(e:WP h av=true):BU g w (AR h) av x:=by
 cases r with
 |agg _ cs vs hs h1 hr=>exact .agg _ cs vs hs h1 fun i av x q1 q2=>(hr i av x q1 q2).ids0 (Vd e q1)
 |tup _ cs vs hs hr=>exact .tup _ cs vs hs fun i av x q1 q2=>(hr i av x q1 q2).ids0 (Vd e q1)
 |clo _ f cs vs hs hr=>exact .clo _ f cs vs hs fun i av x q1 q2=>(hr i av x q1 q2).ids0 (Vd e q1)
 |v=>exact .v _ _
 |junk=>exact .junk _ _
 |snil=>exact .snil _ _ _
 |slice _ es b off sz cap val hc hl DV EA=>exact .slice _ es b off sz cap val hc hl DV EA
 |tok _ r sz es x hs hl hu ht hn hx=>exact .tok _ r sz es x ((BU.slice_none hs).up _) hl (FE e) ht hn hx
 |ver _ r sz v es x hs hl hu ht hn hx=>exact .ver _ r sz v es x ((BU.slice_none hs).up _) hl (FE e) ht hn hx
 |full _ sz es x hs hl hx=>exact .full _ sz es x ((BU.slice_none hs).up _) hl hx
 |msl _ r n a cap hu ht hn ha hx=>exact .msl _ r n a cap (FE e) ht hn ha hx
 |cptr _ cs b off val DV EA=>exact .cptr _ cs b off val DV EA
 |ref _ r off b hu ht hx=>exact .ref _ r off b (FE e) ht hx
 |eref _ r n sz i off b cap hu ht hn hx=>exact .eref _ r n sz i off b cap (FE e) ht hn hx
 |mref _ r b hu ht hx=>exact .mref _ r b (FE e) ht hx
 |cmap _ sh Ch b es ck hS hb hm hv=>exact .cmap _ sh Ch b es ck hS hb hm hv
theorem bJ{st:St}{h:Nat->HO}:∀{l:List (Nat×AV)},leT st h l->∀i,UM l i=.junk\/(st.t i=UM l i/\WP h (UM l i)=true)
 | [],_,i=>.inl rfl
 |(j,a)::l,⟨h1,h2⟩,i=>by
  unfold UM
  by_cases e:i=j
  .subst e;simp only[Ds,La];exact .inr h1
  .simp only[Dd e,Es];exact bJ h2 i
theorem bI{st:St}{h hb:Nat->HO}(hhb:∀j,hb j=.free\/(st.h j=hb j/\TF h (hb j)=true)):∀{l:List (Nat×HO)},leH st h l->∀i,As l hb i=.free\/(st.h i=As l hb i/\TF h (As l hb i)=true)
 | [],_,i=>hhb i
 |(j,a)::l,⟨h1,h2⟩,i=>by
  unfold As
  by_cases e:i=j
  .subst e;simp only[Ds,La];exact .inr h1
  .simp only[Dd e,Es];exact bI hhb h2 i
def MP(h0:Nat->HO):Prop:=match cx.ext with|false=>∀i,h0 i=.free|true=>∀i,h0 i≠.free->1000<=i/\i<2000
section
variable {P:Program}{N:Nat}{ds:List Deferred}{w0:World}{g0:Gh}{h0:Nat->HO}{st:St}{g:Gh}{a:Act}{w:World}{cx:Cx}
theorem SR.weaken(hE:MP cx h0)(hS:SR N ds w0 g0 h0 st g a w){s:LS}(Is:St.le cx st s):SR N ds w0 g0 h0 s.st g a w:=by
 obtain⟨h1,h2,h3,h4⟩:=Is;have hT:=bJ h1;have hH:∀i,s.st.h i=.free\/(st.h i=s.st.h i/\TF s.st.h (s.st.h i)=true):=bI h3 h2;have KC:∀r,(s.st.h r).live->(st.h r).live:=fun r hl=>by
  rcases hH r with e|⟨e,_⟩
  .rw[e]at hl;exact hl.elim
  .rw[e];exact hl
 have hI:=hS.inv;refine⟨⟨hI.os,hI.tape,hI.output,hI.size,hI.frame,hI.slt,fun r=>?_,fun r r' b l l'=>hI.inj r r' b (KC r l) (KC r' l'),fun r b l=>hI.loc r b (KC r l),hI.sg,hI.glob⟩,⟨hS.le.gh,fun i hi=>?_,hS.le.keeps⟩,hS.dfs,hS.size,fun i=>?_⟩
 .rcases hH r with e|⟨e,e2⟩
  .rw[e];trivial
  .have ho:=hI.objs r;rw[e]at ho;generalize s.st.h r=o at ho e2;cases o with
   |cells cs=>
    obtain⟨t,b,E,vs,a1,a2,a3,a4,a5⟩:=ho;exact⟨t,b,E,vs,a1,a2,a3,⟨a4.1,a4.2.1,fun i av x q1 q2=>(a4.2.2 i av x q1 q2).ids (nx e2 q1)⟩,a5⟩
   |hol sz es i c av=>
    obtain⟨t,l,al,b,cap,E,vs,b1,b2,b3,b4,b5,b6,b7,b8,x,b9,Xo⟩:=ho;exact⟨t,l,al,b,cap,E,vs,b1,b2,b3,b4,b5,b6,b7,b8,x,b9,Xo.ids e2⟩
   |mapU sh Ch=>
    obtain⟨t,b,es,ck,a1,a2,a3,a4,a5,a6⟩:=ho;exact⟨t,b,es,ck,a1,a2,a3,a4,fun i kv e q1 q2=>(a5 i kv e q1 q2).ids (jL e2 q1),a6⟩
   |_=>exact ho
 .have hu:=hS.le.us i hi;unfold MP at hE;split at hE
  .exact absurd (hE i) hi
  .rename_i hx;rw[hx]at h4;exact h4 i (hE i hi).1 (hE i hi).2 hu
 .show BU g w (AR s.st.h) (UM s.t i) _;rcases hT i with e|⟨e,e2⟩
  .rw[e];exact .junk _ _
  .rw[<-e]at e2⊢;exact(hS.slots i).ids e2
def Ex.real:Ex->Exit
 |.normal=>.normal
 |.exit id=>.exit id
 |.ret=>.ret
def yv(N:Nat)(o:Oper):Bool:=match o.dst with|some d=>Nat.blt d N|none=>true
def ER(N:Nat):Code->Bool
 |.region _ ops _=>ops.toList.all (yv N)
 |.seq a b=>ER N a&&ER N b
 |.cond _ a b=>ER N a&&ER N b
 |.block _ c=>ER N c
 |.loop c=>ER N c
 |_=>true
theorem OW(hP:cx.P=P)(hT:CM P cx.T)(hm:P.follows .mixedOrders=true)(hE:MP cx h0)(hY:∀l σ h g w,EK σ=true->D3 w0 g0 h0 h g w->Le h0 g0 w0 h g w->cx.yp l σ (DU σ g) w)(ro:Option Nat):∀(c:Code),ER N c=true->∀{Qa:Ex->St->Prop} {Q:Exit->Act->World->Prop},
  (∀e st g a w,Qa e st->SR N ds w0 g0 h0 st g a w->Q e.real a w)->∀{st:St} {g:Gh} {a:Act} {w:World},SR N ds w0 g0 h0 st g a w->Tw cx c Qa st->c.wpIn (K3 ro) 0 P Q a w:=by
 intro c
 induction c with
 |skip=>intro _ Qa Q hQ st g a w hS hk;exact wpIn_skip (hQ .normal _ _ _ _ hk hS)
 |label l=>intro _ Qa Q hQ st g a w hS hk;exact wpIn_label (hQ .normal _ _ _ _ hk hS)
 |exit id=>intro _ Qa Q hQ st g a w hS hk;exact wpIn_exit (hQ (.exit id) _ _ _ _ hk hS)
 |ret=>intro _ Qa Q hQ st g a w hS hk;exact wpIn_ret (hQ .ret _ _ _ _ hk hS)
 |region id ops dr=>
  intro hc Qa Q hQ st g a w hS hk;have hd:∀o∈ops.toList,∀i,o.dst=some i->i<N:=fun o ho i hi=>by
   have:=(A1.1 hc) o ho
   simpa[yv,hi]using this
  have go:∀(st:St) (g:Gh) (hS:SR N ds w0 g0 h0 st g a w) (xp:Cx),xp.P=P->CM P xp.T->xp.yp=cx.yp->NU xp ops dr st (Qa .normal)->(Code.region id ops dr).wpIn (K3 ro) 0 P Q a w:=by
   intro st g hS xp hP hT hy hk;have hY:∀l σ h g w,EK σ=true->D3 w0 g0 h0 h g w->Le h0 g0 w0 h g w->xp.yp l σ (DU σ g) w:=by rw[hy];exact hY
   unfold NU at hk;split at hk
   .exact wpIn_region_list (YD hP hT hY (fun EB g' a' w' q1 q2=>hQ .normal _ _ _ _ q1 q2) ops.toList hd hS hk)
   .obtain⟨_,FT,hk⟩:=iQ hk;obtain⟨i1,i2⟩:=hS.inv.heapEq (w':={ w with drawn:=w.drawn+1 }) ⟨rfl,rfl,rfl⟩ rfl;have U0:SR N ds w0 g0 h0 st g a { w with drawn:=w.drawn+1 }:=⟨i1,hS.le.trans i2,hS.dfs,hS.size,fun i=>(hS.slots i).le i2⟩;exact wpIn_region_any hm (Yx hP hT hY (fun EB g' a' w' q1 q2=>hQ .normal _ _ _ _ q1 q2) (fun j o ho=>hd o (by simpa using Array.mem_of_getElem? ho)) _ _ U0 hk)
  have yE:∀(st:St) (g:Gh) (hS:SR N ds w0 g0 h0 st g a w),(match cx.pl.dyn with | []=>NU cx ops dr st (Qa .normal)|_=>∃n,NU { cx with nid:=n } ops dr st (Qa .normal))->(Code.region id ops dr).wpIn (K3 ro) 0 P Q a w:=by
   intro st g hS hk;split at hk
   .exact go st g hS cx hP hT rfl hk
   .obtain⟨n,hk⟩:=hk;exact go st g hS { cx with nid:=n } hP hT rfl hk
  unfold Tw yu at hk;split at hk
  .split at hk
   .split at hk
    .split at hk
     .obtain⟨h',g',U0,s,h1,h2⟩:=sv hS hk;exact yE s.st _ (U0.weaken hE h1) h2
     .obtain⟨h',g',U0,s,h1,h2⟩:=uj hS hk;exact yE s.st _ (U0.weaken hE h1) h2
    .obtain⟨EB,g',U0,s,h1,h2⟩:=um hS hk;exact yE s.st _ (U0.weaken hE h1) h2
   .obtain⟨h',g',U0,s,h1,h2⟩:=ur hS hk;exact yE s.st _ (U0.weaken hE h1) h2
  .exact yE st _ hS hk
 |seq x y ihx ihy=>
  intro hc Qa Q hQ st g a w hS hk;simp only[ER,Af]at hc;refine wpIn_seq (ihx hc.1 (Qa:=fun e EB=>match e with | .normal=>Tw cx y Qa EB|e=>Qa e EB) (fun e st g a w q hS=>?_) hS hk);cases e with
  |normal=>exact ihy hc.2 hQ hS q
  |exit id=>exact hQ (.exit id) _ _ _ _ q hS
  |ret=>exact hQ .ret _ _ _ _ q hS
 |cond c x y ihx ihy=>
  intro hc Qa Q hQ st g a w hS hk;simp only[ER,Af]at hc;have hr:=hS.eval c;unfold Tw at hk;generalize hx:ev st.t c=v at hk hr;split at hk
  .exact wpIn_cond_true hr.v_eq (ihx hc.1 hQ hS hk)
  .exact wpIn_cond_false hr.v_eq (ihy hc.2 hQ hS hk)
  .exact hk.elim
 |block id c ih=>
  intro hc Qa Q hQ st g a w hS hk;refine wpIn_block (ih hc (Qa:=fun e EB=>match e with | .exit j=>(bif Nat.beq j id then Qa .normal EB else Qa (.exit j) EB)|e=>Qa e EB) (fun e st g a w q hS=>?_) hS hk);cases e with
  |normal=>exact hQ .normal _ _ _ _ q hS
  |ret=>exact hQ .ret _ _ _ _ q hS
  |exit j=>
   show(if j=id then Q .normal a w else Q (.exit j) a w);dsimp only at q
   by_cases e:j=id
   .rw[Ap e];rw[e,Ds,La]at q;exact hQ .normal _ _ _ _ q hS
   .rw[Aj e];rw[Dd e,Es]at q;exact hQ (.exit j) _ _ _ _ q hS
 |loop c ih=>
  intro hc Qa Q hQ st g a w hS hk;obtain⟨α,I,μ,⟨x,hx⟩,yW⟩:=hk;refine TL (fun n a w=>∃x g,μ x=n/\SR N ds w0 g0 h0 (I x).st g a w) (μ x) ⟨x,g,rfl,hS.weaken hE hx⟩ ?_
  rintro n a w ⟨x,g,rfl,hS⟩
  refine ih hc (Qa:=fun e EB=>match e with | .normal=>∃y,μ y<μ x/\St.le cx EB (I y)|e=>Qa e EB) (fun e st g a w q hS=>?_) hS (yW x);cases e with
  |normal=>
   obtain⟨y,q1,q2⟩:=q;exact⟨μ y,q1,y,g,rfl,hS.weaken hE q2⟩
  |exit id=>exact hQ (.exit id) _ _ _ _ q hS
  |ret=>exact hQ .ret _ _ _ _ q hS
 |_=>intro _ Qa Q hQ st g a w hS hk;exact hk.elim
end
section
variable {P:Program}{N:Nat}{ds:List Deferred}{w0:World}{g0:Gh}{h0:Nat->HO}{st:St}{g:Gh}{a:Act}{w:World}
theorem bK{T:Ha}(hT:CM P T){h:Nat->HO}(ho:∀r,Ez g w (AR h) r (h r)){t:Nat}{p:AV}{vp:Value}(hp:BU g w (AR h) p vp)(hk:Jb T h t p K) :
  ∃ad,(asAddr vp).run P w=.ok ad w/\BW P h g w (loadVar t ad) K:=by
 obtain⟨x,av,h1,h2,h3⟩:=XT ho hT hp hk;have fin:∀b off,vp=.pointer (some ⟨b,off,none⟩)->∃ad,(asAddr vp).run P w=.ok ad w/\BW P h g w (loadVar t ad) K:=by
  rintro b off rfl
  refine⟨⟨b,off,none⟩,by simp[asAddr],x,av,?_,h2,h3⟩;simpa[Instr.loadAt,Instr.sureAddr]using h1
 unfold Jb at hk;split at hk
 .cases hp;exact fin _ _ rfl
 .cases hp;exact fin _ _ rfl
 .cases hp;exact fin _ _ rfl
 .exact hk.elim
def ft(tmps:Array Value):ResultVar->Sem Value
 |.tmp t=>pure (tmps.getD t undef)
 |.cell ad t=>do loadVar t (<-asAddr (tmps.getD ad undef))
theorem Pv(fn:Func)(tmps:Array Value):results fn tmps=(do
 let vs <-fn.results.mapM (ft tmps)
 pure (if h:vs.size=1 then vs[0]else .tuple vs)):=rfl
theorem Zx{cx:Cx}(hT:CM P cx.T)(hS:SR N ds w0 g0 h0 st g a w):∀(rs:List ResultVar) {K:List AV->Prop},rS cx.T st rs K ->
  ∃l vs,K l/\(rs.mapM (ft a.tmps)).run P w=.ok vs w/\vs.length=l.length/\vs.length=rs.length /\
   ∀(i:Nat) (av:AV) (x:Value),l[i]?=some av->vs[i]?=some x->BU g w FB av x
 | [],K,hk=>⟨[],[],hk,by simp,rfl,rfl,fun i av x h=>by simp at h⟩
 |.tmp t::r,K,hk=>by
  obtain⟨l,vs,h1,h2,h3,h4,h5⟩:=Zx hT hS r hk;refine⟨_,a.tmps.getD t undef::vs,h1,?_,by simp[h3],by simp[h4],fun i av x q1 q2=>?_⟩
  .rw[LJ];simp only[ft,Sem.run_bind,Sem.run_pure,Result.andThen_ok,h2]
  .cases i with
   |zero=>
    simp only[Bd,BB]at q1 q2;subst q1;subst q2;exact BU.str hS.inv.objs (hS.slots t)
   |succ i=>exact h5 i av x (by simpa using q1) (by simpa using q2)
 |.cell ad t::r,K,hk=>by
  obtain⟨addr,e1,x0,av0,e2,hk',e4⟩:=bK hT hS.inv.objs (hS.slots ad) hk;obtain⟨l,vs,h1,h2,h3,h4,h5⟩:=Zx hT hS r hk';refine⟨_,x0::vs,h1,?_,by simp[h3],by simp[h4],fun i av x q1 q2=>?_⟩
  .rw[LJ];simp only[ft,Sem.run_bind,Sem.run_pure,Result.andThen_ok,h2,e1,e2]
  .cases i with
   |zero=>
    simp only[Bd,BB]at q1 q2;subst q1;subst q2;exact BU.str hS.inv.objs e4
   |succ i=>exact h5 i av x (by simpa using q1) (by simpa using q2)
theorem rR{cx:Cx}(hT:CM P cx.T)(hS:SR N ds w0 g0 h0 st g a w)(hk:rQ cx st fn.results.toList K) :
  ∃g' r v h',K r/\(results fn a.tmps).run P w=.ok v w/\D3 w0 g0 h0 h' g' w/\Le h0 g0 w0 h' g' w/\BU g' w FB r v:=by
 obtain⟨g',i1,i2⟩:=N1 cx.pl.fin hS.inv;have U0:SR N ds w0 g0 h0 ⟨st.t,Qz st.h cx.pl.fin⟩ g' a w:=⟨i1,hS.le.trans i2,hS.dfs,hS.size,fun i=>(hS.slots i).le i2⟩;obtain⟨l,vs,h1,h2,h3,h4,h5⟩:=Zx hT U0 _ hk;have CZ:(results fn a.tmps).run P w=.ok (if h:vs.toArray.size=1 then vs.toArray[0]else .tuple vs.toArray) w:=by
  rw[Pv,show fn.results=fn.results.toList.toArray by simp,List.mapM_toArray];simp only[Sem.run_bind,Sem.run_map,h2,Result.andThen_ok,Sem.run_pure]
 refine⟨g',?_⟩
 match l,vs,h1,h3,h5,CZ with
 | [v],[x],h1,h3,h5,CZ=>exact⟨v,x,_,h1,by simpa using CZ,i1,U0.le,h5 0 v x rfl rfl⟩
 | [],vs,h1,h3,h5,CZ=>
  have:vs=[]:=AQ h3
  subst this;exact⟨.tup [],.tuple #[],_,h1,by simpa using CZ,i1,U0.le,.tup _ _ _ rfl fun i av x q=>by simp at q⟩
 |v::v' :: l,vs,h1,h3,h5,CZ=>
  refine⟨.tup (v::v' :: l),.tuple vs.toArray,_,h1,?_,i1,U0.le,.tup _ _ _ (by simpa using h3) fun i av x q1 q2=>h5 i av x q1 (by simpa using q2)⟩;rw[CZ]
  have:vs.toArray.size≠1:=by simp[h3]
  simp only[this,dif_neg,not_false_eq_true]
theorem D3.toFree(hI:D3 w0 g0 Ag st.h g w):D3 w0 g0 Ag Ag g w:=
 ⟨hI.os,hI.tape,hI.output,hI.size,hI.frame,hI.slt,fun _=>trivial,fun _ _ _ h=>h.elim,fun _ _ h=>h.elim,hI.sg,hI.glob⟩
theorem Qi{U:Nat->Prop}{n:Nat}:∀{args:List AV} {vals:List Value},vals.length=args.length->(∀(i:Nat) (av:AV) (x:Value),args[i]?=some av->vals[i]?=some x->BU g w U av x) ->
  ∀i,BU g w U (Qh args i) ((vals++List.replicate n undef).getD i undef)
 | [],[],_,_,i=>by
  have:(([]:List Value)++List.replicate n undef).getD i undef=undef:=by
   rw[FY,Cf,List.getElem?_replicate];split<;>rfl
  rw[this];exact .v _ _
 | [],_::_,h,_,_=>by simp at h
 |_::_,[],h,_,_=>by simp at h
 |x::l,v::vs,h,hr,i=>by
  cases i with
  |zero=>exact hr 0 x v rfl rfl
  |succ i=>
   have:=Qi (n:=n) (args:=l) (vals:=vs) (by simpa using h) (fun i av x q1 q2=>hr (i+1) av x (by simpa using q1) (by simpa using q2)) i
   simpa[Qh]using this
theorem lB {f:Nat}{args:List AV}{Q:AV->Prop}(hP:cx.P = P)(hT:CM P cx.T)(hm:P.follows .mixedOrders = true)(hx:cx.ext = false)(hf:P.funcs[f]? = some fn)(hn:(fn.name == "runtime.NumGoroutine") = false)(hb:fn.body=some c)(hN:args.length<=fn.ntmps)(hc:ER fn.ntmps c=true)(hk:Tw cx c (uN cx fn.results.toList Q) ⟨Qh args,Ag⟩)(hY:∀l σ g w,cx.yp l σ g w:=by exact fun _ _ _ _=>trivial):A9 P f args Ag fun r h'=>h'=Ag/\Q r:=by
 refine⟨⟨fn,hf,hn,by simp[hb]⟩,fun g w vals hs hv hI=>calls_of_wp hf hb ?_⟩;have hU:AR Ag=FB:=by funext i;unfold AR FB Ag;simp
 have hS:SR fn.ntmps [] w g Ag ⟨Qh args,Ag⟩ g { tmps:=vals++Array.replicate (fn.ntmps-vals.size) undef,defers:=[] } w:=by
  refine⟨hI,.refl _ _ _,rfl,by simp[hs];omega,fun i=>?_⟩
  have:=Qi (n:=fn.ntmps-vals.size) (args:=args) (vals:=vals.toList) (by simpa using hs) (fun i av x q1 q2=>hv i av x q1 (by simpa using q2)) i
  rw[CJ,<-A5];rw[Cf]at this;simpa using this
 refine wpIn_wide.1 (OW hP hT hm (by unfold MP;rw[hx];exact fun _=>rfl) (fun l σ _ _ w _ _ _=>hY l σ _ w) none c hc (fun e st g' a w' hk hS=>?_) hS hk);have out:rQ cx st fn.results.toList Q->a.defers=[]/\∃v,(results fn a.tmps).run P w'=.ok v w'/\∃v' r h' g',(Ending.returned v:Ending)=.returned v'/\(h'=Ag/\Q r)/\BU g' w' (AR h') r v'/\D3 w g Ag h' g' w'/\Le Ag g w h' g' w':=by
  intro hk;obtain⟨g2,r,v,h',q1,q2,q3,q4,q5⟩:=rR hT hS hk;exact⟨hS.dfs,v,q2,v,r,Ag,g2,rfl,⟨rfl,q1⟩,by rw[hU];exact q5,D3.toFree (st:=⟨st.t,h'⟩) q3,⟨fun i hi=>absurd rfl hi,fun i hi=>absurd rfl hi,q4.keeps⟩⟩
 cases e with
 |normal=>exact out hk
 |ret=>exact out hk
 |exit id=>exact hk.elim
theorem T1{cx:Cx}(hT:CM P cx.T)(hS:SR N ds w0 g0 h0 st g a w):∀(rs:List ResultVar) {K:List AV->Prop},rT cx.T st rs K ->
  ∃l vs,K l/\(rs.mapM (ft a.tmps)).run P w=.ok vs w/\vs.length=l.length/\vs.length=rs.length /\
   ∀(i:Nat) (av:AV) (x:Value),l[i]?=some av->vs[i]?=some x->BU g w (AR st.h) av x
 | [],K,hk=>⟨[],[],hk,by simp,rfl,rfl,fun i av x h=>by simp at h⟩
 |.tmp t::r,K,hk=>by
  obtain⟨l,vs,h1,h2,h3,h4,h5⟩:=T1 hT hS r hk;refine⟨_,a.tmps.getD t undef::vs,h1,?_,by simp[h3],by simp[h4],fun i av x q1 q2=>?_⟩
  .rw[LJ];simp only[ft,Sem.run_bind,Sem.run_pure,Result.andThen_ok,h2]
  .cases i with
   |zero=>
    simp only[Bd,BB]at q1 q2;subst q1;subst q2;exact hS.slots t
   |succ i=>exact h5 i av x (by simpa using q1) (by simpa using q2)
 |.cell ad t::r,K,hk=>by
  obtain⟨addr,e1,x0,av0,e2,hk',e4⟩:=bK hT hS.inv.objs (hS.slots ad) hk;obtain⟨l,vs,h1,h2,h3,h4,h5⟩:=T1 hT hS r hk';refine⟨_,x0::vs,h1,?_,by simp[h3],by simp[h4],fun i av x q1 q2=>?_⟩
  .rw[LJ];simp only[ft,Sem.run_bind,Sem.run_pure,Result.andThen_ok,h2,e1,e2]
  .cases i with
   |zero=>
    simp only[Bd,BB]at q1 q2;subst q1;subst q2;exact e4
   |succ i=>exact h5 i av x (by simpa using q1) (by simpa using q2)
theorem GZ{σ:J6}:∀{H0:List (Nat×HO)},Jw σ H0=true->∀i,As H0 Ag i≠.free->1000<=i/\i<2000/\CI σ i=some i
 | [],_,i,h=>absurd rfl h
 |(a,o)::r,hx,i,h=>by
  simp only[Jw,Af,Dw,CB]at hx;obtain⟨⟨⟨h1,h2⟩,h3⟩,h4⟩:=hx
  by_cases e:i=a
  .subst e;refine⟨h1,h2,?_⟩;split at h3
   .rename_i j e;rw[e,AL h3]
   .cases h3
  .unfold As at h;simp only[Dd e,Es]at h;exact GZ h4 i h
theorem Qj{H0:List (Nat×HO)}{σ:J6}(hσ:Hv σ=true)(hx:Jw σ H0=true){h:Nat->HO}(hI:D3 w0 g0 (As H0 Ag) h g w)(hL:Le (As H0 Ag) g0 w0 h g w) :
  LN (CI σ) h (F1 σ h) g (DU σ g) w/\D3 w0 g0 (As H0 Ag) (F1 σ h) (DU σ g) w/\Le (As H0 Ag) g0 w0 (F1 σ h) (DU σ g) w:=by
 have inv:=Zk hσ;have FI:∀j,F1 σ h j=match IQ σ j with|some i=>(h i).ren (CI σ) h|none=>.free:=QZ _ _ σ
 have hR:LN (CI σ) h (F1 σ h) g (DU σ g) w:=by
  refine⟨fun r r' hr hu=>?_,fun b o=>Sx,hI.objs⟩;have hb:=(inv r r').1 hr;refine⟨by simp[DU,hb],by simp[DU,hb],by simp[DU,hb],by simp[DU,hb],?_⟩;unfold AR;rw[FI,hb];exact(NM _ _ _).2 hu
 have KC:∀j,(F1 σ h j).live->∃i,IQ σ j=some i/\(h i).live:=fun j hl=>by
  rw[FI]at hl;cases e:IQ σ j with
  |none=>rw[e]at hl;exact hl.elim
  |some i=>rw[e]at hl;exact⟨i,rfl,(NL _ _ _).1 hl⟩
 have Zf:∀j i,IQ σ j=some i->(DU σ g).own j=g.own i:=fun j i e=>by simp[DU,e]
 refine⟨hR,⟨hI.os,hI.tape,hI.output,hI.size,hI.frame,hI.slt,fun j=>?_,fun j j' b hl RJ e e'=>?_,fun j b hl e=>?_,hI.sg,hI.glob⟩,⟨fun i hi=>?_,fun i hi=>?_,hL.keeps⟩⟩
 .rw[FI];cases e:IQ σ j with
  |none=>trivial
  |some i=>
   by_cases hu:AR h i
   .exact(hI.objs i).ren hR ((inv i j).2 e) hu
   .have:h i=.free:=BT.1 hu
    dsimp only;rw[this];trivial
 .obtain⟨i,e1,l1⟩:=KC j hl;obtain⟨i',e2,l2⟩:=KC j' RJ;rw[Zf j i e1]at e;rw[Zf j' i' e2]at e';obtain rfl:=hI.inj i i' b l1 l2 e e'
  have:=(inv i j).2 e1
  rw[(inv i j').2 e2]at this;cases this;rfl
 .obtain⟨i,e1,l1⟩:=KC j hl;rw[Zf j i e1]at e;exact hI.loc i b l1 e
 .obtain⟨_,_,hf⟩:=GZ hx i hi;have hb:=(inv i i).1 hf;have e1:(DU σ g).ρ i=g.ρ i/\(DU σ g).ln i=g.ln i/\(DU σ g).tk i=g.tk i:=by simp[DU,hb]
  obtain⟨k1,k2,k3,k4⟩:=hL.gh i hi;exact⟨e1.2.2.trans k1,by omega,fun t=>e1.1.trans (k3 t),fun l=>e1.1.trans (k4 ch)⟩
 .obtain⟨_,_,hf⟩:=GZ hx i hi;have hb:=(inv i i).1 hf;unfold AR;rw[FI,hb];exact(NM _ _ _).2 (hL.us i hi)
theorem bj{f:Nat}{args:List AV}{H0:List (Nat×HO)}{Q:AV->(Nat->HO)->Prop}(hP:cx.P=P)(hT:CM P cx.T)(hm:P.follows .mixedOrders=true)(hx:cx.ext=true)(hf:P.funcs[f]?=some fn)(_hn:(fn.name == "runtime.NumGoroutine") = false)(hb:fn.body = some c)(hN:args.length <= fn.ntmps)(hc:ER fn.ntmps c = true)(hσ:(Hv σ && Jw σ H0) = true)(hk:Tw cx c (aM cx fn.results.toList σ Q) ⟨Qh args,As H0 Ag⟩){g:Gh}{w:World}{vals:Array Value}(hs:vals.size=args.length)(hv:∀(i:Nat) (av:AV) (x:Value),args[i]?=some av->vals[i]?=some x->BU g w (AR (As H0 Ag)) av x)(hI:D3 w g (As H0 Ag) (As H0 Ag) g w)(hY:∀l σ h' g' w',EK σ=true->D3 w g (As H0 Ag) h' g' w'->Le (As H0 Ag) g w h' g' w'->cx.yp l σ (DU σ g') w') :
  Calls P f vals w fun e w'=>∃v r h' g',e=.returned v/\Q r h'/\BU g' w' (AR h') r v/\D3 w g (As H0 Ag) h' g' w'/\Le (As H0 Ag) g w h' g' w':=by
 simp only[Af]at hσ;obtain⟨hσ,tx⟩:=hσ;refine calls_of_wp hf hb ?_;have hS:SR fn.ntmps [] w g (As H0 Ag) ⟨Qh args,As H0 Ag⟩ g { tmps:=vals++Array.replicate (fn.ntmps-vals.size) undef,defers:=[] } w:=by
  refine⟨hI,.refl _ _ _,rfl,by simp[hs];omega,fun i=>?_⟩
  have:=Qi (n:=fn.ntmps-vals.size) (args:=args) (vals:=vals.toList) (by simpa using hs) (fun i av x q1 q2=>hv i av x q1 (by simpa using q2)) i
  rw[CJ,<-A5];rw[Cf]at this;simpa using this
 refine wpIn_wide.1 (OW hP hT hm (by unfold MP;rw[hx];exact fun i hi=>⟨(GZ tx i hi).1,(GZ tx i hi).2.1⟩) hY none c hc (fun e st g' a w' hk hS=>?_) hS hk);have out:kl cx st fn.results.toList σ Q->a.defers=[]/\∃v,(results fn a.tmps).run P w'=.ok v w'/\∃v' r h' g',(Ending.returned v:Ending)=.returned v'/\Q r h'/\BU g' w' (AR h') r v'/\D3 w g (As H0 Ag) h' g' w'/\Le (As H0 Ag) g w h' g' w':=by
  intro hk;obtain⟨g2,i1,i2⟩:=N1 cx.pl.fin hS.inv;have U0:SR fn.ntmps [] w g (As H0 Ag) ⟨st.t,Qz st.h cx.pl.fin⟩ g2 a w':=⟨i1,hS.le.trans i2,hS.dfs,hS.size,fun i=>(hS.slots i).le i2⟩;obtain⟨l,vs,h1,h2,h3,h4,h5⟩:=T1 hT U0 _ hk;obtain⟨hR,j1,j2⟩:=Qj hσ tx i1 U0.le;have CZ:(results fn a.tmps).run P w'=.ok (if h:vs.toArray.size=1 then vs.toArray[0]else .tuple vs.toArray) w':=by
   rw[Pv,show fn.results=fn.results.toList.toArray by simp,List.mapM_toArray];simp only[Sem.run_bind,Sem.run_map,h2,Result.andThen_ok,Sem.run_pure]
  refine⟨hS.dfs,?_⟩
  match l,vs,h1,h3,h5,CZ with
  | [v],[x],h1,h3,h5,CZ=>exact⟨x,by simpa using CZ,x,_,_,_,rfl,h1,(h5 0 v x rfl rfl).ren hR,j1,j2⟩
  | [],vs,h1,h3,h5,CZ=>
   have:vs=[]:=AQ h3
   subst this;exact⟨.tuple #[],by simpa using CZ,.tuple #[],_,_,_,rfl,h1,BU.ren hR (.tup _ [] _ rfl fun i av x q=>by simp at q),j1,j2⟩
  |v::v' :: l,vs,h1,h3,h5,CZ=>
   refine⟨.tuple vs.toArray,?_,.tuple vs.toArray,_,_,_,rfl,h1,BU.ren hR (.tup _ _ _ (by simpa using h3) fun i av x q1 q2=>h5 i av x q1 (by simpa using q2)),j1,j2⟩;rw[CZ]
   have:vs.toArray.size≠1:=by simp[h3]
   simp only[this,dif_neg,not_false_eq_true]
 cases e with
 |normal=>exact out hk
 |ret=>exact out hk
 |exit id=>exact hk.elim
theorem mL{f:Nat}{args:List AV}{H0:List (Nat×HO)}{Q:AV->(Nat->HO)->Prop}(hP:cx.P=P)(hT:CM P cx.T)(hm:P.follows .mixedOrders=true)(hx:cx.ext=true)(hf:P.funcs[f]?=some fn)(hn:(fn.name == "runtime.NumGoroutine") = false)(hb:fn.body = some c)(hN:args.length <= fn.ntmps)(hc:ER fn.ntmps c = true)(hσ:(Hv σ && Jw σ H0) = true)(hk:Tw cx c (aM cx fn.results.toList σ Q) ⟨Qh args,As H0 Ag⟩)(hY:∀l σ g w,cx.yp l σ g w:=by exact fun _ _ _ _=>trivial):A9 P f args (As H0 Ag) Q:=
 ⟨⟨fn,hf,hn,by simp[hb]⟩,fun g w vals hs hv hI=>bj cx σ hP hT hm hx hf hn hb hN hc hσ hk hs hv hI (fun l σ _ _ w _ _ _=>hY l σ _ w)⟩
end
def CX(r r' : AV):Prop:=∀(g:Gh) (w:World) (U:Nat->Prop) (x:Value),BU g w U r x->BU g w U r' x
theorem CX.refl(r:AV):CX r r:=fun _ _ _ _ h=>h
theorem CX.of_eq{r r' : AV}(h:r=r'):CX r r':=h▸.refl r
theorem CX.trans{a b c:AV}(h:CX a b)(k:CX b c):CX a c:=fun g w U x r=>k g w U x (h g w U x r)
theorem CX.nil:CX nzA (.slice .none []):=fun _ _ _ _ h=>by cases h;exact .snil _ _ _
def KX:List AV->List AV->Prop
 | [],[]=>True
 |a::r,b::s=>CX a b/\KX r s
 |_,_=>False
theorem KX.refl:∀l:List AV,KX l l
 | []=>trivial
 |a::l=>⟨.refl a,KX.refl l⟩
theorem KX.len:∀{l l' : List AV},KX l l'->l'.length=l.length
 | [],[],_=>rfl
 |_::_,_::_,h=>Aa (·+1) h.2.len
 | [],_::_,h=>h.elim
 |_::_,[],h=>h.elim
theorem KX.get:∀{l l' : List AV},KX l l'->∀(i:Nat) (b:AV),l'[i]?=some b->∃a,l[i]?=some a/\CX a b
 | [],[],_,i,b,h=>by simp at h
 |a::r,b::s,hs,i,c,h=>by
  cases i with
  |zero=>simp only[Bd,BB]at h;subst h;exact⟨a,rfl,hs.1⟩
  |succ i=>exact KX.get hs.2 i c (by simpa using h)
 | [],_::_,h,_,_,_=>h.elim
 |_::_,[],h,_,_,_=>h.elim
theorem CX.tup{l l' : List AV}(h:KX l l'):CX (.tup l) (.tup l'):=fun g w U x r=>by
 cases r with
 |tup _ _ vs hs hr=>
  refine .tup _ _ vs (by rw[hs,h.len]) fun i av x q1 q2=>?_;obtain⟨a,e1,e2⟩:=h.get i av q1;exact e2 _ _ _ _ (hr i a x e1 q2)
theorem CX.agg{l l' : List AV}(h:KX l l'):CX (.agg l) (.agg l'):=fun g w U x r=>by
 cases r with
 |agg _ _ vs hs h1 hr=>
  refine .agg _ _ vs (by rw[hs,h.len]) h1 fun i av x q1 q2=>?_;obtain⟨a,e1,e2⟩:=h.get i av q1;exact e2 _ _ _ _ (hr i a x e1 q2)
def dg:List (List AV)->List (List AV)->Prop
 | [],[]=>True
 |a::r,b::s=>KX a b/\dg r s
 |_,_=>False
theorem dg.len:∀{l l' : List (List AV)},dg l l'->l'.length=l.length
 | [],[],_=>rfl
 |_::_,_::_,h=>Aa (·+1) h.2.len
 | [],_::_,h=>h.elim
 |_::_,[],h=>h.elim
theorem dg.get:∀{l l' : List (List AV)},dg l l'->∀(i:Nat) (b:List AV),l'[i]?=some b->∃a,l[i]?=some a/\KX a b
 | [],[],_,i,b,h=>by simp at h
 |a::r,b::s,hs,i,c,h=>by
  cases i with
  |zero=>simp only[Bd,BB]at h;subst h;exact⟨a,rfl,hs.1⟩
  |succ i=>exact dg.get hs.2 i c (by simpa using h)
 | [],_::_,h,_,_,_=>h.elim
 |_::_,[],h,_,_,_=>h.elim
theorem CX.slice{l l' : List (List AV)}(h:dg l l'):CX (.slice .none l) (.slice .none l'):=fun g w U x r=>by
 have CH:=h.len;cases r with
 |snil _ a cap=>
  have:l'=[]:=AQ (by rw[CH];rfl)
  subst this;exact .snil _ a cap
 |slice _ _ b off sz cap val hc hl DV EA=>
  rw[<-CH];refine .slice _ _ b off sz cap val (by rw[CH];exact hc) (fun i cs hi=>?_) (fun i cs j av hi hj=>?_) (fun i cs j av hi hj=>?_)
  .obtain⟨a,e1,e2⟩:=h.get i cs hi;rw[e2.len];exact hl i a e1
  .obtain⟨a,e1,e2⟩:=h.get i cs hi;obtain⟨c,f1,f2⟩:=e2.get j av hj;exact DV i a j c e1 f1
  .obtain⟨a,e1,e2⟩:=h.get i cs hi;obtain⟨c,f1,f2⟩:=e2.get j av hj;exact f2 _ _ _ _ (EA i a j c e1 f1)
section
variable {P:Program}
theorem A9.mono{f:Nat}{args:List AV}{h0:Nat->HO}{Q Q' : AV->(Nat->HO)->Prop}(h:A9 P f args h0 Q)(hq:∀r h',Q r h'->∃r',CX r r'/\Q' r' h'):A9 P f args h0 Q':=
 ⟨h.1,fun g w vals q1 q2 q3=>(h.2 g w vals q1 q2 q3).mono fun _ _ ⟨v,r,h',g',e1,e2,e3,rest⟩=>
  let ⟨r',s,k⟩:=hq r h' e2
  ⟨v,r',h',g',e1,k,s _ _ _ _ e3,rest⟩⟩
theorem A9.args{args args' : List AV}{h0:Nat->HO}{Q:AV->(Nat->HO)->Prop}(h:A9 P f args h0 Q)(hs:KX args' args):A9 P f args' h0 Q:=
 ⟨h.1,fun g w vals q1 q2 q3=>h.2 g w vals (by rw[q1,hs.len]) (fun i av x e1 e2=>by
  obtain⟨a,f1,f2⟩:=hs.get i av e1;exact f2 _ _ _ _ (q2 i a x f1 e2)) q3⟩
theorem Jp.args{f:Nat}{args args' : List AV}{res:AV}(h:Jp P f args res)(hs:KX args' args):Jp P f args' res:=A9.args h hs
theorem Gc {args:List AV}{res:AV}(hP:cx.P = P)(hT:CM P cx.T)(hm:P.follows .mixedOrders = true)(hx:cx.ext = false)(hf:P.funcs[f]? = some fn)(hn:(fn.name == "runtime.NumGoroutine") = false)(hb:fn.body=some c)(hN:args.length<=fn.ntmps)(hc:ER fn.ntmps c=true)(hk:Tw cx c (uN cx fn.results.toList fun r=>CX r res) ⟨Qh args,Ag⟩)(hY:∀l σ g w,cx.yp l σ g w:=by exact fun _ _ _ _=>trivial):Jp P f args res:=
 (lB cx hP hT hm hx hf hn hb hN hc hk hY).mono fun _ _ ⟨e1,e2⟩=>⟨res,e2,rfl,e1⟩
end
end Go.Eng
namespace Go.Eng
open Go.ChangeShapes Go.WideShapes
variable {p:List MemPlace}{w:World}{g:Gh}
def mJ(w:World):Gh:=⟨fun _=>undef,fun _=>0,fun _=>false,fun _=>none,fun b _=>b<w.heap.size⟩
theorem YP{b o:Nat}{v:Value}(h:w.cell? ⟨b,o,none⟩=some v):b<w.heap.size:=by
 unfold World.cell? at h;cases hh:w.heap[b]? with
 |none=>simp[hh]at h
 |some x=>exact(Bv.1 hh).1
theorem zL(hg:∃m,w.cell? ⟨0,0,none⟩=some (.int .i64 m))(ht:∀x∈mK,x.1<w.heap.size/\w.cell? ⟨x.1,x.2.1,none⟩=x.2.2):D3 w (mJ w) Ag Ag (mJ w) w where
 os:=rfl
 tape:=rfl
 output:=rfl
 size:=Am _
 frame:=fun _ _ _=>rfl
 slt:=fun _ _ h=>h
 objs:=fun _=>trivial
 inj:=fun _ _ _ h=>h.elim
 loc:=fun _ _ h=>h.elim
 sg:=fun _ _ h=>.inl h
 glob:=⟨⟨by obtain⟨m,h⟩:=hg;exact YP h,hg⟩,fun x hx=>ht x hx⟩
theorem Vs{α β:Type}{f:α->Option β}:∀{l:List α} {r:List β},l.mapM f=some r->r.length=l.length/\∀(i:Nat) x,l[i]?=some x->∃y,r[i]?=some y/\f x=some y
 | [],r,h=>by simp at h;subst h;simp
 |a::l,r,h=>by
  rw[LJ]at h;cases ha:f a with
  |none=>simp[ha]at h
  |some b=>
   cases hl:l.mapM f with
   |none=>simp[ha,hl]at h
   |some s=>
    simp[ha,hl]at h;subst h;obtain⟨h1,h2⟩:=Vs hl;refine⟨by simp[h1],fun i x hx=>?_⟩;cases i with
    |zero=>simp at hx;subst hx;exact⟨b,by simp,ha⟩
    |succ i=>obtain⟨y,h3,h4⟩:=h2 i x (by simpa using hx);exact⟨y,by simpa using h3,h4⟩
theorem Xu{base:Nat}{a:Addr}{n:Nat}{cs:List Value}(h:w.cells? base a n=some cs) :
  cs.length=n/\(0<n->a.spot=none)/\∀j,j<n->∃v,cs[j]?=some v/\w.cell? ⟨a.block,a.off+j,none⟩=some v:=by
 unfold World.cells? at h;split at h
 .obtain⟨h1,h2⟩:=Vs h;have one:∀j,j<n->∃v,cs[j]?=some v/\w.cell? (a.add j)=some v:=fun j hj=>by
   obtain⟨v,e1,e2⟩:=h2 j j (by simp[hj]);exact⟨v,e1,e2⟩
  have zF:0<n->a.spot=none:=fun hn=>by
   obtain⟨v,_,hv⟩:=one 0 hn;simp only[Addr.add,Ap]at hv;cases hs:a.spot with
   |none=>rfl
   |some s=>
    simp only[World.cell?]at hv;split at hv
    .simp[hs]at hv
    .cases hv
  refine⟨by simpa using h1,zF,fun j hj=>?_⟩;obtain⟨v,e1,e2⟩:=one j hj;refine⟨v,e1,?_⟩;have hs:=zF ch;have e:a.add j=⟨a.block,a.off+j,none⟩:=by
   unfold Addr.add;split
   .rename_i h0;subst h0;cases a;simp_all
   .rfl
  rw[<-e];exact e2
 .cases h
section
variable {H:Type}{enc:TypeId×Value->H}{P:Program}{w:World}{bk:DataW H->Nat}{N:Nat}
structure Ys(bk:DataW H->Nat):Prop where
 slice:∀es sp,es.length<=bk (.slice es sp)/\∀d∈es,bk d<=bk (.slice es sp)
 agg:∀ps,∀d∈ps,bk d<=bk (.agg ps)
 str:∀b:List UInt8,b.length<=bk (.lit (.string b))
def K7(enc:TypeId×Value->H)(P:Program)(w:World)(bk:DataW H->Nat)(N:Nat)(t:TypeId){α:Type}(e:α->List AV)(ok:α->Prop):Prop:=
 ∀(fuel:Nat) (cs:List Value) (d:DataW H) (ps:List MemPlace),DataW.trod enc P w 0 (fun _=>true) true fuel t cs=some (d,ps)->bk d<=N->∃x:α,CW (mJ w) w FB (e x) cs/\ok x
theorem Sw{U:Nat->Prop}{a:AV}{v:Value}(h1:v.oneCell'=true)(h2:BU g w U a v):CW g w U [a] [v]:=by
 refine⟨rfl,fun x hx=>by simp at hx;subst hx;exact h1,fun i av x q1 q2=>?_⟩;cases i with
 |zero=>simp at q1 q2;subst q1;subst q2;exact h2
 |succ i=>simp at q1
theorem lh{U:Nat->Prop}{a b:List AV}{c d:List Value}(h:CW g w U a c)(k:CW g w U b d):CW g w U (a++b) (c++d):=by
 obtain⟨h1,h2,h3⟩:=h;obtain⟨k1,k2,k3⟩:=k;refine⟨by simp[h1,k1],fun x hx=>(AN.1 hx).elim (h2 x) (k2 x),fun i av x q1 q2=>?_⟩
 by_cases hi:i<a.length
 .rw[AT hi]at q1;rw[AT ch]at q2;exact h3 i av x q1 q2
 .rw[A2 ch]at q1;rw[A2 ch,h1]at q2;exact k3 _ av x q1 q2
theorem xi{U:Nat->Prop}:CW g w U [] []:=⟨rfl,(fun x hx=>by cases hx),fun i av x q1=>by simp at q1⟩
theorem RX{t:TypeId}{k:IntKind}(hu:P.underlying t=some (.int k)):K7 enc P w bk N t (fun n:Int=>[AV.v (.int k n)]) (fun n=>k.min<=n/\n<=k.max):=by
 intro fuel cs d ps h _;cases fuel with
 |zero=>simp[DataW.trod]at h
 |succ fuel=>
  rw[DataW.trod_step]at h;unfold DataW.trodStep at h;rw[hu]at h;split at h<;>rename_i he<;>first|cases he|skip
  all_goals first|(split at h<;>first|cases h|skip)|cases h|skip
  rename_i n hc _;obtain⟨rfl,hw⟩:=hc;simp only[Lit.wf,Af,AA]at hw;exact⟨_,Sw rfl (.v _ _),hw⟩
theorem eX{t:TypeId}(hu:P.underlying t=some .bool):K7 enc P w bk N t (fun b:Bool=>[AV.v (.bool b)]) (fun _=>True):=by
 intro fuel cs d ps h _;cases fuel with
 |zero=>simp[DataW.trod]at h
 |succ fuel=>
  rw[DataW.trod_step]at h;unfold DataW.trodStep at h;rw[hu]at h;split at h<;>rename_i he<;>first|cases he|skip
  all_goals first|cases h|skip
  exact⟨_,Sw rfl (.v _ _),trivial⟩
theorem Zw{t:TypeId}(hB:Ys bk)(hu:P.underlying t=some .string):K7 enc P w bk N t (fun s:ByteArray=>[AV.v (.string s)]) (fun s=>s.size<=N):=by
 intro fuel cs d ps h hb;cases fuel with
 |zero=>simp[DataW.trod]at h
 |succ fuel=>
  rw[DataW.trod_step]at h;unfold DataW.trodStep at h;rw[hu]at h;split at h<;>rename_i he<;>first|cases he|skip
  all_goals first|(split at h<;>first|cases h|skip)|cases h|skip
  rename_i s hs;refine⟨s,Sw rfl (.v _ _),?_⟩
  have:=hB.str s.data.toList
  have e:s.data.toList.length=s.size:=by rw[B1];rfl
  omega
theorem FK{t e:TypeId}{α:Type}{E:α->List AV}{ok:α->Prop}{m:Nat}(hB:Ys bk)(hu:P.underlying t=some (.slice e))(hm:P.cellsOf e=m+1)(hE:∀x,(E x).length=m+1)(he:K7 enc P w bk N e E ok) :
  K7 enc P w bk N t (fun l:List α=>[AV.slice .none (l.map E)]) (fun l=>l.length<=N/\∀x∈l,ok x):=by
 intro fuel cs d ps h hb;cases fuel with
 |zero=>simp[DataW.trod]at h
 |succ fuel=>
  rw[DataW.trod_step]at h;unfold DataW.trodStep at h;rw[hu]at h;split at h<;>rename_i hq<;>first|cases hq|skip
  all_goals first|(cases h;done)|skip
  .cases h
   exact⟨[],Sw rfl (.snil _ _ _),AB _,fun x hx=>by cases hx⟩
  .rename_i a len cap;simp only at h;split at h
   .rename_i hc;simp only[AX,Ug]at h;obtain⟨sZ,hel,rest,_,hd⟩:=h;simp only[Gk]at hd;obtain⟨hd,_⟩:=hd;obtain⟨hl,FI⟩:=Vs hel;rw[LI]at hl;have hbs:=hB.slice (sZ.map (·.1)) (rest.map (·.1));rw[hd]at hbs;rw[A7]at hbs;have one:∀i,i<len->∃(x:α) (vs:List Value),w.cells? 0 (a.add (i*P.cellsOf e)) (P.cellsOf e)=some vs/\CW (mJ w) w FB (E x) vs/\ok x:=fun i hi=>by
     obtain⟨y,hy,hf⟩:=FI i i (by simp[hi]);simp only[Ug]at hf;obtain⟨vs,hv,ht⟩:=hf;obtain⟨x,r1,r2⟩:=he fuel vs y.1 y.2 ht (AK (hbs.2 y.1 (Ai.2 ⟨y,Az hy,rfl⟩)) hb);exact⟨x,vs,hv,r1,r2⟩
    have build:∀k,k<=len->∃l:List α,l.length=k/\∀(i:Nat) x,l[i]?=some x->∃vs:List Value,w.cells? 0 (a.add (i*P.cellsOf e)) (P.cellsOf e)=some vs/\CW (mJ w) w FB (E x) vs/\ok x:=fun k=>by
     induction k with
     |zero=>exact fun _=>⟨[],rfl,fun i x q=>by simp at q⟩
     |succ k ih=>
      intro hk;obtain⟨l,h1,h2⟩:=ih ch;obtain⟨x,hx⟩:=one k ch;refine⟨l++[x],by simp[h1],fun i y q=>?_⟩
      by_cases hi:i<l.length
      .rw[AT hi]at q;exact h2 i y q
      .rw[A2 ch]at q
       have:i-l.length=0:=by
        cases hz:i-l.length with
        |zero=>rfl
        |succ z=>rw[hz]at q;simp at q
       rw[this]at q;simp only[Bd,BB]at q;subst q
       have:i=k:=by omega
       subst this;exact hx
    obtain⟨l,h1,h2⟩:=build len (Am _);refine⟨l,Sw rfl ?_,by omega,fun x hx=>?_⟩
    .cases CH:len with
     |zero=>
      have:l=[]:=AQ ch
      subst this;exact .snil _ _ _
     |succ n=>
      have zF:a.spot=none:=by
       obtain⟨x,vs,hv,_⟩:=one 0 ch
       have:=(Xu hv).2.1 ch
       simpa[Addr.add]using this
      have ea:a=⟨a.block,a.off,none⟩:=by cases a;simp_all
      rw[<-CH,<-h1,show l.length=(l.map E).length by simp,ea];have cell:∀(i:Nat) (c:List AV) (j:Nat) (av:AV),(l.map E)[i]?=some c->c[j]?=some av->∃v,w.cell? ⟨a.block,a.off+i*(m+1)+j,none⟩=some v/\v.oneCell'=true/\BU (mJ w) w FB av v:=by
       intro i c j av q1 q2;rw[AG,AX]at q1;obtain⟨x,q1,rfl⟩:=q1;obtain⟨vs,hv,hr,_⟩:=h2 i x q1;obtain⟨k1,_,k3⟩:=Xu hv;have hj:j<m+1:=by
        have:=(Aw.1 q2).1
        rw[hE]at this;exact this
       obtain⟨v,e1,e2⟩:=k3 j ch;refine⟨v,?_,hr.2.1 v (Az e1),hr.2.2 j av v q2 e1⟩;rw[<-e2,hm];unfold Addr.add;split
       .rename_i h0;rw[h0];simp
       .rfl
      refine .slice _ _ a.block a.off (m+1) cap (fun i j=>(w.cell? ⟨a.block,a.off+i*(m+1)+j,none⟩).getD undef) (by rw[A7];omega) (fun i c q=>?_) (fun i c j av q1 q2=>?_) (fun i c j av q1 q2=>?_)
      .rw[AG,AX]at q;obtain⟨x,_,rfl⟩:=q;exact hE x
      .obtain⟨v,e1,e2,_⟩:=cell i c j av q1 q2;exact⟨YP e1,by rw[e1];rfl,by rw[e1];exact e2⟩
      .obtain⟨v,e1,_,e3⟩:=cell i c j av q1 q2;rw[e1];exact e3
    .obtain⟨i,hi⟩:=Ct.1 hx;obtain⟨_,_,_,h⟩:=h2 i x hi;exact h
   .cases h
theorem Oc{t e:TypeId}(hu:P.underlying t=some (.slice e)):K7 enc P w bk N t (fun _:Unit=>[AV.junk]) (fun _=>True):=by
 intro fuel cs d ps h _;cases fuel with
 |zero=>simp[DataW.trod]at h
 |succ fuel=>
  rw[DataW.trod_step]at h;unfold DataW.trodStep at h;rw[hu]at h;split at h<;>rename_i hq<;>first|cases hq|skip
  all_goals first|(cases h;done)|skip
  all_goals exact⟨(),Sw rfl (.junk _ _),trivial⟩
theorem K7.to{t:TypeId}{α β:Type}{e:α->List AV}{ok:α->Prop}{e' : β->List AV}{z6:β->Prop}(h:K7 enc P w bk N t e ok)(f:α->β)(hf:∀x,ok x->e' (f x)=e x/\z6 (f x)):K7 enc P w bk N t e' z6:=by
 intro fuel cs d ps k hb;obtain⟨x,h1,h2⟩:=h fuel cs d ps k hb;obtain⟨e1,e2⟩:=hf x h2;exact⟨f x,by rw[e1];exact h1,e2⟩
def Yv(enc:TypeId×Value->H)(P:Program)(w:World)(bk:DataW H->Nat)(N L:Nat)(l:List Field)(o:Nat){α:Type}(e:α->List AV)(ok:α->Prop):Prop:=
 ∀(fuel:Nat) (cs:List Value) (xs:List (DataW H×List MemPlace)),cs.length=L->l.mapM (fun f=>DataW.trod enc P w 0 (fun _=>true) true fuel f.type ((cs.drop f.offset).take (P.cellsOf f.type)))=some xs->(∀x∈xs,bk x.1<=N) ->
  ∃x:α,CW (mJ w) w FB (e x) (cs.drop o)/\ok x
theorem Fu{L:Nat}:Yv enc P w bk N L [] L (fun _:Unit=>[]) (fun _=>True):=by
 intro fuel cs xs hl _ _;refine⟨(),?_,trivial⟩;rw[Wy ch];exact xi
theorem BL{L o n:Nat}{f:Field}{l:List Field}{α β:Type}{e:α->List AV}{ok:α->Prop}{e' : β->List AV}{z6:β->Prop}(ho:f.offset=o)(hn:P.cellsOf f.type=n)(h:K7 enc P w bk N f.type e ok)(k:Yv enc P w bk N L l (o+n) e' z6) :
  Yv enc P w bk N L (f::l) o (fun p:α×β=>e p.1++e' p.2) (fun p=>ok p.1/\z6 p.2):=by
 intro fuel cs xs hl hx hb;rw[LJ]at hx;simp only[Option.bind_eq_bind,Ug]at hx;obtain⟨y,hy,ys,hys,qb⟩:=hx;simp only[Option.pure_def,BB]at qb;subst qb;obtain⟨x,r1,r2⟩:=h fuel _ y.1 y.2 hy (hb y (Ab ..));obtain⟨z,s1,s2⟩:=k fuel cs ys hl hys (fun q hq=>hb q (Ah _ hq));refine⟨(x,z),?_,r2,s2⟩;have e:cs.drop o=(cs.drop o).take n++cs.drop (o+n):=by rw[<-List.drop_drop,GD]
 rw[e];rw[ho,hn]at r1;exact lh r1 s1
theorem Eo{t:TypeId}{L:Nat}{fs:Array Field}{α:Type}{e:α->List AV}{ok:α->Prop}(hB:Ys bk)(hu:P.underlying t=some (.struct fs))(hL:P.cellsOf t=L)(h:Yv enc P w bk N L fs.toList 0 e ok):K7 enc P w bk N t e ok:=by
 intro fuel cs d ps k hb;cases fuel with
 |zero=>simp[DataW.trod]at k
 |succ fuel=>
  rw[DataW.trod_step]at k;unfold DataW.trodStep at k;rw[hu]at k
  change (if cs.length=P.cellsOf t then(fs.toList.mapM fun f=>DataW.trod enc P w 0 (fun _=>true) true fuel f.type ((cs.drop f.offset).take (P.cellsOf f.type))).map fun xs=>(DataW.agg (xs.map (·.1)),xs.flatMap (·.2))else none)=some (d,ps)at k
  split at k
  .rename_i hc;simp only[AX,Gk]at k;obtain⟨xs,hx,hd,_⟩:=k;have hba:=hB.agg (xs.map (·.1));rw[hd]at hba;obtain⟨x,r1,r2⟩:=h fuel cs xs ch hx (fun y hy=>AK (hba y.1 (Ai.2 ⟨y,hy,rfl⟩)) hb);exact⟨x,r1,r2⟩
  .cases k
theorem oy{t:TypeId}{α:Type}{e:α->AV}{ok:α->Prop}(h:K7 enc P w bk N t (fun x=>[e x]) ok){v:Value}{d:DataW H}(hv:v.oneCell'=true)(k:DataW.Trod enc P w 0 (fun _=>true) true t v d p)(hb:bk d<=N) :
  ∃x,BU (mJ w) w FB (e x) v/\ok x:=by
 obtain⟨fuel,k⟩:=k;have ec:v.cells.toList=[v]:=by cases v<;>first|rfl|cases hv
 rw[ec]at k;obtain⟨x,r1,r2⟩:=h fuel _ d p k hb;exact⟨x,r1.2.2 0 _ _ rfl rfl,r2⟩
theorem co{t:TypeId}{α:Type}{e:α->List AV}{ok:α->Prop}(h:K7 enc P w bk N t e ok){cs:Array Value}{d:DataW H}(k:DataW.Trod enc P w 0 (fun _=>true) true t (.agg cs) d p)(hb:bk d<=N) :
  ∃x,BU (mJ w) w FB (.agg (e x)) (.agg cs)/\ok x:=by
 obtain⟨fuel,k⟩:=k;obtain⟨x,r1,r2⟩:=h fuel cs.toList d p k hb;refine⟨x,.agg _ _ _ (by have:=r1.1;simpa using this) (fun i y q=>r1.2.1 y (by rw[Array.mem_toList_iff];exact Array.mem_of_getElem? q)) (fun i av y q1 q2=>r1.2.2 i av y q1 (by simpa using q2)),r2⟩
end
end Go.Eng
