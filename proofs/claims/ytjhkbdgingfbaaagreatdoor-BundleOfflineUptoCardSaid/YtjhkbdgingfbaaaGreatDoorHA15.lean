/- Lemmas 15. -/
import Derived.Test.YtjhkbdgingfbaaaGreatDoorHA14
import Derived.Deep.LoopGhost
import Derived.ReadAgain
import Derived.RowKit
import Derived.Test.YtjhkbdgingfbaaaGreatDoorProg
namespace Go.Eng
variable {h:Nat->HO}{fn:Func}{c:Code}{U:Nat->Prop}{K:AV->Prop}{av:AV}{cs:List AV}{i:Nat}{w:World}{x:Value}{f:Nat}{g:Gh}(cx:Cx)(σ:HU)
theorem Fy{r:Nat}(e:SJ h r=true):AN h r:=by
 unfold SJ at e;unfold AN;split at e
 .cases e
 .rename_i hh;exact hh
theorem Br.ids0(r:Br g w U av x)(e:ids0 h av=true):Br g w (AN h) av x:=by
 cases r with
 |v=>exact .v _ _
 |junk=>exact .junk _ _
 |snil=>exact .snil _ _ _
 |slice _ es b off sz cap val hc hl Dg D8=>exact .slice _ es b off sz cap val hc hl Dg D8
 |tok _ r sz es x hs hl hu ht hn hx=>exact .tok _ r sz es x ((Br.slice_none hs).up _) hl (Fy e) ht hn hx
 |ver _ r sz v es x hs hl hu ht hn hx=>exact .ver _ r sz v es x ((Br.slice_none hs).up _) hl (Fy e) ht hn hx
 |full _ sz es x hs hl hx=>exact .full _ sz es x ((Br.slice_none hs).up _) hl hx
 |msl _ r n a cap hu ht hn ha hx=>exact .msl _ r n a cap (Fy e) ht hn ha hx
 |agg=>cases e
 |tup=>cases e
 |cptr _ cs b off val Dg D8=>exact .cptr _ cs b off val Dg D8
 |ref _ r off b hu ht hx=>exact .ref _ r off b (Fy e) ht hx
 |eref _ r n sz i off b cap hu ht hn hx=>exact .eref _ r n sz i off b cap (Fy e) ht hn hx
 |mref _ r b hu ht hx=>exact .mref _ r b (Fy e) ht hx
 |cmap _ sh B7 b es ck hS hb hm hv=>exact .cmap _ sh B7 b es ck hS hb hm hv
 |clo=>cases e
theorem Uo(e:ar h cs=true)(hi:cs[i]?=some av):ids0 h av=true:=by
 induction cs generalizing i with
 |nil=>simp at hi
 |cons c cs ih=>
  unfold ar at e;split at e
  .rename_i hc;cases i with
   |zero=>simp only[A4,Bk]at hi;exact hi▸hc
   |succ i=>exact ih e (by simpa using hi)
  .cases e
theorem mB(e:Yo h cs=true)(hi:cs[i]?=some av):Un h av=true:=by
 induction cs generalizing i with
 |nil=>simp at hi
 |cons c cs ih=>
  unfold Yo at e;split at e
  .rename_i hc;cases i with
   |zero=>simp only[A4,Bk]at hi;exact hi▸hc
   |succ i=>exact ih e (by simpa using hi)
  .cases e
theorem iC{B7:List (Value×AV)}(e:Se h B7=true){kv:Value×AV}(hi:B7[i]?=some kv):Un h kv.2=true:=by
 induction B7 generalizing i with
 |nil=>simp at hi
 |cons c cs ih=>
  unfold Se at e;split at e
  .rename_i hc;cases i with
   |zero=>simp only[A4,Bk]at hi;exact hi▸hc
   |succ i=>exact ih e (by simpa using hi)
  .cases e
theorem Br.ids(r:Br g w U av x)(e:Un h av=true):Br g w (AN h) av x:=by
 cases r with
 |agg _ cs vs hs h1 hr=>exact .agg _ cs vs hs h1 fun i av x q1 q2=>(hr i av x q1 q2).ids0 (Uo e q1)
 |tup _ cs vs hs hr=>exact .tup _ cs vs hs fun i av x q1 q2=>(hr i av x q1 q2).ids0 (Uo e q1)
 |clo _ f cs vs hs hr=>exact .clo _ f cs vs hs fun i av x q1 q2=>(hr i av x q1 q2).ids0 (Uo e q1)
 |v=>exact .v _ _
 |junk=>exact .junk _ _
 |snil=>exact .snil _ _ _
 |slice _ es b off sz cap val hc hl Dg D8=>exact .slice _ es b off sz cap val hc hl Dg D8
 |tok _ r sz es x hs hl hu ht hn hx=>exact .tok _ r sz es x ((Br.slice_none hs).up _) hl (Fy e) ht hn hx
 |ver _ r sz v es x hs hl hu ht hn hx=>exact .ver _ r sz v es x ((Br.slice_none hs).up _) hl (Fy e) ht hn hx
 |full _ sz es x hs hl hx=>exact .full _ sz es x ((Br.slice_none hs).up _) hl hx
 |msl _ r n a cap hu ht hn ha hx=>exact .msl _ r n a cap (Fy e) ht hn ha hx
 |cptr _ cs b off val Dg D8=>exact .cptr _ cs b off val Dg D8
 |ref _ r off b hu ht hx=>exact .ref _ r off b (Fy e) ht hx
 |eref _ r n sz i off b cap hu ht hn hx=>exact .eref _ r n sz i off b cap (Fy e) ht hn hx
 |mref _ r b hu ht hx=>exact .mref _ r b (Fy e) ht hx
 |cmap _ sh B7 b es ck hS hb hm hv=>exact .cmap _ sh B7 b es ck hS hb hm hv
theorem aD{st:St}{h:Nat->HO}:∀{l:List (Nat×AV)},z6 st h l->∀i,TX l i=.junk\/(st.t i=TX l i/\Un h (TX l i)=true)
 | [],_,i=>.inl rfl
 |(j,a)::l,⟨h1,h2⟩,i=>by
  unfold TX
  by_cases e:i=j
  .subst e;simp only[CU,Kr];exact .inr h1
  .simp only[B9 e,Eh];exact aD h2 i
theorem aC{st:St}{h hb:Nat->HO}(hhb:∀j,hb j=.free\/(st.h j=hb j/\SK h (hb j)=true)):∀{l:List (Nat×HO)},zZ st h l->∀i,Ag l hb i=.free\/(st.h i=Ag l hb i/\SK h (Ag l hb i)=true)
 | [],_,i=>hhb i
 |(j,a)::l,⟨h1,h2⟩,i=>by
  unfold Ag
  by_cases e:i=j
  .subst e;simp only[CU,Kr];exact .inr h1
  .simp only[B9 e,Eh];exact aC hhb h2 i
def IU(h0:Nat->HO):Prop:=match cx.ext with | false=>∀i,h0 i=.free | true=>∀i,h0 i≠.free->1000<=i/\i<2000
section
variable {P:Program}{N:Nat}{ds:List Deferred}{w0:World}{g0:Gh}{h0:Nat->HO}{st:St}{g:Gh}{a:Act}{w:World}{cx:Cx}
theorem SR.weaken(hE:IU cx h0)(hS:SR N ds w0 g0 h0 st g a w){s:LS}(Hp:St.le cx st s):SR N ds w0 g0 h0 s.st g a w:=by
 obtain⟨h1,h2,h3,h4⟩:=Hp;have hT:=aD h1;have hH:∀i,s.st.h i=.free\/(st.h i=s.st.h i/\SK s.st.h (s.st.h i)=true):=aC h3 h2;have M4:∀r,(s.st.h r).live->(st.h r).live:=fun r hl=>by
  rcases hH r with e | ⟨e,_⟩
  .rw[e]at hl;exact hl.elim
  .rw[e];exact hl
 have hI:=hS.inv;refine⟨⟨hI.os,hI.tape,hI.output,hI.size,hI.frame,hI.slt,fun r=>?_,fun r r' b l l'=>hI.inj r r' b (M4 r l) (M4 r' l'),fun r b l=>hI.loc r b (M4 r l),hI.sg,hI.glob⟩,⟨hS.le.gh,fun i hi=>?_,hS.le.keeps⟩,hS.dfs,hS.size,fun i=>?_⟩
 .rcases hH r with e | ⟨e,e2⟩
  .rw[e];trivial
  .have ho:=hI.objs r;rw[e]at ho;generalize s.st.h r=o at ho e2;cases o with
   |cells cs=>
    obtain⟨t,b,E,vs,a1,a2,a3,a4,a5⟩:=ho;exact⟨t,b,E,vs,a1,a2,a3,⟨a4.1,a4.2.1,fun i av x q1 q2=>(a4.2.2 i av x q1 q2).ids (mB e2 q1)⟩,a5⟩
   |hol sz es i c av=>
    obtain⟨t,l,al,b,cap,E,vs,b1,b2,b3,b4,b5,b6,b7,b8,x,b9,KK⟩:=ho;exact⟨t,l,al,b,cap,E,vs,b1,b2,b3,b4,b5,b6,b7,b8,x,b9,KK.ids e2⟩
   |bld x=>
    obtain⟨t,b,p,v,a1,a2,a3,a4,a5,a6⟩:=ho;exact⟨t,b,p,v,a1,a2,a3,a4,a5.ids e2,a6⟩
   |mapU sh B7=>
    obtain⟨t,b,es,ck,a1,a2,a3,a4,a5,a6⟩:=ho;exact⟨t,b,es,ck,a1,a2,a3,a4,fun i kv e q1 q2=>(a5 i kv e q1 q2).ids (iC e2 q1),a6⟩
   |_=>exact ho
 .have hu:=hS.le.us i hi;unfold IU at hE;split at hE
  .exact absurd (hE i) hi
  .rename_i hx;rw[hx]at h4;exact h4 i (hE i hi).1 (hE i hi).2 hu
 .show Br g w (AN s.st.h) (TX s.t i) _;rcases hT i with e | ⟨e,e2⟩
  .rw[e];exact .junk _ _
  .rw[<-e]at e2⊢;exact(hS.slots i).ids e2
def Ex.real:Ex->Exit
 |.normal=>.normal
 |.exit id=>.exit id
 |.ret=>.ret
def w7(N:Nat)(o:Oper):Bool:=match o.dst with | some d=>Nat.blt d N | none=>true
def DJ(N:Nat):Code->Bool
 |.region _ ops _=>ops.toList.all (w7 N)
 |.seq a b=>DJ N a&&DJ N b
 |.cond _ a b=>DJ N a&&DJ N b
 |.block _ c=>DJ N c
 |.loop c=>DJ N c
 |_=>true
theorem KJ(hP:cx.P=P)(hT:Ci P cx.T)(hm:P.follows .mixedOrders=true)(hE:IU cx h0)(hY:∀l σ h g w,Ef σ=true->Dr w0 g0 h0 h g w->Le h0 g0 w0 h g w->cx.yp l σ (CL σ g) w)(ro:Option Nat):∀(c:Code),DJ N c=true->∀{Qa:Ex->St->Prop} {Q:Exit->Act->World->Prop},
  (∀e st g a w,Qa e st->SR N ds w0 g0 h0 st g a w->Q e.real a w)->∀{st:St} {g:Gh} {a:Act} {w:World},SR N ds w0 g0 h0 st g a w->NZ cx c Qa st->c.wpIn (In ro) 0 P Q a w:=by
 intro c
 induction c with
 |skip=>intro _ Qa Q hQ st g a w hS hk;exact wpIn_skip (hQ .normal _ _ _ _ hk hS)
 |label l=>intro _ Qa Q hQ st g a w hS hk;exact wpIn_label (hQ .normal _ _ _ _ hk hS)
 |exit id=>intro _ Qa Q hQ st g a w hS hk;exact wpIn_exit (hQ (.exit id) _ _ _ _ hk hS)
 |ret=>intro _ Qa Q hQ st g a w hS hk;exact wpIn_ret (hQ .ret _ _ _ _ hk hS)
 |region id ops dr=>
  intro hc Qa Q hQ st g a w hS hk;have hd:∀o∈ops.toList,∀i,o.dst=some i->i<N:=fun o ho i hi=>by
   have:=(AP.1 hc) o ho
   simpa[w7,hi]using this
  have go:∀(st:St) (g:Gh) (hS:SR N ds w0 g0 h0 st g a w) (vu : Cx),vu.P=P->Ci P vu.T->vu.yp=cx.yp->Nt vu ops dr st (Qa .normal)->(Code.region id ops dr).wpIn (In ro) 0 P Q a w:=by
   intro st g hS vu hP hT hy hk;have hY:∀l σ h g w,Ef σ=true->Dr w0 g0 h0 h g w->Le h0 g0 w0 h g w->vu.yp l σ (CL σ g) w:=by rw[hy];exact hY
   unfold Nt at hk;split at hk
   .exact wpIn_region_list (XI hP hT hY (fun En g' a' w' q1 q2=>hQ .normal _ _ _ _ q1 q2) ops.toList hd hS hk)
   .obtain⟨_,FT,hk⟩:=gb hk;obtain⟨i1,i2⟩:=hS.inv.heapEq (w':={ w with drawn:=w.drawn+1 }) ⟨rfl,rfl,rfl⟩ rfl;have OW : SR N ds w0 g0 h0 st g a { w with drawn:=w.drawn+1 }:=⟨i1,hS.le.trans i2,hS.dfs,hS.size,fun i=>(hS.slots i).le i2⟩;exact wpIn_region_any hm (XC hP hT hY (fun En g' a' w' q1 q2=>hQ .normal _ _ _ _ q1 q2) (fun j o ho=>hd o (by simpa using Array.mem_of_getElem? ho)) _ _ OW hk)
  have xf:∀(st:St) (g:Gh) (hS:SR N ds w0 g0 h0 st g a w),(match cx.pl.dyn with | []=>Nt cx ops dr st (Qa .normal) | _=>∃n,Nt { cx with nid:=n } ops dr st (Qa .normal))->(Code.region id ops dr).wpIn (In ro) 0 P Q a w:=by
   intro st g hS hk;split at hk
   .exact go st g hS cx hP hT rfl hk
   .obtain⟨n,hk⟩:=hk;exact go st g hS { cx with nid:=n } hP hT rfl hk
  unfold NZ w6 at hk;split at hk
  .split at hk
   .split at hk
    .split at hk
     .obtain⟨h',g',OW,s,h1,h2⟩:=rx hS hk;exact xf s.st _ (OW.weaken hE h1) h2
     .obtain⟨h',g',OW,s,h1,h2⟩:=sE hS hk;exact xf s.st _ (OW.weaken hE h1) h2
    .obtain⟨En,g',OW,s,h1,h2⟩:=sH hS hk;exact xf s.st _ (OW.weaken hE h1) h2
   .obtain⟨h',g',OW,s,h1,h2⟩:=sK hS hk;exact xf s.st _ (OW.weaken hE h1) h2
  .exact xf st _ hS hk
 |seq x y ihx ihy=>
  intro hc Qa Q hQ st g a w hS hk;simp only[DJ,Af]at hc;refine wpIn_seq (ihx hc.1 (Qa:=fun e En=>match e with | .normal=>NZ cx y Qa En | e=>Qa e En) (fun e st g a w q hS=>?_) hS hk);cases e with
  |normal=>exact ihy hc.2 hQ hS q
  |exit id=>exact hQ (.exit id) _ _ _ _ q hS
  |ret=>exact hQ .ret _ _ _ _ q hS
 |cond c x y ihx ihy=>
  intro hc Qa Q hQ st g a w hS hk;simp only[DJ,Af]at hc;have hr:=hS.eval c;unfold NZ at hk;generalize hx:ev st.t c=v at hk hr;split at hk
  .exact wpIn_cond_true hr.v_eq (ihx hc.1 hQ hS hk)
  .exact wpIn_cond_false hr.v_eq (ihy hc.2 hQ hS hk)
  .exact hk.elim
 |block id c ih=>
  intro hc Qa Q hQ st g a w hS hk;refine wpIn_block (ih hc (Qa:=fun e En=>match e with | .exit j=>(bif Nat.beq j id then Qa .normal En else Qa (.exit j) En) | e=>Qa e En) (fun e st g a w q hS=>?_) hS hk);cases e with
  |normal=>exact hQ .normal _ _ _ _ q hS
  |ret=>exact hQ .ret _ _ _ _ q hS
  |exit j=>
   show(if j=id then Q .normal a w else Q (.exit j) a w);dsimp only at q
   by_cases e:j=id
   .rw[As e];rw[e,CU,Kr]at q;exact hQ .normal _ _ _ _ q hS
   .rw[Ah e];rw[B9 e,Eh]at q;exact hQ (.exit j) _ _ _ _ q hS
 |loop c ih=>
  intro hc Qa Q hQ st g a w hS hk;obtain⟨α,I,μ,⟨x,hx⟩,xA⟩:=hk;refine SU (fun n a w=>∃x g,μ x=n/\SR N ds w0 g0 h0 (I x).st g a w) (μ x) ⟨x,g,rfl,hS.weaken hE hx⟩ ?_
  rintro n a w ⟨x,g,rfl,hS⟩
  refine ih hc (Qa:=fun e En=>match e with | .normal=>∃y,μ y<μ x/\St.le cx En (I y) | e=>Qa e En) (fun e st g a w q hS=>?_) hS (xA x);cases e with
  |normal=>
   obtain⟨y,q1,q2⟩:=q;exact⟨μ y,q1,y,g,rfl,hS.weaken hE q2⟩
  |exit id=>exact hQ (.exit id) _ _ _ _ q hS
  |ret=>exact hQ .ret _ _ _ _ q hS
 |_=>intro _ Qa Q hQ st g a w hS hk;exact hk.elim
end
section
variable {P:Program}{N:Nat}{ds:List Deferred}{w0:World}{g0:Gh}{h0:Nat->HO}{st:St}{g:Gh}{a:Act}{w:World}
theorem aF{T:GV}(hT:Ci P T){h:Nat->HO}(ho:∀r,DR g w (AN h) r (h r)){t:Nat}{p:AV}{vp:Value}(hp:Br g w (AN h) p vp)(hk:ID T h t p K) :
  ∃ad,(asAddr vp).run P w=.ok ad w/\BF P h g w (loadVar t ad) K:=by
 obtain⟨x,av,h1,h2,h3⟩:=WJ ho hT hp hk;have fin:∀b off,vp=.pointer (some ⟨b,off,none⟩)->∃ad,(asAddr vp).run P w=.ok ad w/\BF P h g w (loadVar t ad) K:=by
  rintro b off rfl
  refine⟨⟨b,off,none⟩,by simp[asAddr],x,av,?_,h2,h3⟩;simpa[Instr.loadAt,Instr.sureAddr]using h1
 unfold ID at hk;split at hk
 .cases hp;exact fin _ _ rfl
 .cases hp;exact fin _ _ rfl
 .cases hp;exact fin _ _ rfl
 .exact hk.elim
def dE(tmps:Array Value):ResultVar->Sem Value
 |.tmp t=>pure (tmps.getD t undef)
 |.cell ad t=>do loadVar t (<-asAddr (tmps.getD ad undef))
theorem ON(fn:Func)(tmps:Array Value):results fn tmps=(do
 let vs <-fn.results.mapM (dE tmps)
 pure (if h:vs.size=1 then vs[0]else .tuple vs)):=rfl
theorem YG{cx:Cx}(hT:Ci P cx.T)(hS:SR N ds w0 g0 h0 st g a w):∀(rs:List ResultVar) {K:List AV->Prop},qT cx.T st rs K ->
  ∃l vs,K l/\(rs.mapM (dE a.tmps)).run P w=.ok vs w/\vs.length=l.length/\vs.length=rs.length /\
   ∀(i:Nat) (av:AV) (x:Value),l[i]?=some av->vs[i]?=some x->Br g w Fq av x
 | [],K,hk=>⟨[],[],hk,by simp,rfl,rfl,fun i av x h=>by simp at h⟩
 |.tmp t::r,K,hk=>by
  obtain⟨l,vs,h1,h2,h3,h4,h5⟩:=YG hT hS r hk;refine⟨_,a.tmps.getD t undef::vs,h1,?_,by simp[h3],by simp[h4],fun i av x q1 q2=>?_⟩
  .rw[K7];simp only[dE,Sem.run_bind,Sem.run_pure,Result.andThen_ok,h2]
  .cases i with
   |zero=>
    simp only[A4,Bk]at q1 q2;subst q1;subst q2;exact Br.str hS.inv.objs (hS.slots t)
   |succ i=>exact h5 i av x (by simpa using q1) (by simpa using q2)
 |.cell ad t::r,K,hk=>by
  obtain⟨addr,e1,x0,av0,e2,hk',e4⟩:=aF hT hS.inv.objs (hS.slots ad) hk;obtain⟨l,vs,h1,h2,h3,h4,h5⟩:=YG hT hS r hk';refine⟨_,x0::vs,h1,?_,by simp[h3],by simp[h4],fun i av x q1 q2=>?_⟩
  .rw[K7];simp only[dE,Sem.run_bind,Sem.run_pure,Result.andThen_ok,h2,e1,e2]
  .cases i with
   |zero=>
    simp only[A4,Bk]at q1 q2;subst q1;subst q2;exact Br.str hS.inv.objs e4
   |succ i=>exact h5 i av x (by simpa using q1) (by simpa using q2)
theorem YF{cx:Cx}(hT:Ci P cx.T)(hS:SR N ds w0 g0 h0 st g a w)(hk:jl cx st fn.results.toList K) :
  ∃g' r v h',K r/\(results fn a.tmps).run P w=.ok v w/\Dr w0 g0 h0 h' g' w/\Le h0 g0 w0 h' g' w/\Br g' w Fq r v:=by
 obtain⟨g',i1,i2⟩:=Ku cx.pl.fin hS.inv;have OW : SR N ds w0 g0 h0 ⟨st.t,NS st.h cx.pl.fin⟩ g' a w:=⟨i1,hS.le.trans i2,hS.dfs,hS.size,fun i=>(hS.slots i).le i2⟩;obtain⟨l,vs,h1,h2,h3,h4,h5⟩:=YG hT OW _ hk;have CI:(results fn a.tmps).run P w=.ok (if h:vs.toArray.size=1 then vs.toArray[0]else .tuple vs.toArray) w:=by
  rw[ON,show fn.results=fn.results.toList.toArray by simp,List.mapM_toArray];simp only[Sem.run_bind,Sem.run_map,h2,Result.andThen_ok,Sem.run_pure]
 refine⟨g',?_⟩
 match l,vs,h1,h3,h5,CI with
 | [v],[x],h1,h3,h5,CI=>exact⟨v,x,_,h1,by simpa using CI,i1,OW.le,h5 0 v x rfl rfl⟩
 | [],vs,h1,h3,h5,CI=>
  have:vs=[]:=AL h3
  subst this;exact⟨.tup [],.tuple #[],_,h1,by simpa using CI,i1,OW.le,.tup _ _ _ rfl fun i av x q=>by simp at q⟩
 |v::v' :: l,vs,h1,h3,h5,CI=>
  refine⟨.tup (v::v' :: l),.tuple vs.toArray,_,h1,?_,i1,OW.le,.tup _ _ _ (by simpa using h3) fun i av x q1 q2=>h5 i av x q1 (by simpa using q2)⟩;rw[CI]
  have:vs.toArray.size≠1:=by simp[h3]
  simp only[this,dif_neg,not_false_eq_true]
theorem Dr.toFree(hI:Dr w0 g0 Ad st.h g w):Dr w0 g0 Ad Ad g w:=
 ⟨hI.os,hI.tape,hI.output,hI.size,hI.frame,hI.slt,fun _=>trivial,fun _ _ _ h=>h.elim,fun _ _ h=>h.elim,hI.sg,hI.glob⟩
theorem MU{U:Nat->Prop}{n:Nat}:∀{args:List AV} {vals:List Value},vals.length=args.length->(∀(i:Nat) (av:AV) (x:Value),args[i]?=some av->vals[i]?=some x->Br g w U av x) ->
  ∀i,Br g w U (MD args i) ((vals++List.replicate n undef).getD i undef)
 | [],[],_,_,i=>by
  have:(([]:List Value)++List.replicate n undef).getD i undef=undef:=by
   rw[E7,BU,List.getElem?_replicate];split<;>rfl
  rw[this];exact .v _ _
 | [],_::_,h,_,_=>by simp at h
 |_::_,[],h,_,_=>by simp at h
 |x::l,v::vs,h,hr,i=>by
  cases i with
  |zero=>exact hr 0 x v rfl rfl
  |succ i=>
   have:=MU (n:=n) (args:=l) (vals:=vs) (by simpa using h) (fun i av x q1 q2=>hr (i+1) av x (by simpa using q1) (by simpa using q2)) i
   simpa[MD]using this
theorem kB {f : Nat}{args : List AV}{Q : AV -> Prop}(hP : cx.P = P)(hT : Ci P cx.T)(hm : P.follows .mixedOrders = true)(hx : cx.ext = false)(hf : P.funcs[f]? = some fn)(hn : (fn.name == "runtime.NumGoroutine") = false)(hb:fn.body=some c)(hN:args.length<=fn.ntmps)(hc:DJ fn.ntmps c=true)(hk:NZ cx c (ct cx fn.results.toList Q) ⟨MD args,Ad⟩)(hY:∀l σ g w,cx.yp l σ g w:=by exact fun _ _ _ _=>trivial):Bb P f args Ad fun r h'=>h'=Ad/\Q r:=by
 refine⟨⟨fn,hf,hn,by simp[hb]⟩,fun g w vals hs hv hI=>calls_of_wp hf hb ?_⟩;have hU:AN Ad=Fq:=by funext i;unfold AN Fq Ad;simp
 have hS:SR fn.ntmps [] w g Ad ⟨MD args,Ad⟩ g { tmps:=vals++Array.replicate (fn.ntmps-vals.size) undef,defers:=[] } w:=by
  refine⟨hI,.refl _ _ _,rfl,by simp[hs];omega,fun i=>?_⟩
  have:=MU (n:=fn.ntmps-vals.size) (args:=args) (vals:=vals.toList) (by simpa using hs) (fun i av x q1 q2=>hv i av x q1 (by simpa using q2)) i
  rw[Ce,<-AI];rw[BU]at this;simpa using this
 refine wpIn_wide.1 (KJ hP hT hm (by unfold IU;rw[hx];exact fun _=>rfl) (fun l σ _ _ w _ _ _=>hY l σ _ w) none c hc (fun e st g' a w' hk hS=>?_) hS hk);have out:jl cx st fn.results.toList Q->a.defers=[]/\∃v,(results fn a.tmps).run P w'=.ok v w'/\∃v' r h' g',(Ending.returned v:Ending)=.returned v'/\(h'=Ad/\Q r)/\Br g' w' (AN h') r v'/\Dr w g Ad h' g' w'/\Le Ad g w h' g' w':=by
  intro hk;obtain⟨g2,r,v,h',q1,q2,q3,q4,q5⟩:=YF hT hS hk;exact⟨hS.dfs,v,q2,v,r,Ad,g2,rfl,⟨rfl,q1⟩,by rw[hU];exact q5,Dr.toFree (st:=⟨st.t,h'⟩) q3,⟨fun i hi=>absurd rfl hi,fun i hi=>absurd rfl hi,q4.keeps⟩⟩
 cases e with
 |normal=>exact out hk
 |ret=>exact out hk
 |exit id=>exact hk.elim
theorem Th{cx:Cx}(hT:Ci P cx.T)(hS:SR N ds w0 g0 h0 st g a w):∀(rs:List ResultVar) {K:List AV->Prop},qU cx.T st rs K ->
  ∃l vs,K l/\(rs.mapM (dE a.tmps)).run P w=.ok vs w/\vs.length=l.length/\vs.length=rs.length /\
   ∀(i:Nat) (av:AV) (x:Value),l[i]?=some av->vs[i]?=some x->Br g w (AN st.h) av x
 | [],K,hk=>⟨[],[],hk,by simp,rfl,rfl,fun i av x h=>by simp at h⟩
 |.tmp t::r,K,hk=>by
  obtain⟨l,vs,h1,h2,h3,h4,h5⟩:=Th hT hS r hk;refine⟨_,a.tmps.getD t undef::vs,h1,?_,by simp[h3],by simp[h4],fun i av x q1 q2=>?_⟩
  .rw[K7];simp only[dE,Sem.run_bind,Sem.run_pure,Result.andThen_ok,h2]
  .cases i with
   |zero=>
    simp only[A4,Bk]at q1 q2;subst q1;subst q2;exact hS.slots t
   |succ i=>exact h5 i av x (by simpa using q1) (by simpa using q2)
 |.cell ad t::r,K,hk=>by
  obtain⟨addr,e1,x0,av0,e2,hk',e4⟩:=aF hT hS.inv.objs (hS.slots ad) hk;obtain⟨l,vs,h1,h2,h3,h4,h5⟩:=Th hT hS r hk';refine⟨_,x0::vs,h1,?_,by simp[h3],by simp[h4],fun i av x q1 q2=>?_⟩
  .rw[K7];simp only[dE,Sem.run_bind,Sem.run_pure,Result.andThen_ok,h2,e1,e2]
  .cases i with
   |zero=>
    simp only[A4,Bk]at q1 q2;subst q1;subst q2;exact e4
   |succ i=>exact h5 i av x (by simpa using q1) (by simpa using q2)
theorem Fl{σ:HU}:∀{H0:List (Nat×HO)},FH σ H0=true->∀i,Ag H0 Ad i≠.free->1000<=i/\i<2000/\Cc σ i=some i
 | [],_,i,h=>absurd rfl h
 |(a,o)::r,hx,i,h=>by
  simp only[FH,Af,Df,Cr]at hx;obtain⟨⟨⟨h1,h2⟩,h3⟩,h4⟩:=hx
  by_cases e:i=a
  .subst e;refine⟨h1,h2,?_⟩;split at h3
   .rename_i j e;rw[e,AM h3]
   .cases h3
  .unfold Ag at h;simp only[B9 e,Eh]at h;exact Fl h4 i h
theorem JD{H0:List (Nat×HO)}{σ:HU}(hσ:E4 σ=true)(hx:FH σ H0=true){h:Nat->HO}(hI:Dr w0 g0 (Ag H0 Ad) h g w)(hL:Le (Ag H0 Ad) g0 w0 h g w) :
  Ld (Cc σ) h (Ft σ h) g (CL σ g) w/\Dr w0 g0 (Ag H0 Ad) (Ft σ h) (CL σ g) w/\Le (Ag H0 Ad) g0 w0 (Ft σ h) (CL σ g) w:=by
 have inv:=Yq hσ;have E1:∀j,Ft σ h j=match GS σ j with | some i=>(h i).ren (Cc σ) h | none=>.free:=Qb _ _ σ
 have hR:Ld (Cc σ) h (Ft σ h) g (CL σ g) w:=by
  refine⟨fun r r' hr hu=>?_,fun b o=>RL,hI.objs⟩;have hb:=(inv r r').1 hr;refine⟨by simp[CL,hb],by simp[CL,hb],by simp[CL,hb],by simp[CL,hb],?_⟩;unfold AN;rw[E1,hb];exact(Nk _ _ _).2 hu
 have M4:∀j,(Ft σ h j).live->∃i,GS σ j=some i/\(h i).live:=fun j hl=>by
  rw[E1]at hl;cases e:GS σ j with
  |none=>rw[e]at hl;exact hl.elim
  |some i=>rw[e]at hl;exact⟨i,rfl,(Nj _ _ _).1 hl⟩
 have Jj:∀j i,GS σ j=some i->(CL σ g).own j=g.own i:=fun j i e=>by simp[CL,e]
 refine⟨hR,⟨hI.os,hI.tape,hI.output,hI.size,hI.frame,hI.slt,fun j=>?_,fun j j' b hl QN e e'=>?_,fun j b hl e=>?_,hI.sg,hI.glob⟩,⟨fun i hi=>?_,fun i hi=>?_,hL.keeps⟩⟩
 .rw[E1];cases e:GS σ j with
  |none=>trivial
  |some i=>
   by_cases hu:AN h i
   .exact(hI.objs i).ren hR ((inv i j).2 e) hu
   .have:h i=.free:=Cq.1 hu
    dsimp only;rw[this];trivial
 .obtain⟨i,e1,l1⟩:=M4 j hl;obtain⟨i',e2,l2⟩:=M4 j' QN;rw[Jj j i e1]at e;rw[Jj j' i' e2]at e';obtain rfl:=hI.inj i i' b l1 l2 e e'
  have:=(inv i j).2 e1
  rw[(inv i j').2 e2]at this;cases this;rfl
 .obtain⟨i,e1,l1⟩:=M4 j hl;rw[Jj j i e1]at e;exact hI.loc i b l1 e
 .obtain⟨_,_,hf⟩:=Fl hx i hi;have hb:=(inv i i).1 hf;have e1:(CL σ g).ρ i=g.ρ i/\(CL σ g).ln i=g.ln i/\(CL σ g).tk i=g.tk i:=by simp[CL,hb]
  obtain⟨k1,k2,k3,k4⟩:=hL.gh i hi;exact⟨e1.2.2.trans k1,by omega,fun t=>e1.1.trans (k3 t),fun l=>e1.1.trans (k4 ch)⟩
 .obtain⟨_,_,hf⟩:=Fl hx i hi;have hb:=(inv i i).1 hf;unfold AN;rw[E1,hb];exact(Nk _ _ _).2 (hL.us i hi)
theorem PF{f:Nat}{args:List AV}{H0:List (Nat×HO)}{Q:AV->(Nat->HO)->Prop}(hP:cx.P=P)(hT:Ci P cx.T)(hm:P.follows .mixedOrders=true)(hx:cx.ext=true)(hf:P.funcs[f]?=some fn)(_hn : (fn.name == "runtime.NumGoroutine") = false)(hb : fn.body = some c)(hN : args.length <= fn.ntmps)(hc : DJ fn.ntmps c = true)(hσ : (E4 σ && FH σ H0) = true)(hk:NZ cx c (VH cx fn.results.toList σ Q) ⟨MD args,Ag H0 Ad⟩){g:Gh}{w:World}{vals:Array Value}(hs:vals.size=args.length)(hv:∀(i:Nat) (av:AV) (x:Value),args[i]?=some av->vals[i]?=some x->Br g w (AN (Ag H0 Ad)) av x)(hI:Dr w g (Ag H0 Ad) (Ag H0 Ad) g w)(hY:∀l σ h' g' w',Ef σ=true->Dr w g (Ag H0 Ad) h' g' w'->Le (Ag H0 Ad) g w h' g' w'->cx.yp l σ (CL σ g') w') :
  Calls P f vals w fun e w'=>∃v r h' g',e=.returned v/\Q r h'/\Br g' w' (AN h') r v/\Dr w g (Ag H0 Ad) h' g' w'/\Le (Ag H0 Ad) g w h' g' w':=by
 simp only[Af]at hσ;obtain⟨hσ,r4⟩:=hσ;refine calls_of_wp hf hb ?_;have hS:SR fn.ntmps [] w g (Ag H0 Ad) ⟨MD args,Ag H0 Ad⟩ g { tmps:=vals++Array.replicate (fn.ntmps-vals.size) undef,defers:=[] } w:=by
  refine⟨hI,.refl _ _ _,rfl,by simp[hs];omega,fun i=>?_⟩
  have:=MU (n:=fn.ntmps-vals.size) (args:=args) (vals:=vals.toList) (by simpa using hs) (fun i av x q1 q2=>hv i av x q1 (by simpa using q2)) i
  rw[Ce,<-AI];rw[BU]at this;simpa using this
 refine wpIn_wide.1 (KJ hP hT hm (by unfold IU;rw[hx];exact fun i hi=>⟨(Fl r4 i hi).1,(Fl r4 i hi).2.1⟩) hY none c hc (fun e st g' a w' hk hS=>?_) hS hk);have out:jk cx st fn.results.toList σ Q->a.defers=[]/\∃v,(results fn a.tmps).run P w'=.ok v w'/\∃v' r h' g',(Ending.returned v:Ending)=.returned v'/\Q r h'/\Br g' w' (AN h') r v'/\Dr w g (Ag H0 Ad) h' g' w'/\Le (Ag H0 Ad) g w h' g' w':=by
  intro hk;obtain⟨g2,i1,i2⟩:=Ku cx.pl.fin hS.inv;have OW : SR fn.ntmps [] w g (Ag H0 Ad) ⟨st.t,NS st.h cx.pl.fin⟩ g2 a w':=⟨i1,hS.le.trans i2,hS.dfs,hS.size,fun i=>(hS.slots i).le i2⟩;obtain⟨l,vs,h1,h2,h3,h4,h5⟩:=Th hT OW _ hk;obtain⟨hR,j1,j2⟩:=JD hσ r4 i1 OW.le;have CI:(results fn a.tmps).run P w'=.ok (if h:vs.toArray.size=1 then vs.toArray[0]else .tuple vs.toArray) w':=by
   rw[ON,show fn.results=fn.results.toList.toArray by simp,List.mapM_toArray];simp only[Sem.run_bind,Sem.run_map,h2,Result.andThen_ok,Sem.run_pure]
  refine⟨hS.dfs,?_⟩
  match l,vs,h1,h3,h5,CI with
  | [v],[x],h1,h3,h5,CI=>exact⟨x,by simpa using CI,x,_,_,_,rfl,h1,(h5 0 v x rfl rfl).ren hR,j1,j2⟩
  | [],vs,h1,h3,h5,CI=>
   have:vs=[]:=AL h3
   subst this;exact⟨.tuple #[],by simpa using CI,.tuple #[],_,_,_,rfl,h1,Br.ren hR (.tup _ [] _ rfl fun i av x q=>by simp at q),j1,j2⟩
  |v::v' :: l,vs,h1,h3,h5,CI=>
   refine⟨.tuple vs.toArray,?_,.tuple vs.toArray,_,_,_,rfl,h1,Br.ren hR (.tup _ _ _ (by simpa using h3) fun i av x q1 q2=>h5 i av x q1 (by simpa using q2)),j1,j2⟩;rw[CI]
   have:vs.toArray.size≠1:=by simp[h3]
   simp only[this,dif_neg,not_false_eq_true]
 cases e with
 |normal=>exact out hk
 |ret=>exact out hk
 |exit id=>exact hk.elim
theorem lW{f:Nat}{args:List AV}{H0:List (Nat×HO)}{Q:AV->(Nat->HO)->Prop}(hP:cx.P=P)(hT:Ci P cx.T)(hm:P.follows .mixedOrders=true)(hx:cx.ext=true)(hf:P.funcs[f]?=some fn)(hn : (fn.name == "runtime.NumGoroutine") = false)(hb : fn.body = some c)(hN : args.length <= fn.ntmps)(hc : DJ fn.ntmps c = true)(hσ : (E4 σ && FH σ H0) = true)(hk:NZ cx c (VH cx fn.results.toList σ Q) ⟨MD args,Ag H0 Ad⟩)(hY:∀l σ g w,cx.yp l σ g w:=by exact fun _ _ _ _=>trivial):Bb P f args (Ag H0 Ad) Q:=
 ⟨⟨fn,hf,hn,by simp[hb]⟩,fun g w vals hs hv hI=>PF cx σ hP hT hm hx hf hn hb hN hc hσ hk hs hv hI (fun l σ _ _ w _ _ _=>hY l σ _ w)⟩
end
def EY(r r' : AV):Prop:=∀(g:Gh) (w:World) (U:Nat->Prop) (x:Value),Br g w U r x->Br g w U r' x
theorem EY.refl(r:AV):EY r r:=fun _ _ _ _ h=>h
theorem EY.of_eq{r r' : AV}(h:r=r'):EY r r':=h▸.refl r
theorem EY.trans{a b c:AV}(h:EY a b)(k:EY b c):EY a c:=fun g w U x r=>k g w U x (h g w U x r)
theorem EY.nil:EY nzA (.slice .none []):=fun _ _ _ _ h=>by cases h;exact .snil _ _ _
def Qs:List AV->List AV->Prop
 | [],[]=>True
 |a::r,b::s=>EY a b/\Qs r s
 |_,_=>False
theorem Qs.len:∀{l l' : List AV},Qs l l'->l'.length=l.length
 | [],[],_=>rfl
 |_::_,_::_,h=>Aa (·+1) h.2.len
 | [],_::_,h=>h.elim
 |_::_,[],h=>h.elim
theorem Qs.get:∀{l l' : List AV},Qs l l'->∀(i:Nat) (b:AV),l'[i]?=some b->∃a,l[i]?=some a/\EY a b
 | [],[],_,i,b,h=>by simp at h
 |a::r,b::s,hs,i,c,h=>by
  cases i with
  |zero=>simp only[A4,Bk]at h;subst h;exact⟨a,rfl,hs.1⟩
  |succ i=>exact Qs.get hs.2 i c (by simpa using h)
 | [],_::_,h,_,_,_=>h.elim
 |_::_,[],h,_,_,_=>h.elim
theorem EY.tup{l l' : List AV}(h:Qs l l'):EY (.tup l) (.tup l'):=fun g w U x r=>by
 cases r with
 |tup _ _ vs hs hr=>
  refine .tup _ _ vs (by rw[hs,h.len]) fun i av x q1 q2=>?_;obtain⟨a,e1,e2⟩:=h.get i av q1;exact e2 _ _ _ _ (hr i a x e1 q2)
theorem EY.agg{l l' : List AV}(h:Qs l l'):EY (.agg l) (.agg l'):=fun g w U x r=>by
 cases r with
 |agg _ _ vs hs h1 hr=>
  refine .agg _ _ vs (by rw[hs,h.len]) h1 fun i av x q1 q2=>?_;obtain⟨a,e1,e2⟩:=h.get i av q1;exact e2 _ _ _ _ (hr i a x e1 q2)
def bN:List (List AV)->List (List AV)->Prop
 | [],[]=>True
 |a::r,b::s=>Qs a b/\bN r s
 |_,_=>False
theorem bN.len:∀{l l' : List (List AV)},bN l l'->l'.length=l.length
 | [],[],_=>rfl
 |_::_,_::_,h=>Aa (·+1) h.2.len
 | [],_::_,h=>h.elim
 |_::_,[],h=>h.elim
theorem bN.get:∀{l l' : List (List AV)},bN l l'->∀(i:Nat) (b:List AV),l'[i]?=some b->∃a,l[i]?=some a/\Qs a b
 | [],[],_,i,b,h=>by simp at h
 |a::r,b::s,hs,i,c,h=>by
  cases i with
  |zero=>simp only[A4,Bk]at h;subst h;exact⟨a,rfl,hs.1⟩
  |succ i=>exact bN.get hs.2 i c (by simpa using h)
 | [],_::_,h,_,_,_=>h.elim
 |_::_,[],h,_,_,_=>h.elim
theorem EY.slice{l l' : List (List AV)}(h:bN l l'):EY (.slice .none l) (.slice .none l'):=fun g w U x r=>by
 have Ca:=h.len;cases r with
 |snil _ a cap=>
  have:l'=[]:=AL (by rw[Ca];rfl)
  subst this;exact .snil _ a cap
 |slice _ _ b off sz cap val hc hl Dg D8=>
  rw[<-Ca];refine .slice _ _ b off sz cap val (by rw[Ca];exact hc) (fun i cs hi=>?_) (fun i cs j av hi hj=>?_) (fun i cs j av hi hj=>?_)
  .obtain⟨a,e1,e2⟩:=h.get i cs hi;rw[e2.len];exact hl i a e1
  .obtain⟨a,e1,e2⟩:=h.get i cs hi;obtain⟨c,f1,f2⟩:=e2.get j av hj;exact Dg i a j c e1 f1
  .obtain⟨a,e1,e2⟩:=h.get i cs hi;obtain⟨c,f1,f2⟩:=e2.get j av hj;exact f2 _ _ _ _ (D8 i a j c e1 f1)
section
variable {P:Program}
theorem Bb.mono{f:Nat}{args:List AV}{h0:Nat->HO}{Q Q' : AV->(Nat->HO)->Prop}(h:Bb P f args h0 Q)(hq:∀r h',Q r h'->∃r',EY r r'/\Q' r' h'):Bb P f args h0 Q':=
 ⟨h.1,fun g w vals q1 q2 q3=>(h.2 g w vals q1 q2 q3).mono fun _ _ ⟨v,r,h',g',e1,e2,e3,rest⟩=>
  let ⟨r',s,k⟩:=hq r h' e2
  ⟨v,r',h',g',e1,k,s _ _ _ _ e3,rest⟩⟩
theorem Bb.args{args args' : List AV}{h0:Nat->HO}{Q:AV->(Nat->HO)->Prop}(h:Bb P f args h0 Q)(hs:Qs args' args):Bb P f args' h0 Q:=
 ⟨h.1,fun g w vals q1 q2 q3=>h.2 g w vals (by rw[q1,hs.len]) (fun i av x e1 e2=>by
  obtain⟨a,f1,f2⟩:=hs.get i av e1;exact f2 _ _ _ _ (q2 i a x f1 e2)) q3⟩
theorem Lc.args{f:Nat}{args args' : List AV}{res:AV}(h:Lc P f args res)(hs:Qs args' args):Lc P f args' res:=Bb.args h hs
theorem F2 {args : List AV}{res : AV}(hP : cx.P = P)(hT : Ci P cx.T)(hm : P.follows .mixedOrders = true)(hx : cx.ext = false)(hf : P.funcs[f]? = some fn)(hn : (fn.name == "runtime.NumGoroutine") = false)(hb:fn.body=some c)(hN:args.length<=fn.ntmps)(hc:DJ fn.ntmps c=true)(hk:NZ cx c (ct cx fn.results.toList fun r=>EY r res) ⟨MD args,Ad⟩)(hY:∀l σ g w,cx.yp l σ g w:=by exact fun _ _ _ _=>trivial):Lc P f args res:=
 (kB cx hP hT hm hx hf hn hb hN hc hk hY).mono fun _ _ ⟨e1,e2⟩=>⟨res,e2,rfl,e1⟩
end
end Go.Eng
namespace Go.Eng
open Go.ChangeShapes Go.WideShapes
variable {p:List MemPlace}{w:World}{g:Gh}
def lU(w:World):Gh:=⟨fun _=>undef,fun _=>0,fun _=>false,fun _=>none,fun b _=>b<w.heap.size⟩
theorem XT{b o:Nat}{v:Value}(h:w.cell? ⟨b,o,none⟩=some v):b<w.heap.size:=by
 unfold World.cell? at h;cases hh:w.heap[b]? with
 |none=>simp[hh]at h
 |some x=>exact(Be.1 hh).1
theorem yw(hg:∃m,w.cell? ⟨0,0,none⟩=some (.int .i64 m))(ht:∀x∈lV,x.1<w.heap.size/\w.cell? ⟨x.1,x.2.1,none⟩=x.2.2):Dr w (lU w) Ad Ad (lU w) w where
 os:=rfl
 tape:=rfl
 output:=rfl
 size:=Ai _
 frame:=fun _ _ _=>rfl
 slt:=fun _ _ h=>h
 objs:=fun _=>trivial
 inj:=fun _ _ _ h=>h.elim
 loc:=fun _ _ h=>h.elim
 sg:=fun _ _ h=>.inl h
 glob:=⟨⟨by obtain⟨m,h⟩:=hg;exact XT h,hg⟩,fun x hx=>ht x hx⟩
theorem UF{α β:Type}{f:α->Option β}:∀{l:List α} {r:List β},l.mapM f=some r->r.length=l.length/\∀(i:Nat) x,l[i]?=some x->∃y,r[i]?=some y/\f x=some y
 | [],r,h=>by simp at h;subst h;simp
 |a::l,r,h=>by
  rw[K7]at h;cases ha:f a with
  |none=>simp[ha]at h
  |some b=>
   cases hl:l.mapM f with
   |none=>simp[ha,hl]at h
   |some s=>
    simp[ha,hl]at h;subst h;obtain⟨h1,h2⟩:=UF hl;refine⟨by simp[h1],fun i x hx=>?_⟩;cases i with
    |zero=>simp at hx;subst hx;exact⟨b,by simp,ha⟩
    |succ i=>obtain⟨y,h3,h4⟩:=h2 i x (by simpa using hx);exact⟨y,by simpa using h3,h4⟩
theorem Wi{base:Nat}{a:Addr}{n:Nat}{cs:List Value}(h:w.cells? base a n=some cs) :
  cs.length=n/\(0<n->a.spot=none)/\∀j,j<n->∃v,cs[j]?=some v/\w.cell? ⟨a.block,a.off+j,none⟩=some v:=by
 unfold World.cells? at h;split at h
 .obtain⟨h1,h2⟩:=UF h;have one:∀j,j<n->∃v,cs[j]?=some v/\w.cell? (a.add j)=some v:=fun j hj=>by
   obtain⟨v,e1,e2⟩:=h2 j j (by simp[hj]);exact⟨v,e1,e2⟩
  have qm:0<n->a.spot=none:=fun hn=>by
   obtain⟨v,_,hv⟩:=one 0 hn;simp only[Addr.add,As]at hv;cases hs:a.spot with
   |none=>rfl
   |some s=>
    simp only[World.cell?]at hv;split at hv
    .simp[hs]at hv
    .cases hv
  refine⟨by simpa using h1,qm,fun j hj=>?_⟩;obtain⟨v,e1,e2⟩:=one j hj;refine⟨v,e1,?_⟩;have hs:=qm ch;have e:a.add j=⟨a.block,a.off+j,none⟩:=by
   unfold Addr.add;split
   .rename_i h0;subst h0;cases a;simp_all
   .rfl
  rw[<-e];exact e2
 .cases h
section
variable {H:Type}{enc:TypeId×Value->H}{P:Program}{w:World}{bk:DataW H->Nat}{N:Nat}
structure Xw(bk:DataW H->Nat):Prop where
 slice:∀es sp,es.length<=bk (.slice es sp)/\∀d∈es,bk d<=bk (.slice es sp)
 agg:∀ps,∀d∈ps,bk d<=bk (.agg ps)
 str:∀b:List UInt8,b.length<=bk (.lit (.string b))
def Ko(enc:TypeId×Value->H)(P:Program)(w:World)(bk:DataW H->Nat)(N:Nat)(t:TypeId){α:Type}(e:α->List AV)(ok:α->Prop):Prop:=
 ∀(fuel:Nat) (cs:List Value) (d:DataW H) (ps:List MemPlace),DataW.trod enc P w 0 (fun _=>true) true fuel t cs=some (d,ps)->bk d<=N->∃x:α,CJ (lU w) w Fq (e x) cs/\ok x
theorem RJ{U:Nat->Prop}{a:AV}{v:Value}(h1:v.oneCell'=true)(h2:Br g w U a v):CJ g w U [a] [v]:=by
 refine⟨rfl,fun x hx=>by simp at hx;subst hx;exact h1,fun i av x q1 q2=>?_⟩;cases i with
 |zero=>simp at q1 q2;subst q1;subst q2;exact h2
 |succ i=>simp at q1
theorem kb{U:Nat->Prop}{a b:List AV}{c d:List Value}(h:CJ g w U a c)(k:CJ g w U b d):CJ g w U (a++b) (c++d):=by
 obtain⟨h1,h2,h3⟩:=h;obtain⟨k1,k2,k3⟩:=k;refine⟨by simp[h1,k1],fun x hx=>(AT.1 hx).elim (h2 x) (k2 x),fun i av x q1 q2=>?_⟩
 by_cases hi:i<a.length
 .rw[AU hi]at q1;rw[AU ch]at q2;exact h3 i av x q1 q2
 .rw[A0 ch]at q1;rw[A0 ch,h1]at q2;exact k3 _ av x q1 q2
theorem vq{U:Nat->Prop}:CJ g w U [] []:=⟨rfl,(fun x hx=>by cases hx),fun i av x q1=>by simp at q1⟩
theorem Ri{t:TypeId}{k:IntKind}(hu:P.underlying t=some (.int k)):Ko enc P w bk N t (fun n:Int=>[AV.v (.int k n)]) (fun n=>k.min<=n/\n<=k.max):=by
 intro fuel cs d ps h _;cases fuel with
 |zero=>simp[DataW.trod]at h
 |succ fuel=>
  rw[DataW.trod_step]at h;unfold DataW.trodStep at h;rw[hu]at h;split at h<;>rename_i he<;>first | cases he | skip
  all_goals first | (split at h<;>first | cases h | skip) | cases h | skip
  rename_i n hc _;obtain⟨rfl,hw⟩:=hc;simp only[Lit.wf,Af,Au]at hw;exact⟨_,RJ rfl (.v _ _),hw⟩
theorem dk{t:TypeId}(hu:P.underlying t=some .bool):Ko enc P w bk N t (fun b:Bool=>[AV.v (.bool b)]) (fun _=>True):=by
 intro fuel cs d ps h _;cases fuel with
 |zero=>simp[DataW.trod]at h
 |succ fuel=>
  rw[DataW.trod_step]at h;unfold DataW.trodStep at h;rw[hu]at h;split at h<;>rename_i he<;>first | cases he | skip
  all_goals first | cases h | skip
  exact⟨_,RJ rfl (.v _ _),trivial⟩
theorem YD{t:TypeId}(hB:Xw bk)(hu:P.underlying t=some .string):Ko enc P w bk N t (fun s:ByteArray=>[AV.v (.string s)]) (fun s=>s.size<=N):=by
 intro fuel cs d ps h hb;cases fuel with
 |zero=>simp[DataW.trod]at h
 |succ fuel=>
  rw[DataW.trod_step]at h;unfold DataW.trodStep at h;rw[hu]at h;split at h<;>rename_i he<;>first | cases he | skip
  all_goals first | (split at h<;>first | cases h | skip) | cases h | skip
  rename_i s hs;refine⟨s,RJ rfl (.v _ _),?_⟩
  have:=hB.str s.data.toList
  have e:s.data.toList.length=s.size:=by rw[BB];rfl
  omega
theorem GR{t e:TypeId}{α:Type}{E:α->List AV}{ok:α->Prop}{m:Nat}(hB:Xw bk)(hu:P.underlying t=some (.slice e))(hm:P.cellsOf e=m+1)(hE:∀x,(E x).length=m+1)(he:Ko enc P w bk N e E ok) :
  Ko enc P w bk N t (fun l:List α=>[AV.slice .none (l.map E)]) (fun l=>l.length<=N/\∀x∈l,ok x):=by
 intro fuel cs d ps h hb;cases fuel with
 |zero=>simp[DataW.trod]at h
 |succ fuel=>
  rw[DataW.trod_step]at h;unfold DataW.trodStep at h;rw[hu]at h;split at h<;>rename_i hq<;>first | cases hq | skip
  all_goals first | (cases h;done) | skip
  .cases h
   exact⟨[],RJ rfl (.snil _ _ _),AE _,fun x hx=>by cases hx⟩
  .rename_i a len cap;simp only at h;split at h
   .rename_i hc;simp only[AD,Hi]at h;obtain⟨rJ,hel,rest,_,hd⟩:=h;simp only[ES]at hd;obtain⟨hd,_⟩:=hd;obtain⟨hl,E1⟩:=UF hel;rw[Is]at hl;have hbs:=hB.slice (rJ.map (·.1)) (rest.map (·.1));rw[hd]at hbs;rw[AS]at hbs;have one:∀i,i<len->∃(x:α) (vs:List Value),w.cells? 0 (a.add (i*P.cellsOf e)) (P.cellsOf e)=some vs/\CJ (lU w) w Fq (E x) vs/\ok x:=fun i hi=>by
     obtain⟨y,hy,hf⟩:=E1 i i (by simp[hi]);simp only[Hi]at hf;obtain⟨vs,hv,ht⟩:=hf;obtain⟨x,r1,r2⟩:=he fuel vs y.1 y.2 ht (A9 (hbs.2 y.1 (Ak.2 ⟨y,Av hy,rfl⟩)) hb);exact⟨x,vs,hv,r1,r2⟩
    have build:∀k,k<=len->∃l:List α,l.length=k/\∀(i:Nat) x,l[i]?=some x->∃vs:List Value,w.cells? 0 (a.add (i*P.cellsOf e)) (P.cellsOf e)=some vs/\CJ (lU w) w Fq (E x) vs/\ok x:=fun k=>by
     induction k with
     |zero=>exact fun _=>⟨[],rfl,fun i x q=>by simp at q⟩
     |succ k ih=>
      intro hk;obtain⟨l,h1,h2⟩:=ih ch;obtain⟨x,hx⟩:=one k ch;refine⟨l++[x],by simp[h1],fun i y q=>?_⟩
      by_cases hi:i<l.length
      .rw[AU hi]at q;exact h2 i y q
      .rw[A0 ch]at q
       have:i-l.length=0:=by
        cases hz:i-l.length with
        |zero=>rfl
        |succ z=>rw[hz]at q;simp at q
       rw[this]at q;simp only[A4,Bk]at q;subst q
       have:i=k:=by omega
       subst this;exact hx
    obtain⟨l,h1,h2⟩:=build len (Ai _);refine⟨l,RJ rfl ?_,by omega,fun x hx=>?_⟩
    .cases Ca:len with
     |zero=>
      have:l=[]:=AL ch
      subst this;exact .snil _ _ _
     |succ n=>
      have qm:a.spot=none:=by
       obtain⟨x,vs,hv,_⟩:=one 0 ch
       have:=(Wi hv).2.1 ch
       simpa[Addr.add]using this
      have ea:a=⟨a.block,a.off,none⟩:=by cases a;simp_all
      rw[<-Ca,<-h1,show l.length=(l.map E).length by simp,ea];have cell:∀(i:Nat) (c:List AV) (j:Nat) (av:AV),(l.map E)[i]?=some c->c[j]?=some av->∃v,w.cell? ⟨a.block,a.off+i*(m+1)+j,none⟩=some v/\v.oneCell'=true/\Br (lU w) w Fq av v:=by
       intro i c j av q1 q2;rw[Aw,AD]at q1;obtain⟨x,q1,rfl⟩:=q1;obtain⟨vs,hv,hr,_⟩:=h2 i x q1;obtain⟨k1,_,k3⟩:=Wi hv;have hj:j<m+1:=by
        have:=(Ar.1 q2).1
        rw[hE]at this;exact this
       obtain⟨v,e1,e2⟩:=k3 j ch;refine⟨v,?_,hr.2.1 v (Av e1),hr.2.2 j av v q2 e1⟩;rw[<-e2,hm];unfold Addr.add;split
       .rename_i h0;rw[h0];simp
       .rfl
      refine .slice _ _ a.block a.off (m+1) cap (fun i j=>(w.cell? ⟨a.block,a.off+i*(m+1)+j,none⟩).getD undef) (by rw[AS];omega) (fun i c q=>?_) (fun i c j av q1 q2=>?_) (fun i c j av q1 q2=>?_)
      .rw[Aw,AD]at q;obtain⟨x,_,rfl⟩:=q;exact hE x
      .obtain⟨v,e1,e2,_⟩:=cell i c j av q1 q2;exact⟨XT e1,by rw[e1];rfl,by rw[e1];exact e2⟩
      .obtain⟨v,e1,_,e3⟩:=cell i c j av q1 q2;rw[e1];exact e3
    .obtain⟨i,hi⟩:=Cg.1 hx;obtain⟨_,_,_,h⟩:=h2 i x hi;exact h
   .cases h
theorem NJ{t e:TypeId}(hu:P.underlying t=some (.slice e)):Ko enc P w bk N t (fun _:Unit=>[AV.junk]) (fun _=>True):=by
 intro fuel cs d ps h _;cases fuel with
 |zero=>simp[DataW.trod]at h
 |succ fuel=>
  rw[DataW.trod_step]at h;unfold DataW.trodStep at h;rw[hu]at h;split at h<;>rename_i hq<;>first | cases hq | skip
  all_goals first | (cases h;done) | skip
  all_goals exact⟨(),RJ rfl (.junk _ _),trivial⟩
theorem Ko.to{t:TypeId}{α β:Type}{e:α->List AV}{ok:α->Prop}{e' : β->List AV}{yD : β->Prop}(h:Ko enc P w bk N t e ok)(f:α->β)(hf:∀x,ok x->e' (f x)=e x/\yD (f x)):Ko enc P w bk N t e' yD:=by
 intro fuel cs d ps k hb;obtain⟨x,h1,h2⟩:=h fuel cs d ps k hb;obtain⟨e1,e2⟩:=hf x h2;exact⟨f x,by rw[e1];exact h1,e2⟩
def Xz(enc:TypeId×Value->H)(P:Program)(w:World)(bk:DataW H->Nat)(N L:Nat)(l:List Field)(o:Nat){α:Type}(e:α->List AV)(ok:α->Prop):Prop:=
 ∀(fuel:Nat) (cs:List Value) (xs:List (DataW H×List MemPlace)),cs.length=L->l.mapM (fun f=>DataW.trod enc P w 0 (fun _=>true) true fuel f.type ((cs.drop f.offset).take (P.cellsOf f.type)))=some xs->(∀x∈xs,bk x.1<=N) ->
  ∃x:α,CJ (lU w) w Fq (e x) (cs.drop o)/\ok x
theorem GQ{L:Nat}:Xz enc P w bk N L [] L (fun _:Unit=>[]) (fun _=>True):=by
 intro fuel cs xs hl _ _;refine⟨(),?_,trivial⟩;rw[Vz ch];exact vq
theorem B4{L o n:Nat}{f:Field}{l:List Field}{α β:Type}{e:α->List AV}{ok:α->Prop}{e' : β->List AV}{yD : β->Prop}(ho:f.offset=o)(hn:P.cellsOf f.type=n)(h:Ko enc P w bk N f.type e ok)(k:Xz enc P w bk N L l (o+n) e' yD) :
  Xz enc P w bk N L (f::l) o (fun p:α×β=>e p.1++e' p.2) (fun p=>ok p.1/\yD p.2):=by
 intro fuel cs xs hl hx hb;rw[K7]at hx;simp only[Option.bind_eq_bind,Hi]at hx;obtain⟨y,hy,ys,hys,oZ⟩:=hx;simp only[Option.pure_def,Bk]at oZ;subst oZ;obtain⟨x,r1,r2⟩:=h fuel _ y.1 y.2 hy (hb y (Ab ..));obtain⟨z,s1,s2⟩:=k fuel cs ys hl hys (fun q hq=>hb q (Ae _ hq));refine⟨(x,z),?_,r2,s2⟩;have e:cs.drop o=(cs.drop o).take n++cs.drop (o+n):=by rw[<-He,Fi]
 rw[e];rw[ho,hn]at r1;exact kb r1 s1
theorem FD{t:TypeId}{L:Nat}{fs:Array Field}{α:Type}{e:α->List AV}{ok:α->Prop}(hB:Xw bk)(hu:P.underlying t=some (.struct fs))(hL:P.cellsOf t=L)(h:Xz enc P w bk N L fs.toList 0 e ok):Ko enc P w bk N t e ok:=by
 intro fuel cs d ps k hb;cases fuel with
 |zero=>simp[DataW.trod]at k
 |succ fuel=>
  rw[DataW.trod_step]at k;unfold DataW.trodStep at k;rw[hu]at k
  change (if cs.length=P.cellsOf t then(fs.toList.mapM fun f=>DataW.trod enc P w 0 (fun _=>true) true fuel f.type ((cs.drop f.offset).take (P.cellsOf f.type))).map fun xs=>(DataW.agg (xs.map (·.1)),xs.flatMap (·.2))else none)=some (d,ps)at k
  split at k
  .rename_i hc;simp only[AD,ES]at k;obtain⟨xs,hx,hd,_⟩:=k;have hba:=hB.agg (xs.map (·.1));rw[hd]at hba;obtain⟨x,r1,r2⟩:=h fuel cs xs ch hx (fun y hy=>A9 (hba y.1 (Ak.2 ⟨y,hy,rfl⟩)) hb);exact⟨x,r1,r2⟩
  .cases k
theorem bj{t:TypeId}{α:Type}{e:α->AV}{ok:α->Prop}(h:Ko enc P w bk N t (fun x=>[e x]) ok){v:Value}{d:DataW H}(hv:v.oneCell'=true)(k:DataW.Trod enc P w 0 (fun _=>true) true t v d p)(hb:bk d<=N) :
  ∃x,Br (lU w) w Fq (e x) v/\ok x:=by
 obtain⟨fuel,k⟩:=k;have ec:v.cells.toList=[v]:=by cases v<;>first | rfl | cases hv
 rw[ec]at k;obtain⟨x,r1,r2⟩:=h fuel _ d p k hb;exact⟨x,r1.2.2 0 _ _ rfl rfl,r2⟩
theorem ns{t:TypeId}{α:Type}{e:α->List AV}{ok:α->Prop}(h:Ko enc P w bk N t e ok){cs:Array Value}{d:DataW H}(k:DataW.Trod enc P w 0 (fun _=>true) true t (.agg cs) d p)(hb:bk d<=N) :
  ∃x,Br (lU w) w Fq (.agg (e x)) (.agg cs)/\ok x:=by
 obtain⟨fuel,k⟩:=k;obtain⟨x,r1,r2⟩:=h fuel cs.toList d p k hb;refine⟨x,.agg _ _ _ (by have:=r1.1;simpa using this) (fun i y q=>r1.2.1 y (by rw[Array.mem_toList_iff];exact Array.mem_of_getElem? q)) (fun i av y q1 q2=>r1.2.2 i av y q1 (by simpa using q2)),r2⟩
end
end Go.Eng
namespace Go.Eng
open Go.Proofs
abbrev dTI:TI := dK
abbrev tF:TI := ⟨.func,1,8,.nilFunc,true⟩
abbrev tI:TI := ⟨.int .i64,1,8,.int .i64 0,true⟩
abbrev tP(n:Nat):TI := ⟨.ptr n,1,8,.pointer none,true⟩
abbrev tS(n:Nat):TI := ⟨.slice n,1,24,.slice none 0 0,true⟩
def m9{α:Type}(d:α):List α -> Nat -> α
 | [],_ => d
 |a::r,n => match n with |0 => a |n + 1 => m9 d r n
abbrev tiN:TI := dK
def Ad6:List TI := [⟨.other,1,0,(.tuple #[]),true⟩,tF,tI,tI,⟨.bool,1,1,(.bool .false),true⟩,⟨.int .u8,1,1,(.int .u8 0),true⟩,⟨.int .u8,1,1,(.int .u8 0),true⟩,⟨.struct [(2,0),(3,1),(4,2),(6,3)],4,24,(.agg #[.int .i64 0,.int .i64 0,.bool .false,.int .u8 0]),true⟩,⟨.struct [(2,0),(3,1),(4,2),(6,3)],4,24,(.agg #[.int .i64 0,.int .i64 0,.bool .false,.int .u8 0]),true⟩,⟨.string,1,16,(.string ⟨#[]⟩),true⟩,⟨.string,1,16,(.string ⟨#[]⟩),true⟩,⟨.string,1,16,(.string ⟨#[]⟩),true⟩,⟨.int .u64,1,8,(.int .u64 0),true⟩,⟨.struct [(9,0),(12,1)],2,24,(.agg #[.string ⟨#[]⟩,.int .u64 0]),false⟩,⟨.struct [(9,0),(12,1)],2,24,(.agg #[.string ⟨#[]⟩,.int .u64 0]),false⟩,⟨.ptr 404,1,8,(.pointer .none),true⟩]
def Ad7:List TI := [⟨.ptr 407,1,8,(.pointer .none),true⟩,⟨.ptr 414,1,8,(.pointer .none),true⟩,⟨.struct [(17,0)],1,8,(.agg #[.pointer .none]),false⟩,⟨.struct [(17,0)],1,8,(.agg #[.pointer .none]),false⟩,⟨.iface,1,16,.nilIface,true⟩,⟨.int .i32,1,4,(.int .i32 0),true⟩,⟨.slice 79,1,24,(.slice .none 0 0),true⟩,⟨.slice 97,1,24,(.slice .none 0 0),true⟩,⟨.struct [(22,0),(23,1)],2,48,(.agg #[.slice .none 0 0,.slice .none 0 0]),true⟩,⟨.struct [(22,0),(23,1)],2,48,(.agg #[.slice .none 0 0,.slice .none 0 0]),true⟩,⟨.slice 49,1,24,(.slice .none 0 0),true⟩,⟨.slice 9,1,24,(.slice .none 0 0),true⟩,tF,tF,tF,⟨.slice 60,1,24,(.slice .none 0 0),true⟩]
def Ad8:List TI := [tI,⟨.other,1,0,(.tuple #[.slice .none 0 0,.int .i64 0]),true⟩,tF,tF,tF,tF,tF,⟨.other,1,0,(.tuple #[.agg #[.slice .none 0 0,.slice .none 0 0],.int .i64 0]),true⟩,tF,⟨.other,1,0,(.tuple #[.slice .none 0 0,.slice .none 0 0,.int .i64 0]),true⟩,tF,tF,tiN,tiN,tiN,⟨.struct [(3,0),(3,1),(3,2)],3,24,(.agg #[.int .i64 0,.int .i64 0,.int .i64 0]),true⟩]
def Ad9:List TI := [tiN,⟨.struct [(9,0),(47,1)],4,40,(.agg #[.string ⟨#[]⟩,.int .i64 0,.int .i64 0,.int .i64 0]),true⟩,tiN,tiN,tiN,tiN,⟨.slice 58,1,24,(.slice .none 0 0),true⟩,tiN,tiN,tiN,⟨.struct [(9,0),(47,1),(9,4),(9,5)],6,72,(.agg #[.string ⟨#[]⟩,.int .i64 0,.int .i64 0,.int .i64 0,.string ⟨#[]⟩,.string ⟨#[]⟩]),true⟩,tiN,⟨.struct [(9,0),(47,1),(9,4)],5,56,(.agg #[.string ⟨#[]⟩,.int .i64 0,.int .i64 0,.int .i64 0,.string ⟨#[]⟩]),true⟩,tiN,tiN,tiN]
def Ada:List TI := [tF,tF,tiN,tiN,⟨.slice 5,1,24,(.slice .none 0 0),true⟩,tiN,tiN,⟨.slice 143,1,24,(.slice .none 0 0),true⟩,tiN,tiN,⟨.slice 26,1,24,(.slice .none 0 0),true⟩,tiN,tiN,tiN,tiN,⟨.struct [(9,0),(47,1),(71,4),(9,5),(9,6),(9,7),(4,8)],9,120,(.agg #[.string ⟨#[]⟩,.int .i64 0,.int .i64 0,.int .i64 0,.slice .none 0 0,.string ⟨#[]⟩,.string ⟨#[]⟩,.string ⟨#[]⟩,.bool .false]),true⟩]
def Adb:List TI := [tiN,tiN,tiN,tF,tiN,tF,⟨.map 9 9,1,8,(.map .none),true⟩,tiN,tiN,tiN,⟨.other,1,0,(.tuple #[.string ⟨#[]⟩,.bool .false]),true⟩,tiN,⟨.slice 421,1,24,(.slice .none 0 0),true⟩,⟨.slice 423,1,24,(.slice .none 0 0),true⟩,⟨.slice 425,1,24,(.slice .none 0 0),true⟩,⟨.slice 427,1,24,(.slice .none 0 0),true⟩]
def Adc:List TI := [tiN,⟨.struct [(9,0),(92,1),(93,2),(94,3),(95,4)],5,112,(.agg #[.string ⟨#[]⟩,.slice .none 0 0,.slice .none 0 0,.slice .none 0 0,.slice .none 0 0]),true⟩,tiN,tiN,tiN,tiN,⟨.ptr 104,1,8,(.pointer .none),true⟩,tiN,⟨.struct [(102,0),(68,1)],2,32,(.agg #[.pointer .none,.slice .none 0 0]),true⟩,tiN,⟨.iface,1,16,.nilIface,false⟩,⟨.other,1,0,(.tuple #[.int .i64 0,.nilIface]),true⟩,tiN,tiN,tiN,tiN]
def Ade:List TI := [tF,⟨.map 49 9,1,8,(.map .none),true⟩,tiN,tiN,tF,⟨.other,1,0,(.tuple #[.string ⟨#[]⟩,.string ⟨#[]⟩,.bool .false]),true⟩,tiN,tiN,tiN,⟨.ptr 179,1,8,(.pointer .none),true⟩,tiN,tiN,tiN,tiN,tiN,⟨.int .u64,1,8,(.int .u64 0),true⟩]
def Adf:List TI := [tiN,⟨.slice 294,1,24,(.slice .none 0 0),true⟩,⟨.slice 264,1,24,(.slice .none 0 0),true⟩,tiN,⟨.struct [(4,0),(26,1),(129,2),(130,3)],4,80,(.agg #[.bool .false,.slice .none 0 0,.slice .none 0 0,.slice .none 0 0]),true⟩,tiN,tiN,tiN,tF,⟨.ptr 201,1,8,(.pointer .none),true⟩,tiN,tiN,⟨.slice 226,1,24,(.slice .none 0 0),true⟩,⟨.slice 226,1,24,(.slice .none 0 0),true⟩,tiN,⟨.struct [(9,0),(141,1)],2,40,(.agg #[.string ⟨#[]⟩,.slice .none 0 0]),true⟩]
def Adg:List TI := [tiN,tiN,tiN,tiN,⟨.map 49 79,1,8,(.map .none),true⟩,⟨.map 9 22,1,8,(.map .none),true⟩,tiN,⟨.struct [(148,0),(149,1)],2,16,(.agg #[.map .none,.map .none]),true⟩,tiN,tiN,tiN,⟨.int .u32,1,4,(.int .u32 0),true⟩,tiN,tiN,tiN,tiN]
def yL:List TI := [tF,tiN,tiN,tiN,tiN,tiN,tiN,⟨.array 3 3,3,24,(.agg #[.int .i64 0,.int .i64 0,.int .i64 0]),true⟩,tiN,tiN,⟨.ptr 5,1,8,(.pointer .none),true⟩,tiN,tiN,tiN,tiN,tiN]
def yM:List TI := [⟨.array 8 155,8,32,(.agg (Array.replicate 8 (.int .u32 0))),true⟩,⟨.int .u64,1,8,(.int .u64 0),true⟩,tiN,⟨.struct [(176,0),(9,8),(177,9)],10,56,(.agg #[.int .u32 0,.int .u32 0,.int .u32 0,.int .u32 0,.int .u32 0,.int .u32 0,.int .u32 0,.int .u32 0,.string ⟨#[]⟩,.int .u64 0]),true⟩,tiN,tiN,tiN,tI,⟨.other,1,0,(.tuple #[.int .i64 0,.int .i64 0]),true⟩,tiN,tiN,tiN,⟨.other,1,0,(.tuple #[.int .i64 0,.bool .false]),true⟩,tiN,tiN,tiN]
def yO:List TI := [tF,tiN,⟨.map 9 198,1,8,(.map .none),true⟩,⟨.map 9 141,1,8,(.map .none),true⟩,⟨.slice 262,1,24,(.slice .none 0 0),true⟩,⟨.map 294 3,1,8,(.map .none),true⟩,⟨.slice 209,1,24,(.slice .none 0 0),true⟩,⟨.slice 130,1,24,(.slice .none 0 0),true⟩,tiN,⟨.struct [(71,0),(194,1),(195,2),(129,3),(196,4),(197,5),(4,6),(198,7),(26,8),(199,9)],10,176,(.agg #[.slice .none 0 0,.map .none,.map .none,.slice .none 0 0,.slice .none 0 0,.map .none,.bool .false,.slice .none 0 0,.slice .none 0 0,.slice .none 0 0]),true⟩,tiN,tiN,tF,tiN,tiN,tiN]
def yP:List TI := [tiN,⟨.struct [(3,0),(79,1)],10,128,(.agg #[.int .i64 0,.string ⟨#[]⟩,.int .i64 0,.int .i64 0,.int .i64 0,.slice .none 0 0,.string ⟨#[]⟩,.string ⟨#[]⟩,.string ⟨#[]⟩,.bool .false]),true⟩,tiN,⟨.slice 216,1,24,(.slice .none 0 0),true⟩,tiN,tiN,tiN,tiN,⟨.struct [(143,0),(9,2),(3,3),(3,4)],5,72,(.agg #[.string ⟨#[]⟩,.slice .none 0 0,.string ⟨#[]⟩,.int .i64 0,.int .i64 0]),true⟩,tiN,tF,tiN,tiN,tiN,tiN,tiN]
def yQ:List TI := [tiN,tiN,⟨.struct [(3,0),(3,1)],2,16,(.agg #[.int .i64 0,.int .i64 0]),true⟩,tiN,tiN,tiN,tiN,tiN,tiN,tF,tiN,⟨.other,1,8,(.pointer .none),true⟩,tiN,tiN,tiN,tF]
def yS:List TI := [tiN,tiN,⟨.array 64 155,64,256,(.agg (Array.replicate 64 (.int .u32 0))),true⟩,tiN,tiN,⟨.other,1,0,(.tuple #[.int .u64 0,.int .u64 0]),true⟩,tiN,tiN,tiN,⟨.array 8 5,8,8,(.agg (Array.replicate 8 (.int .u8 0))),true⟩,⟨.int .u64,1,8,(.int .u64 0),true⟩,tiN,tiN,tiN,⟨.ptr 3,1,8,(.pointer .none),true⟩,tiN]
def yT:List TI := [⟨.slice 3,1,24,(.slice .none 0 0),true⟩,tiN,tiN,tiN,tiN,⟨.slice 300,1,24,(.slice .none 0 0),true⟩,⟨.slice 300,1,24,(.slice .none 0 0),true⟩,tiN,⟨.struct [(9,0),(3,1),(3,2)],3,32,(.agg #[.string ⟨#[]⟩,.int .i64 0,.int .i64 0]),true⟩,tiN,tiN,⟨.ptr 143,1,8,(.pointer .none),true⟩,tiN,tiN,tiN,tF]
def yU:List TI := [tiN,tiN,tF,tiN,tiN,tiN,tiN,tiN,tiN,tiN,tiN,tiN,tiN,⟨.other,1,0,(.tuple #[.int .u32 0,.int .u32 0]),true⟩,tiN,⟨.other,1,0,(.tuple #[.int .u64 0,.int .u64 0]),true⟩]
def yV:List TI := [tiN,⟨.ptr 250,1,8,(.pointer .none),true⟩,⟨.other,1,0,(.tuple #[.int .i64 0,.int .i64 0]),true⟩,tiN,tiN,tiN,⟨.struct [(3,0),(9,1),(3,2),(3,3),(3,4),(3,5)],6,56,(.agg #[.int .i64 0,.string ⟨#[]⟩,.int .i64 0,.int .i64 0,.int .i64 0,.int .i64 0]),true⟩,tiN,tiN,tiN,tiN,tiN,⟨.struct [(9,0),(4,1),(141,2)],3,48,(.agg #[.string ⟨#[]⟩,.bool .false,.slice .none 0 0]),true⟩,tF,tiN,tiN]
def yW:List TI := [tiN,tiN,tiN,tiN,tiN,tiN,tiN,tF,tiN,tF,tiN,tiN,tiN,⟨.array 24 5,24,24,(.agg (Array.replicate 24 (.int .u8 0))),true⟩,tiN,⟨.other,1,0,(.tuple #[.slice .none 0 0,.string ⟨#[]⟩]),true⟩]
def yX:List TI := [tiN,⟨.other,1,0,(.tuple #[.int .i32 0,.int .i64 0]),true⟩,tiN,tiN,tI,⟨.other,1,0,(.tuple #[.int .i64 0,.nilIface]),true⟩,tiN,⟨.ptr 350,1,8,(.pointer .none),true⟩,tiN,tiN,tiN,tiN,tiN,tiN,tiN,tiN]
def yY:List TI := [tiN,tF,tiN,tiN,tiN,tiN,tiN,tiN,tiN,⟨.array 20 177,20,160,(.agg (Array.replicate 20 (.int .u64 0))),true⟩,⟨.array 65 5,65,65,(.agg ((List.replicate 32 (.int .u8 0)).append (List.replicate 33 (.int .u8 0))).toArray),true⟩,⟨.other,1,0,(.tuple #[.int .u64 0,.nilIface]),true⟩,tiN,tiN,⟨.struct [(9,0),(9,1),(106,2)],3,48,(.agg #[.string ⟨#[]⟩,.string ⟨#[]⟩,.nilIface]),false⟩,tiN]
def yZ:List TI := [tiN,tiN,tiN,tiN,⟨.map 9 300,1,8,(.map .none),true⟩,tiN,tiN,tF,tiN,tiN,tiN,tiN,tiN,tiN,tiN,⟨.array 256 5,256,256,(.agg (((List.replicate 64 (.int .u8 0)).append (List.replicate 64 (.int .u8 0))).append ((List.replicate 64 (.int .u8 0)).append (List.replicate 64 (.int .u8 0)))).toArray),true⟩]
def y0:List TI := [tiN,⟨.struct [(5,0),(5,1)],2,2,(.agg #[.int .u8 0,.int .u8 0]),true⟩,⟨.array 16 369,32,32,(.agg (Array.replicate 32 (.int .u8 0))),true⟩,tiN,⟨.ptr 374,1,8,(.pointer .none),true⟩,tiN,⟨.struct [(9,0)],1,16,(.agg #[.string ⟨#[]⟩]),true⟩,⟨.slice 141,1,24,(.slice .none 0 0),true⟩,⟨.map 3 3,1,8,(.map .none),true⟩,tiN,tiN,tiN,tiN,tiN,⟨.array 32 5,32,32,(.agg (Array.replicate 32 (.int .u8 0))),true⟩,⟨.array 64 5,64,64,(.agg (Array.replicate 64 (.int .u8 0))),true⟩]
def y6:List TI := []
def y7:List TI := [tiN,tiN,tiN,tiN,⟨.struct [(17,0),(17,1),(17,2),(9,3)],4,40,(.agg #[.pointer .none,.pointer .none,.pointer .none,.string ⟨#[]⟩]),false⟩,tiN,tiN,⟨.other,0,0,(.agg #[]),false⟩,⟨.int .u8,1,1,(.int .u8 0),true⟩,⟨.int .u8,1,1,(.int .u8 0),true⟩,tF,⟨.int .i32,1,4,(.int .i32 0),true⟩,⟨.int .i32,1,4,(.int .i32 0),true⟩,tiN,⟨.struct [(12,0),(12,1),(155,2),(408,3),(5,4),(5,5),(409,6),(410,7),(170,8),(411,9),(412,10)],11,48,(.agg #[.int .u64 0,.int .u64 0,.int .u32 0,.int .u8 0,.int .u8 0,.int .u8 0,.int .u8 0,.nilFunc,.pointer .none,.int .i32 0,.int .i32 0]),false⟩,⟨.slice 430,1,24,(.slice .none 0 0),true⟩]
def y8:List TI := [⟨.slice 419,1,24,(.slice .none 0 0),true⟩,⟨.slice 432,1,24,(.slice .none 0 0),true⟩,tiN,⟨.struct [(3,0),(9,1),(9,2),(416,3),(417,4)],5,88,(.agg #[.int .i64 0,.string ⟨#[]⟩,.string ⟨#[]⟩,.slice .none 0 0,.slice .none 0 0]),true⟩,tiN,⟨.struct [(9,0),(415,1),(419,2),(419,7)],12,216,(.agg #[.string ⟨#[]⟩,.slice .none 0 0,.int .i64 0,.string ⟨#[]⟩,.string ⟨#[]⟩,.slice .none 0 0,.slice .none 0 0,.int .i64 0,.string ⟨#[]⟩,.string ⟨#[]⟩,.slice .none 0 0,.slice .none 0 0]),true⟩,tiN,⟨.struct [(9,0),(415,1),(419,2)],7,128,(.agg #[.string ⟨#[]⟩,.slice .none 0 0,.int .i64 0,.string ⟨#[]⟩,.string ⟨#[]⟩,.slice .none 0 0,.slice .none 0 0]),true⟩,tiN,⟨.struct [(9,0),(9,1),(9,2)],3,48,(.agg #[.string ⟨#[]⟩,.string ⟨#[]⟩,.string ⟨#[]⟩]),true⟩,tiN,⟨.struct [(9,0),(9,1)],2,32,(.agg #[.string ⟨#[]⟩,.string ⟨#[]⟩]),true⟩,tiN,tiN,⟨.struct [(9,0),(3,1),(419,2)],7,112,(.agg #[.string ⟨#[]⟩,.int .i64 0,.int .i64 0,.string ⟨#[]⟩,.string ⟨#[]⟩,.slice .none 0 0,.slice .none 0 0]),true⟩,tiN]
def y9:List TI := [⟨.struct [(9,0),(419,1),(4,6)],7,112,(.agg #[.string ⟨#[]⟩,.int .i64 0,.string ⟨#[]⟩,.string ⟨#[]⟩,.slice .none 0 0,.slice .none 0 0,.bool .false]),true⟩]
def tbl:List (List TI) := [Ad6,Ad7,Ad8,Ad9,Ada,Adb,Adc,Ade,Adf,Adg,yL,yM,yO,yP,yQ,yS,yT,yU,yV,yW,yX,yY,yZ,y0,y6,y7,y8,y9]
def og:GV := fun t => m9 dTI (m9 [] tbl (t / 16)) (t % 16)
def usedT:List Nat := [0,1,2,3,4,5,6,7,8,9,10,11,12,13,14,15,16,17,18,19,20,21,22,23,24,25,26,27,28,29,30,31,32,33,34,35,36,37,38,39,40,41,42,43,47,49,54,58,60,64,65,68,71,74,79,83,85,86,90,92,93,94,95,97,102,104,106,107,112,113,116,117,121,127,129,130,132,136,137,140,141,143,148,149,151,155,160,167,170,176,177,179,183,184,188,192,194,195,196,197,198,199,201,204,209,211,216,218,226,233,235,239,242,245,249,250,254,256,261,262,264,267,271,274,285,287,289,290,294,300,301,311,313,317,319,321,324,325,327,337,345,346,347,350,356,359,367,369,370,372,374,375,376,382,383,404,407,408,409,410,411,412,414,415,416,417,419,421,423,425,427,430,432]
def restT:List Nat := (List.range 448).filter fun t => !usedT.contains t
theorem oh:usedT.map og = usedT.map (jW Tryz.prog) := by kernel_rfl
theorem tab_rest:restT.map og = restT.map fun _ => dTI := by kernel_rfl
theorem fj{α:Type}(d:α):∀(l:List α) (n:Nat),l.length <= n -> m9 d l n = d
 | [],_,_ => rfl
 |_::_,0,h => by simp at h
 |_::r,n + 1,h => fj d r n (by simpa using h)
theorem Cu:Ci Tryz.prog og := by
 intro t
 by_cases h:t<448
 .by_cases u:t∈usedT
  .exact .inr (List.map_inj_left.1 oh t u)
  .exact .inl (List.map_inj_left.1 tab_rest t (BG.2 ⟨IW.2 h,by simpa using u⟩))
 .have h1:m9 ([]:List TI) tbl (t / 16) = [] := fj _ _ _ (by show 28 <= t / 16;omega)
  have h2:og t = dTI := by unfold og;rw[h1];rfl
  exact .inl h2
end Go.Eng
