/- Lemmas 13. -/
import Derived.Test.YtkjhcikodmiceaaGreatDoorUA12
import Derived.ReadAgain
import Derived.RowKit
import Derived.Test.YtkjhcikodmiceaaGreatDoorProg
import Derived.Sort.Grow
import Derived.Shelf.GgSortFunc.InsertionK
namespace Go.Eng
variable {fn:Func}{c:Code}{K:AV->Prop}{f:Nat}(cx:Cx)(r:AV)(σ:Ia)
section
variable {P:Program}{N:Nat}{ds:List Deferred}{w0:World}{g0:Gh}{h0:Nat->HO}{st:St}{g:Gh}{a:Act}{w:World}
theorem Xl{T:FY}(hT:BQ P T){h:Nat->HO}(ho:∀r,Do g w (Aw h) r (h r)){t:Nat}{p:AV}{vp:Value}(hp:AT g w (Aw h) p vp)(hk:Iz T h t p K) :
  ∃ad,(asAddr vp).run P w=.ok ad w/\Bh P h g w (loadVar t ad) K:=by
 obtain⟨x,av,h1,h2,h3⟩:=Un ho hT hp hk;have fin:∀b off,vp=.pointer (some ⟨b,off,none⟩)->∃ad,(asAddr vp).run P w=.ok ad w/\Bh P h g w (loadVar t ad) K:=by
  rintro b off rfl
  refine⟨⟨b,off,none⟩,by simp[asAddr],x,av,?_,h2,h3⟩
  grind [Instr.loadAt,Instr.sureAddr]
 unfold Iz at hk;split at hk
 all_goals grind [cases AT]
def Zw(tmps:Array Value):ResultVar->Sem Value
 |.tmp t=>pure (tmps.getD t undef)
 |.cell ad t=>do loadVar t (<-asAddr (tmps.getD ad undef))
theorem M7(fn:Func)(tmps:Array Value):results fn tmps=(do
 let vs <-fn.results.mapM (Zw tmps)
 pure (if h:vs.size=1 then vs[0]else .tuple vs)):=rfl
theorem VF{cx:Cx}(hT:BQ P cx.T)(hS:SR N ds w0 g0 h0 st g a w):∀(rs:List ResultVar) {K:List AV->Prop},lD cx.T st rs K ->
  ∃l vs,K l/\(rs.mapM (Zw a.tmps)).run P w=.ok vs w/\vs.length=l.length/\vs.length=rs.length /\
   ∀(i:Nat) (av:AV) (x:Value),l[i]?=some av->vs[i]?=some x->AT g w ES av x
 | [],K,hk=>⟨[],[],hk,by simp,rfl,rfl,fun i av x h=>by simp_all⟩
 |.tmp t::r,K,hk=>by
  obtain⟨l,vs,h1,h2,h3,h4,h5⟩:=VF hT hS r hk;refine⟨_,a.tmps.getD t undef::vs,h1,?_,by simp_all,by simp_all,fun i av x q1 q2=>?_⟩
  .grind [Zw,Sem.run_bind,Sem.run_pure,Result.andThen_ok]
  .cases i with
   |zero=>
    simp only[DQ,Cn]at q1 q2;subst q1;subst q2;exact AT.str hS.inv.objs (hS.slots t)
   |succ i=>grind
 |.cell ad t::r,K,hk=>by
  obtain⟨addr,e1,x0,av0,e2,hk',e4⟩:=Xl hT hS.inv.objs (hS.slots ad) hk;obtain⟨l,vs,h1,h2,h3,h4,h5⟩:=VF hT hS r hk';refine⟨_,x0::vs,h1,?_,by simp_all,by simp_all,fun i av x q1 q2=>?_⟩
  .grind [Zw,Sem.run_bind,Sem.run_pure,Result.andThen_ok]
  .cases i with
   |zero=>
    simp only[DQ,Cn]at q1 q2;subst q1;subst q2;exact AT.str hS.inv.objs e4
   |succ i=>grind
theorem lC{cx:Cx}(hT:BQ P cx.T)(hS:SR N ds w0 g0 h0 st g a w)(hk:lB cx st fn.results.toList K) :
  ∃g' r v h',K r/\(results fn a.tmps).run P w=.ok v w/\Cm w0 g0 h0 h' g' w/\Le h0 g0 w0 h' g' w/\AT g' w ES r v:=by
 obtain⟨g',i1,i2⟩:=LQ cx.pl.fin hS.inv;have RH : SR N ds w0 g0 h0 ⟨st.t,NS st.h cx.pl.fin⟩ g' a w:=⟨i1,hS.le.trans i2,hS.dfs,hS.size,fun i=>(hS.slots i).le i2⟩;obtain⟨l,vs,h1,h2,h3,h4,h5⟩:=VF hT RH _ hk;have Ca:(results fn a.tmps).run P w=.ok (if h:vs.toArray.size=1 then vs.toArray[0]else .tuple vs.toArray) w:=by
  rw[M7,show fn.results=fn.results.toList.toArray by simp,List.mapM_toArray];simp_all
 refine⟨g',?_⟩
 match l,vs,h1,h3,h5,Ca with
 | [v],[x],h1,h3,h5,Ca=>exact⟨v,x,_,h1,by simp_all,i1,RH.le,h5 0 v x rfl rfl⟩
 | [],vs,h1,h3,h5,Ca=>
  have:vs=[]:=AI h3
  subst this;exact⟨.tup [],.tuple #[],_,h1,by simp_all,i1,RH.le,.tup _ _ _ rfl fun i av x q=>by simp_all⟩
 |v::v' :: l,vs,h1,h3,h5,Ca=>
  refine⟨.tup (v::v' :: l),.tuple vs.toArray,_,h1,?_,i1,RH.le,.tup _ _ _ ch fun i av x q1 q2=>h5 i av x q1 (by simp_all)⟩;simp_all
theorem Cm.toFree(hI:Cm w0 g0 Ab st.h g w):Cm w0 g0 Ab Ab g w:=
 ⟨hI.os,hI.tape,hI.output,hI.size,hI.frame,hI.slt,fun _=>trivial,fun _ _ _ h=>h.elim,fun _ _ h=>h.elim,hI.sg,hI.glob⟩
theorem NJ{U:Nat->Prop}{n:Nat}:∀{args:List AV} {vals:List Value},vals.length=args.length->(∀(i:Nat) (av:AV) (x:Value),args[i]?=some av->vals[i]?=some x->AT g w U av x) ->
  ∀i,AT g w U (NH args i) ((vals++List.replicate n undef).getD i undef)
 | [],[],_,_,i=>by
  have:(([]:List Value)++List.replicate n undef).getD i undef=undef:=by
   grind
  rw[this];exact .v _ _
 | [],_::_,h,_,_=>by simp_all
 |_::_,[],h,_,_=>by simp_all
 |x::l,v::vs,h,hr,i=>by
  cases i with
  |zero=>exact hr 0 x v rfl rfl
  |succ i=>
   have:=NJ (n:=n) (args:=l) (vals:=vs) (by simp_all) (fun i av x q1 q2=>hr (i+1) av x (by simp_all) (by simp_all)) i
   grind [NH]
theorem eG {f : Nat}{args : List AV}{Q : AV -> Prop}(hP : cx.P = P)(hT : BQ P cx.T)(hm : P.follows .mixedOrders = true)(hx : cx.ext = false)(hf : P.funcs[f]? = some fn)(hn : (fn.name == "runtime.NumGoroutine") = false)(hb:fn.body=some c)(hN:args.length<=fn.ntmps)(hc:DS fn.ntmps c=true)(hk:Qj cx c (nY cx fn.results.toList Q) ⟨NH args,Ab⟩)(hY:∀l σ g w,cx.yp l σ g w:=by exact fun _ _ _ _=>trivial):AW P f args Ab fun r h'=>h'=Ab/\Q r:=by
 refine⟨⟨fn,hf,hn,by simp_all⟩,fun g w vals hs hv hI=>calls_of_wp hf hb ?_⟩;have hU:Aw Ab=ES:=by grind [Aw,ES,Ab]
 have hS:SR fn.ntmps [] w g Ab ⟨NH args,Ab⟩ g { tmps:=vals++Array.replicate (fn.ntmps-vals.size) undef,defers:=[] } w:=by
  refine⟨hI,.refl _ _ _,rfl,by simp_all,fun i=>?_⟩
  have:=NJ (n:=fn.ntmps-vals.size) (args:=args) (vals:=vals.toList) ch (fun i av x q1 q2=>hv i av x q1 (by simp_all)) i
  grind [Array.getD_eq_getD_getElem?,Array.toList_append,Array.toList_replicate]
 refine wpIn_wide.1 (MJ hP hT hm (by unfold Kq;rw[hx];exact fun _=>rfl) (fun l σ _ _ w _ _ _=>hY l σ _ w) none c hc (fun e st g' a w' hk hS=>?_) hS hk);have out:lB cx st fn.results.toList Q->a.defers=[]/\∃v,(results fn a.tmps).run P w'=.ok v w'/\∃v' r h' g',(Ending.returned v:Ending)=.returned v'/\(h'=Ab/\Q r)/\AT g' w' (Aw h') r v'/\Cm w g Ab h' g' w'/\Le Ab g w h' g' w':=by
  intro hk;obtain⟨g2,r,v,h',q1,q2,q3,q4,q5⟩:=lC hT hS hk;exact⟨hS.dfs,v,q2,v,r,Ab,g2,rfl,⟨rfl,q1⟩,by simp_all,Cm.toFree (st:=⟨st.t,h'⟩) q3,⟨fun i hi=>absurd rfl hi,fun i hi=>absurd rfl hi,q4.keeps⟩⟩
 cases e with
 |normal=>exact out hk
 |ret=>exact out hk
 |exit id=>exact hk.elim
theorem QJ{cx:Cx}(hT:BQ P cx.T)(hS:SR N ds w0 g0 h0 st g a w):∀(rs:List ResultVar) {K:List AV->Prop},lE cx.T st rs K ->
  ∃l vs,K l/\(rs.mapM (Zw a.tmps)).run P w=.ok vs w/\vs.length=l.length/\vs.length=rs.length /\
   ∀(i:Nat) (av:AV) (x:Value),l[i]?=some av->vs[i]?=some x->AT g w (Aw st.h) av x
 | [],K,hk=>⟨[],[],hk,by simp,rfl,rfl,fun i av x h=>by simp_all⟩
 |.tmp t::r,K,hk=>by
  obtain⟨l,vs,h1,h2,h3,h4,h5⟩:=QJ hT hS r hk;refine⟨_,a.tmps.getD t undef::vs,h1,?_,by simp_all,by simp_all,fun i av x q1 q2=>?_⟩
  all_goals grind [Zw,Sem.run_bind,Sem.run_pure,Result.andThen_ok,SR.slots]
 |.cell ad t::r,K,hk=>by
  obtain⟨addr,e1,x0,av0,e2,hk',e4⟩:=Xl hT hS.inv.objs (hS.slots ad) hk;obtain⟨l,vs,h1,h2,h3,h4,h5⟩:=QJ hT hS r hk';refine⟨_,x0::vs,h1,?_,by simp_all,by simp_all,fun i av x q1 q2=>?_⟩
  all_goals grind [Zw,Sem.run_bind,Sem.run_pure,Result.andThen_ok]
theorem FP{σ:Ia}:∀{H0:List (Nat×HO)},HC σ H0=true->∀i,Ae H0 Ab i≠.free->1000<=i/\i<2000/\BY σ i=some i
 | [],_,i,h=>absurd rfl h
 |(a,o)::r,hx,i,h=>by
  simp only[HC,Ag,D6,CJ]at hx;obtain⟨⟨⟨h1,h2⟩,h3⟩,h4⟩:=hx
  by_cases e:i=a
  .grind [Nat.eq_of_beq_eq_true]
  .unfold Ae at h;simp only[CX e,F0]at h;exact FP h4 i h
theorem NK{H0:List (Nat×HO)}{σ:Ia}(hσ:Gk σ=true)(hx:HC σ H0=true){h:Nat->HO}(hI:Cm w0 g0 (Ae H0 Ab) h g w)(hL:Le (Ae H0 Ab) g0 w0 h g w) :
  Fk (BY σ) h (EW σ h) g (Dk σ g) w/\Cm w0 g0 (Ae H0 Ab) (EW σ h) (Dk σ g) w/\Le (Ae H0 Ab) g0 w0 (EW σ h) (Dk σ g) w:=by
 have inv:=Vt hσ;have EV:∀j,EW σ h j=match Hi σ j with | some i=>(h i).ren (BY σ) h | none=>.free:=Om _ _ σ
 have hR:Fk (BY σ) h (EW σ h) g (Dk σ g) w:=by
  refine⟨fun r r' hr hu=>?_,fun b o=>Iff.rfl,hI.objs⟩
  grind [Dk,Aw,Ly]
 have Lb:∀j,(EW σ h j).live->∃i,Hi σ j=some i/\(h i).live:=fun j hl=>by
  rw[EV]at hl;cases e:Hi σ j with
  |none=>rw[e]at hl;exact hl.elim
  |some i=>grind [Lx]
 have Vq:∀j i,Hi σ j=some i->(Dk σ g).own j=g.own i:=fun j i e=>by simp[Dk,e]
 refine⟨hR,⟨hI.os,hI.tape,hI.output,hI.size,hI.frame,hI.slt,fun j=>?_,fun j j' b hl Qp e e'=>?_,fun j b hl e=>?_,hI.sg,hI.glob⟩,⟨fun i hi=>?_,fun i hi=>?_,hL.keeps⟩⟩
 .rw[EV];cases e:Hi σ j with
  |none=>trivial
  |some i=>
   by_cases hu:Aw h i
   .grind [Do.ren,Cm.objs]
   .have:h i=.free:=BI.1 hu
    dsimp only;rw[this];trivial
 .obtain⟨i,e1,l1⟩:=Lb j hl;obtain⟨i',e2,l2⟩:=Lb j' Qp;rw[Vq j i e1]at e;rw[Vq j' i' e2]at e';obtain rfl:=hI.inj i i' b l1 l2 e e'
  have:=(inv i j).2 e1
  rw[(inv i j').2 e2]at this;simp_all
 .obtain⟨i,e1,l1⟩:=Lb j hl;rw[Vq j i e1]at e;exact hI.loc i b l1 e
 .obtain⟨_,_,hf⟩:=FP hx i hi;have hb:=(inv i i).1 hf;have e1:(Dk σ g).ρ i=g.ρ i/\(Dk σ g).ln i=g.ln i/\(Dk σ g).tk i=g.tk i:=by grind [Dk]
  obtain⟨k1,k2,k3,k4⟩:=hL.gh i hi<;>simp_all
 .obtain⟨_,_,hf⟩:=FP hx i hi;have hb:=(inv i i).1 hf;unfold Aw;rw[EV,hb];exact(Ly _ _ _).2 (hL.us i hi)
theorem WQ{f:Nat}{args:List AV}{H0:List (Nat×HO)}{Q:AV->(Nat->HO)->Prop}(hP:cx.P=P)(hT:BQ P cx.T)(hm:P.follows .mixedOrders=true)(hx:cx.ext=true)(hf:P.funcs[f]?=some fn)(_hn : (fn.name == "runtime.NumGoroutine") = false)(hb : fn.body = some c)(hN : args.length <= fn.ntmps)(hc : DS fn.ntmps c = true)(hσ : (Gk σ && HC σ H0) = true)(hk:Qj cx c (Wy cx fn.results.toList σ Q) ⟨NH args,Ae H0 Ab⟩){g:Gh}{w:World}{vals:Array Value}(hs:vals.size=args.length)(hv:∀(i:Nat) (av:AV) (x:Value),args[i]?=some av->vals[i]?=some x->AT g w (Aw (Ae H0 Ab)) av x)(hI:Cm w g (Ae H0 Ab) (Ae H0 Ab) g w)(hY:∀l σ h' g' w',DM σ=true->Cm w g (Ae H0 Ab) h' g' w'->Le (Ae H0 Ab) g w h' g' w'->cx.yp l σ (Dk σ g') w') :
  Calls P f vals w fun e w'=>∃v r h' g',e=.returned v/\Q r h'/\AT g' w' (Aw h') r v/\Cm w g (Ae H0 Ab) h' g' w'/\Le (Ae H0 Ab) g w h' g' w':=by
 simp only[Ag]at hσ;obtain⟨hσ,oL⟩:=hσ;refine calls_of_wp hf hb ?_;have hS:SR fn.ntmps [] w g (Ae H0 Ab) ⟨NH args,Ae H0 Ab⟩ g { tmps:=vals++Array.replicate (fn.ntmps-vals.size) undef,defers:=[] } w:=by
  refine⟨hI,.refl _ _ _,rfl,by simp_all,fun i=>?_⟩
  have:=NJ (n:=fn.ntmps-vals.size) (args:=args) (vals:=vals.toList) ch (fun i av x q1 q2=>hv i av x q1 (by simp_all)) i
  grind [Array.getD_eq_getD_getElem?,Array.toList_append,Array.toList_replicate]
 refine wpIn_wide.1 (MJ hP hT hm (by unfold Kq;rw[hx];exact fun i hi=>⟨(FP oL i hi).1,(FP oL i hi).2.1⟩) hY none c hc (fun e st g' a w' hk hS=>?_) hS hk);have out:dn cx st fn.results.toList σ Q->a.defers=[]/\∃v,(results fn a.tmps).run P w'=.ok v w'/\∃v' r h' g',(Ending.returned v:Ending)=.returned v'/\Q r h'/\AT g' w' (Aw h') r v'/\Cm w g (Ae H0 Ab) h' g' w'/\Le (Ae H0 Ab) g w h' g' w':=by
  intro hk;obtain⟨g2,i1,i2⟩:=LQ cx.pl.fin hS.inv;have RH : SR fn.ntmps [] w g (Ae H0 Ab) ⟨st.t,NS st.h cx.pl.fin⟩ g2 a w':=⟨i1,hS.le.trans i2,hS.dfs,hS.size,fun i=>(hS.slots i).le i2⟩;obtain⟨l,vs,h1,h2,h3,h4,h5⟩:=QJ hT RH _ hk;obtain⟨hR,j1,j2⟩:=NK hσ oL i1 RH.le;have Ca:(results fn a.tmps).run P w'=.ok (if h:vs.toArray.size=1 then vs.toArray[0]else .tuple vs.toArray) w':=by
   rw[M7,show fn.results=fn.results.toList.toArray by simp,List.mapM_toArray];simp_all
  refine⟨hS.dfs,?_⟩
  match l,vs,h1,h3,h5,Ca with
  | [v],[x],h1,h3,h5,Ca=>exact⟨x,by simp_all,x,_,_,_,rfl,h1,(h5 0 v x rfl rfl).ren hR,j1,j2⟩
  | [],vs,h1,h3,h5,Ca=>
   have:vs=[]:=AI h3
   subst this;exact⟨.tuple #[],by simp_all,.tuple #[],_,_,_,rfl,h1,AT.ren hR (.tup _ [] _ rfl fun i av x q=>by simp_all),j1,j2⟩
  |v::v' :: l,vs,h1,h3,h5,Ca=>
   refine⟨.tuple vs.toArray,?_,.tuple vs.toArray,_,_,_,rfl,h1,AT.ren hR (.tup _ _ _ ch fun i av x q1 q2=>h5 i av x q1 (by simp_all)),j1,j2⟩;simp_all
 cases e with
 |normal=>exact out hk
 |ret=>exact out hk
 |exit id=>exact hk.elim
theorem fU{f:Nat}{args:List AV}{H0:List (Nat×HO)}{Q:AV->(Nat->HO)->Prop}(hP:cx.P=P)(hT:BQ P cx.T)(hm:P.follows .mixedOrders=true)(hx:cx.ext=true)(hf:P.funcs[f]?=some fn)(hn : (fn.name == "runtime.NumGoroutine") = false)(hb : fn.body = some c)(hN : args.length <= fn.ntmps)(hc : DS fn.ntmps c = true)(hσ : (Gk σ && HC σ H0) = true)(hk:Qj cx c (Wy cx fn.results.toList σ Q) ⟨NH args,Ae H0 Ab⟩)(hY:∀l σ g w,cx.yp l σ g w:=by exact fun _ _ _ _=>trivial):AW P f args (Ae H0 Ab) Q:=
 ⟨⟨fn,hf,hn,by simp_all⟩,fun g w vals hs hv hI=>WQ cx σ hP hT hm hx hf hn hb hN hc hσ hk hs hv hI (fun l σ _ _ w _ _ _=>hY l σ _ w)⟩
end
def DC(r':AV):Prop:=∀(g:Gh) (w:World) (U:Nat->Prop) (x:Value),AT g w U r x->AT g w U r' x
theorem DC.refl:DC r r:=fun _ _ _ _ h=>h
theorem DC.of_eq{r r' : AV}(h:r=r'):DC r r':=h▸.refl r
theorem DC.trans{a b c:AV}(h:DC a b)(k:DC b c):DC a c:=fun g w U x r=>k g w U x (h g w U x r)
theorem DC.nil:DC nzA (.slice .none []):=fun _ _ _ _ h=>by cases h;grind [AT.snil]
def KF:List AV->List AV->Prop
 | [],[]=>True
 |a::r,b::s=>DC a b/\KF r s
 |_,_=>False
theorem KF.refl:∀l:List AV,KF l l
 | []=>trivial
 |a::l=>⟨.refl a,KF.refl l⟩
theorem KF.len:∀{l l' : List AV},KF l l'->l'.length=l.length
 | [],[],_=>rfl
 |_::_,_::_,h=>Aa (·+1) h.2.len
 | [],_::_,h=>h.elim
 |_::_,[],h=>h.elim
theorem KF.get:∀{l l' : List AV},KF l l'->∀(i:Nat) (b:AV),l'[i]?=some b->∃a,l[i]?=some a/\DC a b
 | [],[],_,i,b,h=>by simp_all
 |a::r,b::s,hs,i,c,h=>by
  cases i with
  |zero=>simp only[DQ,Cn]at h;subst h;exact⟨a,rfl,hs.1⟩
  |succ i=>exact KF.get hs.2 i c (by simpa using h)
 | [],_::_,h,_,_,_=>h.elim
 |_::_,[],h,_,_,_=>h.elim
theorem DC.tup{l l' : List AV}(h:KF l l'):DC (.tup l) (.tup l'):=fun g w U x r=>by
 cases r with
 |tup _ _ vs hs hr=>
  refine .tup _ _ vs (by rw[hs,h.len]) fun i av x q1 q2=>?_;obtain⟨a,e1,e2⟩:=h.get i av q1;exact e2 _ _ _ _ (hr i a x e1 q2)
theorem DC.agg{l l' : List AV}(h:KF l l'):DC (.agg l) (.agg l'):=fun g w U x r=>by
 cases r with
 |agg _ _ vs hs h1 hr=>
  refine .agg _ _ vs (by rw[hs,h.len]) h1 fun i av x q1 q2=>?_;obtain⟨a,e1,e2⟩:=h.get i av q1;exact e2 _ _ _ _ (hr i a x e1 q2)
def US:List (List AV)->List (List AV)->Prop
 | [],[]=>True
 |a::r,b::s=>KF a b/\US r s
 |_,_=>False
theorem US.len:∀{l l' : List (List AV)},US l l'->l'.length=l.length
 | [],[],_=>rfl
 |_::_,_::_,h=>Aa (·+1) h.2.len
 | [],_::_,h=>h.elim
 |_::_,[],h=>h.elim
theorem US.get:∀{l l' : List (List AV)},US l l'->∀(i:Nat) (b:List AV),l'[i]?=some b->∃a,l[i]?=some a/\KF a b
 | [],[],_,i,b,h=>by simp_all
 |a::r,b::s,hs,i,c,h=>by
  cases i with
  |zero=>simp only[DQ,Cn]at h;subst h;exact⟨a,rfl,hs.1⟩
  |succ i=>exact US.get hs.2 i c (by simpa using h)
 | [],_::_,h,_,_,_=>h.elim
 |_::_,[],h,_,_,_=>h.elim
theorem DC.slice{l l' : List (List AV)}(h:US l l'):DC (.slice .none l) (.slice .none l'):=fun g w U x r=>by
 have B5:=h.len;cases r with
 |snil _ a cap=>
  grind [AT.snil]
 |slice _ _ b off sz cap val hc hl CZ DH=>
  rw[<-B5];refine .slice _ _ b off sz cap val ch (fun i cs hi=>?_) (fun i cs j av hi hj=>?_) (fun i cs j av hi hj=>?_)
  .grind [US.get,KF.len]
  .grind [US.get,KF.get]
  .obtain⟨a,e1,e2⟩:=h.get i cs hi;obtain⟨c,f1,f2⟩:=e2.get j av hj;exact f2 _ _ _ _ (DH i a j c e1 f1)
section
variable {P:Program}
theorem AW.mono{f:Nat}{args:List AV}{h0:Nat->HO}{Q Q' : AV->(Nat->HO)->Prop}(h:AW P f args h0 Q)(hq:∀r h',Q r h'->∃r',DC r r'/\Q' r' h'):AW P f args h0 Q':=
 ⟨h.1,fun g w vals q1 q2 q3=>(h.2 g w vals q1 q2 q3).mono fun _ _ ⟨v,r,h',g',e1,e2,e3,rest⟩=>
  let ⟨r',s,k⟩:=hq r h' e2
  ⟨v,r',h',g',e1,k,s _ _ _ _ e3,rest⟩⟩
theorem AW.args{args args' : List AV}{h0:Nat->HO}{Q:AV->(Nat->HO)->Prop}(h:AW P f args h0 Q)(hs:KF args' args):AW P f args' h0 Q:=
 ⟨h.1,fun g w vals q1 q2 q3=>h.2 g w vals (by rw[q1,hs.len]) (fun i av x e1 e2=>by
  obtain⟨a,f1,f2⟩:=hs.get i av e1;exact f2 _ _ _ _ (q2 i a x f1 e2)) q3⟩
theorem KP.args{f:Nat}{args args' : List AV}{res:AV}(h:KP P f args res)(hs:KF args' args):KP P f args' res:=AW.args h hs
theorem Em {args : List AV}{res : AV}(hP : cx.P = P)(hT : BQ P cx.T)(hm : P.follows .mixedOrders = true)(hx : cx.ext = false)(hf : P.funcs[f]? = some fn)(hn : (fn.name == "runtime.NumGoroutine") = false)(hb:fn.body=some c)(hN:args.length<=fn.ntmps)(hc:DS fn.ntmps c=true)(hk:Qj cx c (nY cx fn.results.toList fun r=>DC r res) ⟨NH args,Ab⟩)(hY:∀l σ g w,cx.yp l σ g w:=by exact fun _ _ _ _=>trivial):KP P f args res:=
 (eG cx hP hT hm hx hf hn hb hN hc hk hY).mono fun _ _ ⟨e1,e2⟩=>⟨res,e2,rfl,e1⟩
end
end Go.Eng
namespace Go.Eng
open Go.ChangeShapes Go.WideShapes
variable {p:List MemPlace}{w:World}{g:Gh}
def ci(w:World):Gh:=⟨fun _=>undef,fun _=>0,fun _=>false,fun _=>none,fun b _=>b<w.heap.size⟩
theorem U8{b o:Nat}{v:Value}(h:w.cell? ⟨b,o,none⟩=some v):b<w.heap.size:=by
 grind [World.cell?]
theorem mQ(hg:∃m,w.cell? ⟨0,0,none⟩=some (.int .i64 m))(ht:∀x∈qQ,x.1<w.heap.size/\w.cell? ⟨x.1,x.2.1,none⟩=x.2.2):Cm w (ci w) Ab Ab (ci w) w where
 os:=rfl
 tape:=rfl
 output:=rfl
 size:=Ai _
 frame:=fun _ _ _=>rfl
 slt:=fun _ _ h=>h
 objs:=fun _=>trivial
 inj:=fun _ _ _ h=>h.elim
 loc:=fun _ _ h=>h.elim
 sg:=fun _ _ h=>.inl h
 glob:=⟨⟨by obtain⟨m,h⟩:=hg;exact U8 h,hg⟩,fun x hx=>ht x hx⟩
theorem Sg{α β:Type}{f:α->Option β}:∀{l:List α} {r:List β},l.mapM f=some r->r.length=l.length/\∀(i:Nat) x,l[i]?=some x->∃y,r[i]?=some y/\f x=some y
 | [],r,h=>by simp_all
 |a::l,r,h=>by
  rw[List.mapM_cons]at h;cases ha:f a with
  |none=>simp_all
  |some b=>
   cases hl:l.mapM f with
   |none=>simp_all
   |some s=>
    simp[ha,hl]at h;subst h;obtain⟨h1,h2⟩:=Sg hl<;>grind
theorem TY{base:Nat}{a:Addr}{n:Nat}{cs:List Value}(h:w.cells? base a n=some cs) :
  cs.length=n/\(0<n->a.spot=none)/\∀j,j<n->∃v,cs[j]?=some v/\w.cell? ⟨a.block,a.off+j,none⟩=some v:=by
 unfold World.cells? at h;split at h
 .obtain⟨h1,h2⟩:=Sg h;have one:∀j,j<n->∃v,cs[j]?=some v/\w.cell? (a.add j)=some v:=fun j hj=>by
   obtain⟨v,e1,e2⟩:=h2 j j (by simp[hj])<;>simp_all
  have uc:0<n->a.spot=none:=fun hn=>by
   obtain⟨v,_,hv⟩:=one 0 hn;simp only[Addr.add,A1]at hv;cases hs:a.spot<;>grind [World.cell?]
  refine⟨by simp_all,uc,fun j hj=>?_⟩;obtain⟨v,e1,e2⟩:=one j hj;refine⟨v,e1,?_⟩;have hs:=uc ch;have e:a.add j=⟨a.block,a.off+j,none⟩:=by
   unfold Addr.add;split
   .rename_i h0;subst h0;cases a;simp_all
   .rfl
  simp_all
 simp_all
section
variable {H:Type}{enc:TypeId×Value->H}{P:Program}{w:World}{bk:DataW H->Nat}{N:Nat}
structure UN(bk:DataW H->Nat):Prop where
 slice:∀es sp,es.length<=bk (.slice es sp)/\∀d∈es,bk d<=bk (.slice es sp)
 agg:∀ps,∀d∈ps,bk d<=bk (.agg ps)
 str:∀b:List UInt8,b.length<=bk (.lit (.string b))
def IQ(enc:TypeId×Value->H)(P:Program)(w:World)(bk:DataW H->Nat)(N:Nat)(t:TypeId){α:Type}(e:α->List AV)(ok:α->Prop):Prop:=
 ∀(fuel:Nat) (cs:List Value) (d:DataW H) (ps:List MemPlace),DataW.trod enc P w 0 (fun _=>true) true fuel t cs=some (d,ps)->bk d<=N->∃x:α,BR (ci w) w ES (e x) cs/\ok x
theorem PB{U:Nat->Prop}{a:AV}{v:Value}(h1:v.oneCell'=true)(h2:AT g w U a v):BR g w U [a] [v]:=by
 refine⟨rfl,fun x hx=>by simp_all,fun i av x q1 q2=>?_⟩
 grind
theorem dV{U:Nat->Prop}{a b:List AV}{c d:List Value}(h:BR g w U a c)(k:BR g w U b d):BR g w U (a++b) (c++d):=by
 obtain⟨h1,h2,h3⟩:=h;obtain⟨k1,k2,k3⟩:=k;refine⟨by simp_all,fun x hx=>(Bc.1 hx).elim (h2 x) (k2 x),fun i av x q1 q2=>?_⟩
 grind
theorem pD{U:Nat->Prop}:BR g w U [] []:=⟨rfl,(fun x hx=>by cases hx),fun i av x q1=>by simp_all⟩
theorem Uu{t:TypeId}{k:IntKind}(hu:P.underlying t=some (.int k)):IQ enc P w bk N t (fun n:Int=>[AV.v (.int k n)]) (fun n=>k.min<=n/\n<=k.max):=by
 intro fuel cs d ps h _;cases fuel with
 |zero=>simp[DataW.trod]at h
 |succ fuel=>
  rw[DataW.trod_step]at h;unfold DataW.trodStep at h;rw[hu]at h;split at h<;>rename_i he<;>first | cases he | skip
  all_goals first | (split at h<;>first | cases h | skip) | cases h | skip
  rename_i n hc _;obtain⟨rfl,hw⟩:=hc;simp only[Lit.wf,Ag,A5]at hw;exact⟨_,PB rfl (.v _ _),hw⟩
theorem Zk{t:TypeId}(hu:P.underlying t=some .bool):IQ enc P w bk N t (fun b:Bool=>[AV.v (.bool b)]) (fun _=>True):=by
 intro fuel cs d ps h _;cases fuel with
 |zero=>simp[DataW.trod]at h
 |succ fuel=>
  rw[DataW.trod_step]at h;unfold DataW.trodStep at h;rw[hu]at h;split at h<;>rename_i he<;>first | cases he | skip
  all_goals first | cases h | skip
  exact⟨_,PB rfl (.v _ _),trivial⟩
theorem VE{t:TypeId}(hB:UN bk)(hu:P.underlying t=some .string):IQ enc P w bk N t (fun s:ByteArray=>[AV.v (.string s)]) (fun s=>s.size<=N):=by
 intro fuel cs d ps h hb;cases fuel with
 |zero=>simp[DataW.trod]at h
 |succ fuel=>
  rw[DataW.trod_step]at h;unfold DataW.trodStep at h;rw[hu]at h;split at h<;>rename_i he<;>first | cases he | skip
  all_goals first | (split at h<;>first | cases h | skip) | cases h | skip
  rename_i s hs;refine⟨s,PB rfl (.v _ _),?_⟩
  have:=hB.str s.data.toList
  have e:s.data.toList.length=s.size:=by simp_all
  omega
theorem FV{t e:TypeId}{α:Type}{E:α->List AV}{ok:α->Prop}{m:Nat}(hB:UN bk)(hu:P.underlying t=some (.slice e))(hm:P.cellsOf e=m+1)(hE:∀x,(E x).length=m+1)(he:IQ enc P w bk N e E ok) :
  IQ enc P w bk N t (fun l:List α=>[AV.slice .none (l.map E)]) (fun l=>l.length<=N/\∀x∈l,ok x):=by
 intro fuel cs d ps h hb;cases fuel with
 |zero=>simp[DataW.trod]at h
 |succ fuel=>
  rw[DataW.trod_step]at h;unfold DataW.trodStep at h;rw[hu]at h;split at h<;>rename_i hq<;>first | cases hq | skip
  all_goals first | (cases h;done) | skip
  .cases h
   exact⟨[],PB rfl (.snil _ _ _),Ar _,fun x hx=>by cases hx⟩
  .rename_i a len cap;simp only at h;split at h
   .rename_i hc;simp only[B4,QP]at h;obtain⟨mp,pN,rest,_,hd⟩:=h;simp only[Prod.mk.injEq]at hd;obtain⟨hd,_⟩:=hd;obtain⟨hl,EV⟩:=Sg pN;rw[List.length_range]at hl;have wi:=hB.slice (mp.map (·.1)) (rest.map (·.1));rw[hd]at wi;rw[A2]at wi;have one:∀i,i<len->∃(x:α) (vs:List Value),w.cells? 0 (a.add (i*P.cellsOf e)) (P.cellsOf e)=some vs/\BR (ci w) w ES (E x) vs/\ok x:=fun i hi=>by
     obtain⟨y,hy,hf⟩:=EV i i (by simp_all);simp only[QP]at hf;obtain⟨vs,hv,ht⟩:=hf;obtain⟨x,r1,r2⟩:=he fuel vs y.1 y.2 ht (AH (wi.2 y.1 (Ak.2 ⟨y,Aq hy,rfl⟩)) hb)<;>grind
    have build:∀k,k<=len->∃l:List α,l.length=k/\∀(i:Nat) x,l[i]?=some x->∃vs:List Value,w.cells? 0 (a.add (i*P.cellsOf e)) (P.cellsOf e)=some vs/\BR (ci w) w ES (E x) vs/\ok x:=fun k=>by
     induction k with
     |zero=>simp_all
     |succ k ih=>
      intro hk;obtain⟨l,h1,h2⟩:=ih ch;obtain⟨x,hx⟩:=one k ch;refine⟨l++[x],by simp_all,fun i y q=>?_⟩
      grind
    obtain⟨l,h1,h2⟩:=build len (Ai _);refine⟨l,PB rfl ?_,by omega,fun x hx=>?_⟩
    .cases B5:len with
     |zero=>
      grind [AT.snil]
     |succ n=>
      have uc:a.spot=none:=by
       obtain⟨x,vs,hv,_⟩:=one 0 ch
       have:=(TY hv).2.1 ch
       grind [Addr.add]
      have ea:a=⟨a.block,a.off,none⟩:=by cases a;simp_all
      rw[<-B5,<-h1,show l.length=(l.map E).length by simp,ea];have cell:∀(i:Nat) (c:List AV) (j:Nat) (av:AV),(l.map E)[i]?=some c->c[j]?=some av->∃v,w.cell? ⟨a.block,a.off+i*(m+1)+j,none⟩=some v/\v.oneCell'=true/\AT (ci w) w ES av v:=by
       intro i c j av q1 q2;rw[BC,B4]at q1;obtain⟨x,q1,rfl⟩:=q1;obtain⟨vs,hv,hr,_⟩:=h2 i x q1;obtain⟨k1,_,k3⟩:=TY hv;have hj:j<m+1:=by
        grind
       obtain⟨v,e1,e2⟩:=k3 j ch;refine⟨v,?_,hr.2.1 v (Aq e1),hr.2.2 j av v q2 e1⟩
       grind [Addr.add]
      refine .slice _ _ a.block a.off (m+1) cap (fun i j=>(w.cell? ⟨a.block,a.off+i*(m+1)+j,none⟩).getD undef) (by grind) (fun i c q=>?_) (fun i c j av q1 q2=>?_) (fun i c j av q1 q2=>?_)
      .grind
      .obtain⟨v,e1,e2,_⟩:=cell i c j av q1 q2;exact⟨U8 e1,by grind,by grind⟩
      .obtain⟨v,e1,_,e3⟩:=cell i c j av q1 q2;rw[e1];exact e3
    grind [List.mem_iff_getElem?]
   simp_all
theorem L1{t e:TypeId}(hu:P.underlying t=some (.slice e)):IQ enc P w bk N t (fun _:Unit=>[AV.junk]) (fun _=>True):=by
 intro fuel cs d ps h _;cases fuel with
 |zero=>simp[DataW.trod]at h
 |succ fuel=>
  rw[DataW.trod_step]at h;unfold DataW.trodStep at h;rw[hu]at h;split at h<;>rename_i hq<;>first | cases hq | skip
  all_goals first | (cases h;done) | skip
  all_goals exact⟨(),PB rfl (.junk _ _),trivial⟩
theorem IQ.to{t:TypeId}{α β:Type}{e:α->List AV}{ok:α->Prop}{e' : β->List AV}{sq : β->Prop}(h:IQ enc P w bk N t e ok)(f:α->β)(hf:∀x,ok x->e' (f x)=e x/\sq (f x)):IQ enc P w bk N t e' sq:=by
 intro fuel cs d ps k hb;obtain⟨x,h1,h2⟩:=h fuel cs d ps k hb<;>grind
def UR(enc:TypeId×Value->H)(P:Program)(w:World)(bk:DataW H->Nat)(N L:Nat)(l:List Field)(o:Nat){α:Type}(e:α->List AV)(ok:α->Prop):Prop:=
 ∀(fuel:Nat) (cs:List Value) (xs:List (DataW H×List MemPlace)),cs.length=L->l.mapM (fun f=>DataW.trod enc P w 0 (fun _=>true) true fuel f.type ((cs.drop f.offset).take (P.cellsOf f.type)))=some xs->(∀x∈xs,bk x.1<=N) ->
  ∃x:α,BR (ci w) w ES (e x) (cs.drop o)/\ok x
theorem EN{L:Nat}:UR enc P w bk N L [] L (fun _:Unit=>[]) (fun _=>True):=by
 intro fuel cs xs hl _ _;refine⟨(),?_,trivial⟩
 grind [pD]
theorem AY{L o n:Nat}{f:Field}{l:List Field}{α β:Type}{e:α->List AV}{ok:α->Prop}{e' : β->List AV}{sq : β->Prop}(ho:f.offset=o)(hn:P.cellsOf f.type=n)(h:IQ enc P w bk N f.type e ok)(k:UR enc P w bk N L l (o+n) e' sq) :
  UR enc P w bk N L (f::l) o (fun p:α×β=>e p.1++e' p.2) (fun p=>ok p.1/\sq p.2):=by
 intro fuel cs xs hl hx hb;rw[List.mapM_cons]at hx;simp only[Option.bind_eq_bind,QP]at hx;obtain⟨y,hy,ys,hys,kS⟩:=hx;simp only[Option.pure_def,Cn]at kS;subst kS;obtain⟨x,r1,r2⟩:=h fuel _ y.1 y.2 hy (hb y (Ad ..));obtain⟨z,s1,s2⟩:=k fuel cs ys hl hys (fun q hq=>hb q (Af _ hq));refine⟨(x,z),?_,r2,s2⟩
 grind [List.drop_drop,List.take_append_drop,dV]
theorem DP{t:TypeId}{L:Nat}{fs:Array Field}{α:Type}{e:α->List AV}{ok:α->Prop}(hB:UN bk)(hu:P.underlying t=some (.struct fs))(hL:P.cellsOf t=L)(h:UR enc P w bk N L fs.toList 0 e ok):IQ enc P w bk N t e ok:=by
 intro fuel cs d ps k hb;cases fuel with
 |zero=>simp[DataW.trod]at k
 |succ fuel=>
  rw[DataW.trod_step]at k;unfold DataW.trodStep at k;rw[hu]at k
  change (if cs.length=P.cellsOf t then(fs.toList.mapM fun f=>DataW.trod enc P w 0 (fun _=>true) true fuel f.type ((cs.drop f.offset).take (P.cellsOf f.type))).map fun xs=>(DataW.agg (xs.map (·.1)),xs.flatMap (·.2))else none)=some (d,ps)at k
  split at k
  .rename_i hc;simp only[B4,Prod.mk.injEq]at k;obtain⟨xs,hx,hd,_⟩:=k;have zg:=hB.agg (xs.map (·.1));rw[hd]at zg;obtain⟨x,r1,r2⟩:=h fuel cs xs ch hx (fun y hy=>AH (zg y.1 (Ak.2 ⟨y,hy,rfl⟩)) hb)<;>grind
  simp_all
theorem Ss{t:TypeId}{α:Type}{e:α->AV}{ok:α->Prop}(h:IQ enc P w bk N t (fun x=>[e x]) ok){v:Value}{d:DataW H}(hv:v.oneCell'=true)(k:DataW.Trod enc P w 0 (fun _=>true) true t v d p)(hb:bk d<=N) :
  ∃x,AT (ci w) w ES (e x) v/\ok x:=by
 obtain⟨fuel,k⟩:=k;have ec:v.cells.toList=[v]:=by cases v<;>first | rfl | cases hv
 rw[ec]at k;obtain⟨x,r1,r2⟩:=h fuel _ d p k hb;exact⟨x,r1.2.2 0 _ _ rfl rfl,r2⟩
theorem Lt{t:TypeId}{α:Type}{e:α->List AV}{ok:α->Prop}(h:IQ enc P w bk N t e ok){cs:Array Value}{d:DataW H}(k:DataW.Trod enc P w 0 (fun _=>true) true t (.agg cs) d p)(hb:bk d<=N) :
  ∃x,AT (ci w) w ES (.agg (e x)) (.agg cs)/\ok x:=by
 obtain⟨fuel,k⟩:=k;obtain⟨x,r1,r2⟩:=h fuel cs.toList d p k hb;refine⟨x,.agg _ _ _ (by have:=r1.1;omega) (fun i y q=>r1.2.1 y (by grind)) (fun i av y q1 q2=>r1.2.2 i av y q1 (by simp_all)),r2⟩
end
end Go.Eng
namespace Go.Eng
open Go.Proofs
abbrev vK:TI := ZH
abbrev tF:TI := ⟨.func,1,8,.nilFunc,true⟩
abbrev tI:TI := ⟨.int .i64,1,8,.int .i64 0,true⟩
abbrev tP(n:Nat):TI := ⟨.ptr n,1,8,.pointer none,true⟩
abbrev tS(n:Nat):TI := ⟨.slice n,1,24,.slice none 0 0,true⟩
def ic{α:Type}(d:α):List α -> Nat -> α
 | [],_ => d
 |a::r,n => match n with |0 => a |n + 1 => ic d r n
abbrev tiN:TI := ZH
def ye:List TI := [⟨.other,1,0,(.tuple #[]),true⟩,tF,tI,tI,⟨.bool,1,1,(.bool .false),true⟩,⟨.int .u8,1,1,(.int .u8 0),true⟩,⟨.int .u8,1,1,(.int .u8 0),true⟩,⟨.struct [(2,0),(3,1),(4,2),(6,3)],4,24,(.agg #[.int .i64 0,.int .i64 0,.bool .false,.int .u8 0]),true⟩,⟨.struct [(2,0),(3,1),(4,2),(6,3)],4,24,(.agg #[.int .i64 0,.int .i64 0,.bool .false,.int .u8 0]),true⟩,⟨.string,1,16,(.string ⟨#[]⟩),true⟩,⟨.string,1,16,(.string ⟨#[]⟩),true⟩,⟨.string,1,16,(.string ⟨#[]⟩),true⟩,⟨.int .u64,1,8,(.int .u64 0),true⟩,⟨.struct [(9,0),(12,1)],2,24,(.agg #[.string ⟨#[]⟩,.int .u64 0]),false⟩,⟨.struct [(9,0),(12,1)],2,24,(.agg #[.string ⟨#[]⟩,.int .u64 0]),false⟩,⟨.ptr 462,1,8,(.pointer .none),true⟩]
def yf:List TI := [⟨.ptr 465,1,8,(.pointer .none),true⟩,⟨.ptr 472,1,8,(.pointer .none),true⟩,⟨.struct [(17,0)],1,8,(.agg #[.pointer .none]),false⟩,⟨.struct [(17,0)],1,8,(.agg #[.pointer .none]),false⟩,⟨.iface,1,16,.nilIface,true⟩,⟨.int .i32,1,4,(.int .i32 0),true⟩,⟨.slice 70,1,24,(.slice .none 0 0),true⟩,⟨.slice 478,1,24,(.slice .none 0 0),true⟩,⟨.struct [(22,0),(23,1)],2,48,(.agg #[.slice .none 0 0,.slice .none 0 0]),true⟩,⟨.struct [(22,0),(23,1)],2,48,(.agg #[.slice .none 0 0,.slice .none 0 0]),true⟩,⟨.slice 68,1,24,(.slice .none 0 0),true⟩,tF,tF,⟨.slice 53,1,24,(.slice .none 0 0),true⟩,⟨.slice 96,1,24,(.slice .none 0 0),true⟩,⟨.slice 92,1,24,(.slice .none 0 0),true⟩]
def yg:List TI := [⟨.struct [(26,0),(29,1),(30,2),(31,3)],4,96,(.agg #[.slice .none 0 0,.slice .none 0 0,.slice .none 0 0,.slice .none 0 0]),true⟩,⟨.struct [(26,0),(29,1),(30,2),(31,3)],4,96,(.agg #[.slice .none 0 0,.slice .none 0 0,.slice .none 0 0,.slice .none 0 0]),true⟩,tI,⟨.other,1,0,(.tuple #[.agg #[.slice .none 0 0,.slice .none 0 0,.slice .none 0 0,.slice .none 0 0],.int .i64 0]),true⟩,tF,⟨.slice 45,1,24,(.slice .none 0 0),true⟩,⟨.other,1,0,(.tuple #[.slice .none 0 0,.int .i64 0]),true⟩,tF,tF,tF,⟨.struct [(3,0),(3,1),(3,2)],3,24,(.agg #[.int .i64 0,.int .i64 0,.int .i64 0]),true⟩,⟨.struct [(3,0),(3,1),(3,2)],3,24,(.agg #[.int .i64 0,.int .i64 0,.int .i64 0]),true⟩,tiN,⟨.struct [(9,0),(43,1)],4,40,(.agg #[.string ⟨#[]⟩,.int .i64 0,.int .i64 0,.int .i64 0]),true⟩,tiN,tiN]
def yh:List TI := [tiN,tiN,tiN,tiN,tiN,⟨.struct [(9,0),(43,1),(9,4),(9,5)],6,72,(.agg #[.string ⟨#[]⟩,.int .i64 0,.int .i64 0,.int .i64 0,.string ⟨#[]⟩,.string ⟨#[]⟩]),true⟩,tiN,tiN,tiN,tiN,tiN,tiN,tiN,tiN,tiN,tiN]
def yi:List TI := [⟨.struct [(3,0),(3,1)],2,16,(.agg #[.int .i64 0,.int .i64 0]),true⟩,⟨.slice 64,1,24,(.slice .none 0 0),true⟩,⟨.slice 64,1,24,(.slice .none 0 0),true⟩,tiN,⟨.struct [(9,0),(66,1)],2,40,(.agg #[.string ⟨#[]⟩,.slice .none 0 0]),true⟩,tiN,⟨.struct [(9,0),(43,1),(26,4),(9,5),(9,6),(9,7),(4,8)],9,120,(.agg #[.string ⟨#[]⟩,.int .i64 0,.int .i64 0,.int .i64 0,.slice .none 0 0,.string ⟨#[]⟩,.string ⟨#[]⟩,.string ⟨#[]⟩,.bool .false]),true⟩,⟨.slice 76,1,24,(.slice .none 0 0),true⟩,tiN,tiN,tiN,tiN,⟨.struct [(9,0),(3,1),(3,2)],3,32,(.agg #[.string ⟨#[]⟩,.int .i64 0,.int .i64 0]),true⟩,tiN,tiN,tiN]
def yj:List TI := [⟨.struct [(4,0),(37,1),(30,2),(31,3)],4,80,(.agg #[.bool .false,.slice .none 0 0,.slice .none 0 0,.slice .none 0 0]),true⟩,tiN,tiN,tiN,tiN,tiN,tiN,tiN,tiN,tiN,tiN,tiN,⟨.struct [(9,0),(3,1),(3,2)],3,32,(.agg #[.string ⟨#[]⟩,.int .i64 0,.int .i64 0]),true⟩,tiN,tiN,tiN]
def yk:List TI := [⟨.struct [(3,0),(9,1),(3,2),(3,3),(3,4),(3,5)],6,56,(.agg #[.int .i64 0,.string ⟨#[]⟩,.int .i64 0,.int .i64 0,.int .i64 0,.int .i64 0]),true⟩,tiN,⟨.map 45 70,1,8,(.map .none),true⟩,⟨.map 9 22,1,8,(.map .none),true⟩,tiN,⟨.struct [(98,0),(99,1)],2,16,(.agg #[.map .none,.map .none]),true⟩,tiN,tiN,tiN,tiN,⟨.map 9 70,1,8,(.map .none),true⟩,tiN,tiN,tF,tiN,⟨.map 9 4,1,8,(.map .none),true⟩]
def ym:List TI := [tiN,tiN,tiN,tiN,tiN,tiN,tiN,⟨.ptr 121,1,8,(.pointer .none),true⟩,tiN,⟨.struct [(9,0)],1,16,(.agg #[.string ⟨#[]⟩]),true⟩,tiN,⟨.ptr 33,1,8,(.pointer .none),true⟩,⟨.ptr 128,1,8,(.pointer .none),true⟩,⟨.ptr 225,1,8,(.pointer .none),true⟩,tiN,tiN]
def yn:List TI := [⟨.struct [(125,0),(3,1)],2,16,(.agg #[.pointer .none,.int .i64 0]),true⟩,tiN,tiN,tiN,⟨.slice 3,1,24,(.slice .none 0 0),true⟩,tiN,tiN,tiN,tiN,tiN,tiN,tiN,tiN,tiN,tiN,tiN]
def yo:List TI := [⟨.slice 9,1,24,(.slice .none 0 0),true⟩,⟨.map 9 3,1,8,(.map .none),true⟩,tiN,tiN,tiN,tiN,⟨.other,1,0,(.tuple #[.int .i64 0,.bool .false]),true⟩,tiN,tiN,⟨.ptr 163,1,8,(.pointer .none),true⟩,tiN,tiN,⟨.map 9 160,1,8,(.map .none),true⟩,⟨.map 9 66,1,8,(.map .none),true⟩,⟨.slice 258,1,24,(.slice .none 0 0),true⟩,⟨.map 96 3,1,8,(.map .none),true⟩]
def sA:List TI := [⟨.slice 242,1,24,(.slice .none 0 0),true⟩,⟨.slice 31,1,24,(.slice .none 0 0),true⟩,tiN,⟨.struct [(26,0),(156,1),(157,2),(30,3),(158,4),(159,5),(4,6),(160,7),(37,8),(161,9)],10,176,(.agg #[.slice .none 0 0,.map .none,.map .none,.slice .none 0 0,.slice .none 0 0,.map .none,.bool .false,.slice .none 0 0,.slice .none 0 0,.slice .none 0 0]),true⟩,tiN,tiN,tF,tiN,tiN,tiN,tiN,tiN,tiN,tiN,tiN,tiN]
def sC:List TI := [tiN,tiN,tiN,tiN,tF,⟨.ptr 281,1,8,(.pointer .none),true⟩,tiN,tiN,tiN,tiN,tiN,tF,tiN,tF,tiN,tiN]
def sD:List TI := [tiN,tiN,tiN,tF,tiN,⟨.iface,1,16,.nilIface,false⟩,tiN,⟨.ptr 26,1,8,(.pointer .none),true⟩,⟨.ptr 68,1,8,(.pointer .none),true⟩,tiN,tiN,tiN,tiN,tiN,tiN,tiN]
def sE:List TI := [⟨.ptr 3,1,8,(.pointer .none),true⟩,tiN,tF,tiN,⟨.ptr 29,1,8,(.pointer .none),true⟩,⟨.ptr 53,1,8,(.pointer .none),true⟩,tF,tiN,⟨.ptr 30,1,8,(.pointer .none),true⟩,⟨.ptr 96,1,8,(.pointer .none),true⟩,tiN,tF,tiN,⟨.ptr 31,1,8,(.pointer .none),true⟩,⟨.ptr 92,1,8,(.pointer .none),true⟩,tF]
def sF:List TI := [tiN,⟨.struct [(9,0),(3,1),(34,2)],3,32,(.agg #[.string ⟨#[]⟩,.int .i64 0,.int .i64 0]),true⟩,tiN,tiN,tiN,⟨.int .u64,1,8,(.int .u64 0),true⟩,tiN,tiN,tiN,tiN,tiN,tiN,tiN,tiN,tiN,tiN]
def sG:List TI := [⟨.int .u64,1,8,(.int .u64 0),true⟩,tiN,⟨.struct [(3,0),(70,1)],10,128,(.agg #[.int .i64 0,.string ⟨#[]⟩,.int .i64 0,.int .i64 0,.int .i64 0,.slice .none 0 0,.string ⟨#[]⟩,.string ⟨#[]⟩,.string ⟨#[]⟩,.bool .false]),true⟩,tiN,⟨.slice 249,1,24,(.slice .none 0 0),true⟩,tiN,tiN,tiN,tiN,⟨.struct [(68,0),(9,2),(3,3),(3,4)],5,72,(.agg #[.string ⟨#[]⟩,.slice .none 0 0,.string ⟨#[]⟩,.int .i64 0,.int .i64 0]),true⟩,tF,tiN,tiN,tiN,tiN,tiN]
def sI:List TI := [tF,⟨.slice 325,1,24,(.slice .none 0 0),true⟩,⟨.slice 325,1,24,(.slice .none 0 0),true⟩,tiN,tiN,⟨.other,1,0,(.tuple #[.string ⟨#[]⟩,.bool .false]),true⟩,tiN,tiN,tiN,tiN,tiN,tiN,tiN,tiN,tiN,tiN]
def sJ:List TI := [tiN,tiN,tiN,tiN,⟨.array 3 3,3,24,(.agg #[.int .i64 0,.int .i64 0,.int .i64 0]),true⟩,tiN,tiN,tiN,tiN,⟨.struct [(25,0),(26,2),(158,3)],4,96,(.agg #[.slice .none 0 0,.slice .none 0 0,.slice .none 0 0,.slice .none 0 0]),true⟩,tiN,tiN,tF,tiN,tiN,tiN]
def sK:List TI := [tiN,tiN,tiN,tiN,tiN,tiN,tF,tiN,⟨.slice 5,1,24,(.slice .none 0 0),true⟩,tiN,tiN,⟨.int .u32,1,4,(.int .u32 0),true⟩,tiN,tiN,tiN,tiN]
def sL:List TI := [tiN,tiN,tiN,tiN,tI,⟨.other,1,0,(.tuple #[.int .i64 0,.int .i64 0]),true⟩,tiN,tiN,tiN,tiN,tiN,tiN,tiN,tiN,tF,tiN]
def sM:List TI := [tiN,tiN,tiN,tiN,tiN,⟨.struct [(9,0),(4,1),(66,2)],3,48,(.agg #[.string ⟨#[]⟩,.bool .false,.slice .none 0 0]),true⟩,tF,tiN,tiN,tiN,tiN,tiN,tiN,tiN,tiN,tiN]
def sN:List TI := [tiN,tiN,tiN,tiN,tiN,tiN,tiN,tiN,tF,tF,tiN,⟨.struct [(344,0),(345,1)],2,16,(.agg #[.nilFunc,.nilFunc]),true⟩,⟨.array 4 347,8,64,(.agg #[.nilFunc,.nilFunc,.nilFunc,.nilFunc,.nilFunc,.nilFunc,.nilFunc,.nilFunc]),true⟩,tiN,tiN,tiN]
def sO:List TI := [⟨.other,1,0,(.tuple #[.int .u32 0,.int .u32 0]),true⟩,tiN,tiN,tiN,tiN,tiN,tiN,tiN,tiN,tiN,tiN,tiN,tiN,tiN,tiN,tiN]
def sP:List TI := [tiN,tiN,tiN,tiN,⟨.int .u64,1,8,(.int .u64 0),true⟩,tiN,tiN,tiN,tiN,tiN,tF,tiN,tF,tiN,tiN,tiN]
def sQ:List TI := [tiN,tiN,tiN,tF,tiN,tiN,tiN,tiN,tiN,tiN,tiN,tiN,⟨.slice 66,1,24,(.slice .none 0 0),true⟩,tiN,tiN,tiN]
def sR:List TI := [tiN,tiN,tiN,tiN,⟨.ptr 5,1,8,(.pointer .none),true⟩,tiN,tiN,tiN,⟨.ptr 372,1,8,(.pointer .none),true⟩,⟨.other,1,0,(.tuple #[.int .i64 0,.int .i64 0]),true⟩,tiN,tiN,tiN,tiN,tiN,⟨.map 9 325,1,8,(.map .none),true⟩]
def sT:List TI := [tiN,tiN,tF,tiN,tiN,tiN,⟨.other,1,0,(.tuple #[.int .i32 0,.int .i64 0]),true⟩,tiN,tiN,tiN,tiN,tiN,tiN,tiN,tiN,tiN]
def sU:List TI := [⟨.map 3 3,1,8,(.map .none),true⟩,tiN,tiN,tiN,tiN,tiN,tiN,tiN,tiN,tiN,tiN,tiN,⟨.array 256 5,256,256,(.agg (((List.replicate 64 (.int .u8 0)).append (List.replicate 64 (.int .u8 0))).append ((List.replicate 64 (.int .u8 0)).append (List.replicate 64 (.int .u8 0)))).toArray),true⟩,tiN,⟨.struct [(5,0),(5,1)],2,2,(.agg #[.int .u8 0,.int .u8 0]),true⟩,⟨.array 16 446,32,32,(.agg (Array.replicate 32 (.int .u8 0))),true⟩]
def sV:List TI := [tiN,tiN,tiN,tiN,tiN,tiN,tiN,tiN,tiN,tiN,tiN,tiN,tiN,tiN,⟨.struct [(17,0),(17,1),(17,2),(9,3)],4,40,(.agg #[.pointer .none,.pointer .none,.pointer .none,.string ⟨#[]⟩]),false⟩,tiN]
def sW:List TI := [tiN,⟨.other,0,0,(.agg #[]),false⟩,⟨.int .u8,1,1,(.int .u8 0),true⟩,⟨.int .u8,1,1,(.int .u8 0),true⟩,tF,⟨.int .i32,1,4,(.int .i32 0),true⟩,⟨.int .i32,1,4,(.int .i32 0),true⟩,tiN,⟨.struct [(12,0),(12,1),(299,2),(466,3),(5,4),(5,5),(467,6),(468,7),(404,8),(469,9),(470,10)],11,48,(.agg #[.int .u64 0,.int .u64 0,.int .u32 0,.int .u8 0,.int .u8 0,.int .u8 0,.int .u8 0,.nilFunc,.pointer .none,.int .i32 0,.int .i32 0]),false⟩,⟨.slice 490,1,24,(.slice .none 0 0),true⟩,⟨.slice 492,1,24,(.slice .none 0 0),true⟩,⟨.slice 494,1,24,(.slice .none 0 0),true⟩,⟨.slice 496,1,24,(.slice .none 0 0),true⟩,tiN,⟨.struct [(9,0),(473,1),(474,2),(475,3),(476,4)],5,112,(.agg #[.string ⟨#[]⟩,.slice .none 0 0,.slice .none 0 0,.slice .none 0 0,.slice .none 0 0]),true⟩,tiN]
def sX:List TI := [tiN,tiN,tiN,tiN,⟨.slice 498,1,24,(.slice .none 0 0),true⟩,⟨.slice 488,1,24,(.slice .none 0 0),true⟩,⟨.slice 500,1,24,(.slice .none 0 0),true⟩,tiN,⟨.struct [(3,0),(9,1),(9,2),(485,3),(486,4)],5,88,(.agg #[.int .i64 0,.string ⟨#[]⟩,.string ⟨#[]⟩,.slice .none 0 0,.slice .none 0 0]),true⟩,tiN,⟨.struct [(9,0),(484,1),(488,2),(488,7)],12,216,(.agg #[.string ⟨#[]⟩,.slice .none 0 0,.int .i64 0,.string ⟨#[]⟩,.string ⟨#[]⟩,.slice .none 0 0,.slice .none 0 0,.int .i64 0,.string ⟨#[]⟩,.string ⟨#[]⟩,.slice .none 0 0,.slice .none 0 0]),true⟩,tiN,⟨.struct [(9,0),(484,1),(488,2)],7,128,(.agg #[.string ⟨#[]⟩,.slice .none 0 0,.int .i64 0,.string ⟨#[]⟩,.string ⟨#[]⟩,.slice .none 0 0,.slice .none 0 0]),true⟩,tiN,⟨.struct [(9,0),(9,1),(9,2)],3,48,(.agg #[.string ⟨#[]⟩,.string ⟨#[]⟩,.string ⟨#[]⟩]),true⟩,tiN]
def sY:List TI := [⟨.struct [(9,0),(9,1)],2,32,(.agg #[.string ⟨#[]⟩,.string ⟨#[]⟩]),true⟩,tiN,⟨.struct [(9,0),(3,1),(488,2)],7,112,(.agg #[.string ⟨#[]⟩,.int .i64 0,.int .i64 0,.string ⟨#[]⟩,.string ⟨#[]⟩,.slice .none 0 0,.slice .none 0 0]),true⟩,tiN,⟨.struct [(9,0),(488,1),(4,6)],7,112,(.agg #[.string ⟨#[]⟩,.int .i64 0,.string ⟨#[]⟩,.string ⟨#[]⟩,.slice .none 0 0,.slice .none 0 0,.bool .false]),true⟩]
def tbl:List (List TI) := [ye,yf,yg,yh,yi,yj,yk,ym,yn,yo,sA,sC,sD,sE,sF,sG,sI,sJ,sK,sL,sM,sN,sO,sP,sQ,sR,sT,sU,sV,sW,sX,sY]
def jz:FY := fun t => ic vK (ic [] tbl (t / 16)) (t % 16)
def usedT:List Nat := [0,1,2,3,4,5,6,7,8,9,10,11,12,13,14,15,16,17,18,19,20,21,22,23,24,25,26,27,28,29,30,31,32,33,34,35,36,37,38,39,40,41,42,43,45,53,64,65,66,68,70,71,76,80,92,96,98,99,101,106,109,111,119,121,123,124,125,128,132,144,145,150,153,156,157,158,159,160,161,163,166,180,181,187,189,195,197,199,200,208,210,212,213,214,216,217,219,221,222,223,225,229,240,242,244,249,250,256,257,258,261,276,281,284,294,296,299,308,309,318,325,326,344,345,347,348,352,372,378,380,387,396,404,408,409,415,418,422,432,444,446,447,462,465,466,467,468,469,470,472,473,474,475,476,478,484,485,486,488,490,492,494,496,498,500]
def restT:List Nat := (List.range 512).filter fun t => !usedT.contains t
theorem jb:usedT.map jz = usedT.map (dS Tryz.prog) := by kernel_rfl
theorem tab_rest:restT.map jz = restT.map fun _ => vK := by kernel_rfl
theorem aK{α:Type}(d:α):∀(l:List α) (n:Nat),l.length <= n -> ic d l n = d
 | [],_,_ => rfl
 |_::_,0,h => by simp at h
 |_::r,n + 1,h => aK d r n (by simpa using h)
theorem Bu:BQ Tryz.prog jz := by
 intro t
 by_cases h:t<512
 .by_cases u:t∈usedT
  .exact .inr (List.map_inj_left.1 jb t u)
  .exact .inl (List.map_inj_left.1 tab_rest t (DE.2 ⟨List.mem_range.2 h,by simpa using u⟩))
 .have h1:ic ([]:List TI) tbl (t / 16) = [] := aK _ _ _ (by show 32 <= t / 16;omega)
  have h2:jz t = vK := by unfold jz;rw[h1];rfl
  exact .inl h2
end Go.Eng
namespace Go.Eng
variable {args:List AV}{f:Nat}(vals:List Value)
section
variable {P:Program}
theorem bW {fn : Func}{c : Code}(hf : P.funcs[f]? = some fn)(hn : (fn.name == "runtime.NumGoroutine") = false)(hb : fn.body = some c) : Fb P f := ⟨fn, hf, hn, by simp_all⟩
theorem Ki{res:AV}(v:Value)(hE:Fb P f)(ha:args=vals.map .v)(rR:∀g w,AT g w ES res v)(h:∀w,(∃m,w.cell? ⟨gB,0,none⟩=some (.int .i64 m))->Calls P f vals.toArray w fun e w'=>e=.returned v/\w'=w):KP P f args res:=by
 refine⟨hE,fun g w us hs hv hI=>?_⟩;have hu:us=vals.toArray:=by
  subst ha;rw[A2]at hs;refine Array.ext ch fun i h1 h2=>?_
  have:=hv i (.v (vals[i]' ch)) us[i] (by simp_all) (by simp_all)
  grind [AT.v_eq]
 subst hu;refine(h w hI.glob.1.2).mono ?_
 rintro e w' ⟨rfl,rfl⟩
 grind [AT.up,Le.refl]
theorem iG{g:Gh}{w:World}:∀(vs:List Value),AT g w ES (.tup (vs.map .v)) (.tuple vs.toArray):=fun vs=>
 .tup _ _ _ B0 fun i av x h1 h2=>by
  grind [AT.v]
theorem dw(es:List Value)(T:TypeId)(hE:Fb P f)(ha:args=vals.map .v)(h1:∀x∈es,x.oneCell'=true)(h:∀w,(∃m,w.cell? ⟨gB,0,none⟩=some (.int .i64 m))->Calls P f vals.toArray w fun e w'=>e=.returned (.slice (some ⟨w.heap.size,0,none⟩) es.length es.length)/\w'=w.alloc (.cells es.toArray T)) :
  KP P f args (.slice .none (es.map fun x=>[.v x])):=by
 refine⟨hE,fun g w us hs hv hI=>?_⟩;have hu:us=vals.toArray:=by
  subst ha;rw[A2]at hs;refine Array.ext ch fun i h1 h2=>?_
  have:=hv i (.v (vals[i]' ch)) us[i] (by simp_all) (by simp_all)
  grind [AT.v_eq]
 subst hu;refine(h w hI.glob.1.2).mono ?_
 rintro e w' ⟨rfl,rfl⟩
 have D8:(w.alloc (.cells es.toArray T)).heap[w.heap.size]?=some (.cells es.toArray T (0,0)):=Gs w _ rfl;have YQ:∀b,b<w.heap.size->(w.alloc (.cells es.toArray T)).heap[b]?=w.heap[b]?:=fun b hb=>heap_alloc_old _ _ hb;have hK:En g w ⟨g.ρ,g.ln,g.tk,g.own,g.more w.heap.size es.length⟩ (w.alloc (.cells es.toArray T)):=fun b o hb=>by
  have Ez:=hI.slt b o hb;exact⟨.inl hb,by grind [World.cell?],fun es ck he=>(YQ b Ez).trans he⟩
 refine⟨_,_,Ab,⟨g.ρ,g.ln,g.tk,g.own,g.more w.heap.size es.length⟩,rfl,⟨rfl,rfl⟩,?_,⟨rfl,rfl,rfl,?_,fun b hb _=>YQ b hb,fun b o hs=>?_,fun _=>trivial,fun _ _ _ h=>h.elim,fun _ _ h=>h.elim,fun b o hs=>?_,hI.glob.keep hK⟩,⟨.refl _ _,fun _ h=>h,hK⟩⟩
 .have hr:BR ⟨g.ρ,g.ln,g.tk,g.own,g.more w.heap.size es.length⟩ (w.alloc (.cells es.toArray T)) ES (es.map fun x=>[AV.v x]).flatten (es.toArray.toList.take ((es.map fun x=>[AV.v x]).length*1)):=by
   have hfl:∀l:List Value,(l.map fun x=>[AV.v x]).flatten=l.map .v:=fun l=>by
    induction l<;>simp_all
   rw[hfl];simp only[A2,Nat.mul_one,KD];refine⟨by simp,fun x hx=>h1 x ch,fun i av x q1 q2=>?_⟩
   grind [AT.v]
  have:=AT.slice_row (U:=Aw Ab) (cap:=es.length) (sz:=1) (es:=es.map fun x=>[AV.v x]) D8 (fun cs hcs=>by
   grind) B0 hr (fun o ho=>.inr ⟨rfl,by simp_all⟩)
  simp_all
 .simp_all
 .rw[World.size_alloc];rcases hs with hs | ⟨rfl,_⟩
  .have:=hI.slt b o hs;omega
  .omega
 .rcases hs with hs | ⟨rfl,_⟩<;>simp_all
end
end Go.Eng
namespace Go.Eng
open Go.Sort
section
variable {P:Program}
theorem My(F c:Array Value)(h:F.size<=c.size):(putCells id 0 F c).toList.take F.size=F.toList/\(putCells id 0 F c).size=c.size:=by
 have hs:(putCells id 0 F c).size=c.size:=by simp[putCells]
 refine⟨?_,hs⟩;apply B7
 grind [putCells]
theorem RN(r:Nat)(o o' : HO):Az (Ae [(r,o)] Ab) r o'=Ae [(r,o')] Ab:=by
 grind [AM,Ae,BB,CX,Nat.beq_refl]
theorem OD{f:Nat}{es:List (List AV)}{sz:Nat}{rest:List Value}{Q:List (List AV)->Prop}(hE:Fb P f)
  (h0:es=[]->Q []/\∀w,Calls P f (#[.slice none 0 0]++rest.toArray) w fun e w'=>e=.returned (.tuple #[])/\w'=w)
  (h1:∀(g:Gh) (w:World) (b cap:Nat) (F:Array Value),BR g w ES es.flatten F.toList->F.size=es.length*sz->Holds id w b 0 F->b<w.heap.size->Calls P f (#[.slice (some ⟨b,0,none⟩) es.length cap]++rest.toArray) w fun e w'=>
   e=.returned (.tuple #[])/\∃(F' : Array Value) (EZ : List (List AV)) (n:Nat) (os:Array Obj),F'.size=F.size/\Q EZ/\EZ.length=es.length/\(∀cs∈EZ,cs.length=sz) /\
    (∀(g:Gh) (w:World),BR g w ES es.flatten F.toList->BR g w ES EZ.flatten F'.toList)/\w'=grow (putRow id (Sort.ahead w n) b 0 F') os) :
  AW P f (.msl 1000 es.length::rest.map .v) (Ae [(1000,.arr sz es)] Ab) fun r h'=>r=.tup []/\∃EZ,Q EZ/\h'=Ae [(1000,.arr sz EZ)] Ab:=by
 refine⟨hE,fun g w us hs hv hI=>?_⟩;have ho:=hI.objs 1000;have he:Ae [(1000,HO.arr sz es)] Ab 1000=.arr sz es:=rfl;rw[he]at ho;obtain⟨t1,l1,al,a2⟩:=ho;simp only[Dp,A2]at hs
 -- the arguments
 have xm:0<us.size:=by omega
 have zU:=hv 0 (.msl 1000 es.length) us[0] rfl (Cg xm);have hval:us[0]=g.ρ 1000:=by
  grind [cases AT]
 have Mf:us=#[g.ρ 1000]++rest.toArray:=by
  refine Array.ext (by simp_all) fun i h1 h2=>?_;cases i with
  |zero=>simp_all
  |succ i=>
   have hi:i<rest.length:=by omega
   have:=hv (i+1) (.v rest[i]) us[i+1] (by simp_all) (Cg h1)
   rw[this.v_eq];simp
 rw[Mf];rcases a2 with ⟨b1,b2,b3⟩ | ⟨b,cap,E,vs,b1,b2,b3,b4,b5,b6,b7⟩
 .subst b1;obtain⟨q,h0⟩:=h0 rfl;rw[b2];refine(h0 w).mono ?_
  rintro e w' ⟨rfl,rfl⟩
  grind [AT.tup,Le.refl]
 .have hl:(Ae [(1000,HO.arr sz es)] Ab 1000).live:=trivial;have Ez:=(hI.loc 1000 b hl b2).1;have Il:es.length*sz<=vs.size:=by rw[b5];exact Bq _ b3
  have hF:((vs.toList.take (es.length*sz)).toArray).size=es.length*sz:=by simp_all
  have hH:Holds id w b 0 (vs.toList.take (es.length*sz)).toArray:=fun j hj=>by
   grind [World.cell?,World.frozen?]
  rw[b1];refine(h1 g w b cap _ ch hF hH Ez).mono ?_
  rintro e w' ⟨rfl,F',EZ,n,os,f1,f2,f3,f4,f5,rfl⟩
  have qX : F'.size=es.length*sz:=f1.trans hF;have t6:=My F' vs ch;have oh : (grow (putRow id (Sort.ahead w n) b 0 F') os).heap[b]?=some (.cells (putCells id 0 F' vs) E (0,0)):=by
   rw[heap_grow_old _ _ (by simp_all)];show(w.heap.modify b (onCells (putCells id 0 F')))[b]?=_;rw[Array.getElem?_modify,A1 rfl,b4];rfl
  have rM:∀k,k<w.heap.size->k≠b->(grow (putRow id (Sort.ahead w n) b 0 F') os).heap[k]?=w.heap[k]?:=fun k hk DT=>by
   rw[heap_grow_old _ _ (by simp_all)];simp[putRow,mapBlock,Array.getElem?_modify,Ne.symm DT]
  have Fi:w.heap.size<=(grow (putRow id (Sort.ahead w n) b 0 F') os).heap.size:=by simp_all
  obtain⟨k1,k2⟩:=hI.upd 1000 (.arr sz EZ) (g.ρ 1000) (g.ln 1000) (g.tk 1000) (g.own 1000) g.S (grow (putRow id (Sort.ahead w n) b 0 F') os) (some b) ⟨rfl,rfl,rfl,Fi⟩
   (fun k hk DT=>rM k hk (fun e=>DT (by rw[e]))) (fun b' e=>by cases e;exact⟨hl,b2⟩) (fun _ _ h=>h) (fun _ _ h=>.inl h) (fun b' o e hs=>by cases e;exact absurd hs (b7 o))
   (fun b' _ e=>by rw[b2]at e;cases e;exact⟨AR Ez Fi,.inl ⟨hl,b2⟩⟩) B0 (fun _=>⟨rfl,Ai _,fun _=>rfl,fun _=>rfl⟩) (fun hg hk=>by
    refine⟨by simp[Gh.upd,t1],by simp[Gh.upd,l1,f3],f4,.inr ⟨b,cap,E,_,by simp[Gh.upd,b1,f3],by simp[Gh.upd,b2],by omega,oh,by rw[t6.2,b5],?_,b7⟩⟩
    have:=f5 g w (by simpa using b6)
    rw[f3,<-qX,t6.1];exact this.mono hk (fun _ h=>h) (fun _ h=>h.elim))
  rw[RN]at k1 k2;exact⟨_,.tup [],_,_,rfl,⟨rfl,EZ,f2,rfl⟩,.tup _ _ _ rfl (fun i av x h=>by simp at h),k1,k2⟩
end
end Go.Eng
namespace Go.Eng
open Go.Sort Go.Proofs
variable {α β:Type}{k:Nat}
theorem P0{g:Gh}{w:World}{U:Nat->Prop}{cs ZT : List AV}{vs d8 : List Value}(h:vs.length=cs.length):BR g w U (cs++ZT) (vs++d8)↔BR g w U cs vs/\BR g w U ZT d8:=by
 constructor
 .intro⟨h1,h2,h3⟩;refine⟨⟨h,fun x hx=>h2 x (Bj _ hx),fun i av x q1 q2=>?_⟩,⟨by simp_all,fun x hx=>h2 x (BP _ hx),fun i av x q1 q2=>?_⟩⟩
  .have a1:=(AZ.1 q1).1;have a2:=(AZ.1 q2).1;exact h3 i av x (by grind) (by grind)
  .exact h3 (cs.length+i) av x (by grind) (by grind)
 .intro⟨⟨h1,h2,h3⟩,k1,k2,k3⟩;refine⟨by simp_all,fun x hx=>(Bc.1 hx).elim (h2 x) (k2 x),fun i av x q1 q2=>?_⟩
  grind
theorem Pk{α β:Type}{g:Gh}{w:World}{U:Nat->Prop}{If:β->List AV}{enc:α->List Value}(hl:∀x y,(enc x).length=(If y).length):∀ps:List (β×α),
  BR g w U (ps.map fun p=>If p.1).flatten (ps.map fun p=>enc p.2).flatten↔∀p∈ps,BR g w U (If p.1) (enc p.2)
 | []=>by simp[BR]
 |p::ps=>by
  simp only[Bb,BW];rw[P0 (hl _ _),Pk hl ps];simp
theorem Lv{f:α->β}:∀{m m' : List β},m.Perm m'->∀ps:List α,ps.map f=m->∃iD : List α,iD.Perm ps/\iD.map f=m':=by
 intro m m' h
 induction h with
 |nil=>simp_all
 |cons x h ih=>
  intro ps e;cases ps with
  |nil=>cases e
  |cons p ps=>
   rw[Bb]at e
   injection e with e1 e2
   obtain⟨iD,h1,h2⟩:=ih ps e2;exact⟨p::iD,h1.cons p,by simp_all⟩
 |swap x y l=>
  intro ps e
  match ps,e with
  |p::q::ps,e=>
   grind [List.Perm.swap]
 |trans h1 h2 ih1 ih2=>
  grind [List.Perm.trans]
theorem Rz[Inhabited α]{enc:α->List Value}(hk:∀x,(enc x).length=k)(d:Array α):(flatK enc k d).toList=(d.toList.map enc).flatten:=by
 have hl:∀cs∈d.toList.map enc,cs.length=k:=fun cs hcs=>by
  grind
 have B5:(d.toList.map enc).flatten.length=d.size*k:=by
  have:∀l:List α,(l.map enc).flatten.length=l.length*k:=fun l=>by
   induction l<;>grind [Nat.succ_mul]
  simp_all
 apply B7;intro t
 by_cases ht:t<d.size*k
 .have k0:0<k:=Nat.pos_of_ne_zero fun h=>by simp_all
  have h1:t / k<d.size:=by rw[Nat.div_lt_iff_lt_mul k0];exact ht
  have h2:t % k<k:=Nat.mod_lt _ k0;have e:t=t / k*k+t % k:=by grind [Nat.div_add_mod]
  rw[CV,Cg (by simpa using ht),<-Jw _ t (by simpa using ht),get_flatK _ _ _ _ ht]
  grind [EJ]
 simp_all
theorem zip_fst{α β:Type}:∀{l:List α} {m:List β},l.length=m.length->(l.zip m).map (·.1)=l/\(l.zip m).map (·.2)=m
 | [],[],_=>⟨rfl,rfl⟩
 |a::l,b::m,h=>by
  have:=zip_fst (l:=l) (m:=m) (by simp_all)
  simp_all
section
variable {P:Program}
theorem It[Inhabited α]{f:Nat}{rest:List Value}(hE:Fb P f)(If:β->List AV)(enc:α->List Value)(hB:∀x,(If x).length=k)(hk:∀x,(enc x).length=k)(lt:α->α->Bool)(R:β->α->Prop)(l:List β)(hl:l.length<4611686018427387904)(hR:∀x∈l,∀(g:Gh) (w:World) (vs:List Value),BR g w ES (If x) vs->∃a,enc a=vs/\R x a)(BX:∀(w:World) (b cap:Nat) (d:Array α),HoldsK enc k w b 0 d->b<w.heap.size->d.size<4611686018427387904->d.size=l.length->Calls P f (#[.slice (some ⟨b,0,none⟩) d.size cap]++rest.toArray) w fun e w'=>
   e=.returned (.tuple #[])/\∃d' n os,PermIn 0 d.size d d'/\SortedIn lt 0 d.size d'/\w'=sortWorldK enc k w b 0 n d' os)(zK:l=[]->∀w:World,Calls P f (#[.slice none 0 0]++rest.toArray) w fun e w'=>e=.returned (.tuple #[])/\w'=w) :
  AW P f (.msl 1000 l.length::rest.map .v) (Ae [(1000,.arr k (l.map If))] Ab) fun r h'=>
   r=.tup []/\∃l' : List β,l'.Perm l/\(∃al:List α,al.length=l'.length/\(∀(i:Nat) (x:β) (a:α),l'[i]?=some x->al[i]?=some a->R x a)/\al.Pairwise (fun x y=>lt y x=false))/\h'=Ae [(1000,.arr k (l'.map If))] Ab:=by
 have G7:=OD (P:=P) (f:=f) (es:=l.map If) (sz:=k) (rest:=rest)
  (Q:=fun EZ=>∃l' : List β,l'.Perm l/\(∃al:List α,al.length=l'.length/\(∀(i:Nat) (x:β) (a:α),l'[i]?=some x->al[i]?=some a->R x a)/\al.Pairwise (fun x y=>lt y x=false))/\EZ=l'.map If) hE ?_ ?_
 .grind
 .simp_all
 .intro g w b cap F hr hF hH hb
  -- the elements in memory
  have oJ:∀(m:List β) (vs:List Value),(∀x∈m,x∈l)->BR g w ES (m.map If).flatten vs->∃al:List α,al.length=m.length/\vs=(al.map enc).flatten/\∀(i:Nat) (x:β) (a:α),m[i]?=some x->al[i]?=some a->R x a:=by
   intro m
   induction m with
   |nil=>
    intro vs _ h
    have:vs=[]:=AI (by simpa using h.1)
    simp_all
   |cons x m ih=>
    intro vs hm h;rw[Bb,BW]at h;have B5:=h.1;rw[Au,hB]at B5;have e:vs=vs.take k++vs.drop k:=(List.take_append_drop k vs).symm;rw[e]at h;rw[P0 (by grind)]at h;obtain⟨a,a1,a2⟩:=hR x (hm x (Ad ..)) g w _ h.1;obtain⟨al,b1,b2,b3⟩:=ih _ (fun y hy=>hm y (Af _ hy)) h.2;refine⟨a::al,by grind,by grind,fun i y c q1 q2=>?_⟩
    grind
  obtain⟨al,s1,s2,s3⟩:=oJ l F.toList (fun _ h=>h) hr;have hFd:F=flatK enc k al.toArray:=QM.1 (by grind [Rz]);have hd:HoldsK enc k w b 0 al.toArray:=by grind [HoldsK]
  have hc:=BX w b cap al.toArray hd hb (by simp_all) ch;have Fi:al.toArray.size=(l.map If).length:=by simp_all
  rw[Fi]at hc;refine hc.mono ?_
  rintro e w' ⟨rfl,d',n,os,p1,p2,rfl⟩
  obtain⟨z1,z2⟩:=zip_fst s1.symm;obtain⟨xi,_,H7⟩:=p1;have xi : d'.size=al.length:=by omega
  have e1:d'.extract 0 (l.map If).length=d':=by simp_all
  have e2:al.toArray.extract 0 (l.map If).length=al.toArray:=by grind
  rw[e1,e2]at H7;have H7:al.Perm d'.toList:=by
   first
   |exact H7.symm
   |exact H7
   |(have:=H7.symm;simpa using this)
  obtain⟨iD,r1,r2⟩:=Lv H7 (l.zip al) z2;have rel:∀p∈l.zip al,R p.1 p.2:=fun p hp=>by
   obtain⟨i,hi⟩:=DA.1 hp;rw[List.getElem?_zip_eq_some]at hi
   grind
  refine⟨rfl,flatK enc k d',(iD.map (·.1)).map If,n,os,by simp_all,⟨iD.map (·.1),?_,⟨d'.toList,by grind,fun i x a q1 q2=>?_,?_⟩,rfl⟩,by have:=r1.length_eq;simp_all,fun cs hcs=>?_,fun g w hr=>?_,?_⟩
  .grind
  .rw[<-r2]at q2;rw[BC,B4]at q1 q2;obtain⟨p,q1,rfl⟩:=q1
   grind
  .rw[B1];intro i j hi hj X3;have Ng : i<d'.size:=by omega
   have tT : j<d'.size:=by omega
   have:=p2 i j (Ar _) X3 ch
   simp_all
  .obtain⟨x,_,rfl⟩:=Ak.1 hcs;simp_all
  .have h1:BR g w ES ((l.zip al).map fun p=>If p.1).flatten ((l.zip al).map fun p=>enc p.2).flatten:=by
    have a1:(l.zip al).map (fun p=>If p.1)=l.map If:=by
     have:(l.zip al).map (fun p=>If p.1)=((l.zip al).map (·.1)).map If:=by rw[Bx];rfl
     simp_all
    have a2:(l.zip al).map (fun p=>enc p.2)=al.map enc:=by
     have:(l.zip al).map (fun p=>enc p.2)=((l.zip al).map (·.2)).map enc:=by rw[Bx];rfl
     simp_all
    simp_all
   have B5:∀(x:α) (y:β),(enc x).length=(If y).length:=fun x y=>by simp_all
   rw[Pk B5]at h1;have h2:=(Pk (g:=g) (w:=w) (U:=ES) B5 iD).2 fun p hp=>h1 p (r1.mem_iff.1 hp);have b1:(iD.map (·.1)).map If=iD.map fun p=>If p.1:=by simp_all
   have b2:(flatK enc k d').toList=(iD.map fun p=>enc p.2).flatten:=by
    rw[Rz hk,<-r2,Bx];rfl
   grind
  .rfl
end
end Go.Eng
