/- Lemmas 12. -/
import Derived.Test.YtkjhcikodmiceaaGreatDoorVA11
import Derived.ReadAgain
import Derived.RowKit
import Derived.Test.YtkjhcikodmiceaaGreatDoorProg
import Derived.Sort.Grow
import Derived.Shelf.GgSortFunc.InsertionK
namespace Go.Eng
variable {fn:Func}{c:Code}{K:AV->Prop}{f:Nat}(cx:Cx)(r:AV)(σ:Jj)
section
variable {P:Program}{N:Nat}{ds:List Deferred}{w0:World}{g0:Gh}{h0:Nat->HO}{st:St}{g:Gh}{a:Act}{w:World}
theorem aw{T:GW}(hT:B8 P T){h:Nat->HO}(ho:∀r,DV g w (AC h) r (h r)){t:Nat}{p:AV}{vp:Value}(hp:Bc g w (AC h) p vp)(hk:JN T h t p K) :
  ∃ad,(asAddr vp).run P w=.ok ad w/\Bu P h g w (loadVar t ad) K:=by
 obtain⟨x,av,h1,h2,h3⟩:=WO ho hT hp hk;have fin:∀b off,vp=.pointer (some ⟨b,off,none⟩)->∃ad,(asAddr vp).run P w=.ok ad w/\Bu P h g w (loadVar t ad) K:=by
  rintro b off rfl
  refine⟨⟨b,off,none⟩,by simp[asAddr],x,av,?_,h2,h3⟩
  grind [Instr.loadAt,Instr.sureAddr]
 unfold JN at hk;split at hk
 all_goals grind [cases Bc]
def dF(tmps:Array Value):ResultVar->Sem Value
 |.tmp t=>pure (tmps.getD t undef)
 |.cell ad t=>do loadVar t (<-asAddr (tmps.getD ad undef))
theorem OL(fn:Func)(tmps:Array Value):results fn tmps=(do
 let vs <-fn.results.mapM (dF tmps)
 pure (if h:vs.size=1 then vs[0]else .tuple vs)):=rfl
theorem Yl{cx:Cx}(hT:B8 P cx.T)(hS:SR N ds w0 g0 h0 st g a w):∀(rs:List ResultVar) {K:List AV->Prop},rd cx.T st rs K ->
  ∃l vs,K l/\(rs.mapM (dF a.tmps)).run P w=.ok vs w/\vs.length=l.length/\vs.length=rs.length /\
   ∀(i:Nat) (av:AV) (x:Value),l[i]?=some av->vs[i]?=some x->Bc g w FN av x
 | [],K,hk=>⟨[],[],hk,by simp,rfl,rfl,fun i av x h=>by simp_all⟩
 |.tmp t::r,K,hk=>by
  obtain⟨l,vs,h1,h2,h3,h4,h5⟩:=Yl hT hS r hk;refine⟨_,a.tmps.getD t undef::vs,h1,?_,by simp_all,by simp_all,fun i av x q1 q2=>?_⟩
  .grind [dF,Sem.run_bind,Sem.run_pure,Result.andThen_ok]
  .cases i with
   |zero=>
    simp only[Ev,CV]at q1 q2;subst q1;subst q2;exact Bc.str hS.inv.objs (hS.slots t)
   |succ i=>grind
 |.cell ad t::r,K,hk=>by
  obtain⟨addr,e1,x0,av0,e2,hk',e4⟩:=aw hT hS.inv.objs (hS.slots ad) hk;obtain⟨l,vs,h1,h2,h3,h4,h5⟩:=Yl hT hS r hk';refine⟨_,x0::vs,h1,?_,by simp_all,by simp_all,fun i av x q1 q2=>?_⟩
  .grind [dF,Sem.run_bind,Sem.run_pure,Result.andThen_ok]
  .cases i with
   |zero=>
    simp only[Ev,CV]at q1 q2;subst q1;subst q2;exact Bc.str hS.inv.objs e4
   |succ i=>grind
theorem rc{cx:Cx}(hT:B8 P cx.T)(hS:SR N ds w0 g0 h0 st g a w)(hk:rb cx st fn.results.toList K) :
  ∃g' r v h',K r/\(results fn a.tmps).run P w=.ok v w/\CT w0 g0 h0 h' g' w/\Le h0 g0 w0 h' g' w/\Bc g' w FN r v:=by
 obtain⟨g',i1,i2⟩:=Nh cx.pl.fin hS.inv;have T4 : SR N ds w0 g0 h0 ⟨st.t,PF st.h cx.pl.fin⟩ g' a w:=⟨i1,hS.le.trans i2,hS.dfs,hS.size,fun i=>(hS.slots i).le i2⟩;obtain⟨l,vs,h1,h2,h3,h4,h5⟩:=Yl hT T4 _ hk;have CE:(results fn a.tmps).run P w=.ok (if h:vs.toArray.size=1 then vs.toArray[0]else .tuple vs.toArray) w:=by
  rw[OL,show fn.results=fn.results.toList.toArray by simp,List.mapM_toArray];simp_all
 refine⟨g',?_⟩
 match l,vs,h1,h3,h5,CE with
 | [v],[x],h1,h3,h5,CE=>exact⟨v,x,_,h1,by simp_all,i1,T4.le,h5 0 v x rfl rfl⟩
 | [],vs,h1,h3,h5,CE=>
  have:vs=[]:=Ay h3
  subst this;exact⟨.tup [],.tuple #[],_,h1,by simp_all,i1,T4.le,.tup _ _ _ rfl fun i av x q=>by simp_all⟩
 |v::v' :: l,vs,h1,h3,h5,CE=>
  refine⟨.tup (v::v' :: l),.tuple vs.toArray,_,h1,?_,i1,T4.le,.tup _ _ _ Wk fun i av x q1 q2=>h5 i av x q1 (by simp_all)⟩;simp_all
theorem CT.toFree(hI:CT w0 g0 Af st.h g w):CT w0 g0 Af Af g w:=
 ⟨hI.os,hI.tape,hI.output,hI.size,hI.frame,hI.slt,fun _=>trivial,fun _ _ _ h=>h.elim,fun _ _ h=>h.elim,hI.sg,hI.glob⟩
theorem Pu{U:Nat->Prop}{n:Nat}:∀{args:List AV} {vals:List Value},vals.length=args.length->(∀(i:Nat) (av:AV) (x:Value),args[i]?=some av->vals[i]?=some x->Bc g w U av x) ->
  ∀i,Bc g w U (Pt args i) ((vals++List.replicate n undef).getD i undef)
 | [],[],_,_,i=>by
  have:(([]:List Value)++List.replicate n undef).getD i undef=undef:=by
   grind
  rw[this];exact .v _ _
 | [],_::_,h,_,_=>by simp_all
 |_::_,[],h,_,_=>by simp_all
 |x::l,v::vs,h,hr,i=>by
  cases i with
  |zero=>exact hr 0 x v rfl rfl
  |succ i=>
   have:=Pu (n:=n) (args:=l) (vals:=vs) (by simp_all) (fun i av x q1 q2=>hr (i+1) av x (by simp_all) (by simp_all)) i
   grind [Pt]
theorem kq {f : Nat}{args : List AV}{Q : AV -> Prop}(hP : cx.P = P)(hT : B8 P cx.T)(hm : P.follows .mixedOrders = true)(hx : cx.ext = false)(hf : P.funcs[f]? = some fn)(hn : (fn.name == "runtime.NumGoroutine") = false)(hb:fn.body=some c)(hN:args.length<=fn.ntmps)(hc:EA fn.ntmps c=true)(hk:QD cx c (ud cx fn.results.toList Q) ⟨Pt args,Af⟩)(hY:∀l σ g w,cx.yp l σ g w:=by exact fun _ _ _ _=>trivial):Bg P f args Af fun r h'=>h'=Af/\Q r:=by
 refine⟨⟨fn,hf,hn,by simp_all⟩,fun g w vals hs hv hI=>calls_of_wp hf hb ?_⟩;have hU:AC Af=FN:=by grind [AC,FN,Af]
 have hS:SR fn.ntmps [] w g Af ⟨Pt args,Af⟩ g { tmps:=vals++Array.replicate (fn.ntmps-vals.size) undef,defers:=[] } w:=by
  refine⟨hI,.refl _ _ _,rfl,by simp_all,fun i=>?_⟩
  have:=Pu (n:=fn.ntmps-vals.size) (args:=args) (vals:=vals.toList) Wk (fun i av x q1 q2=>hv i av x q1 (by simp_all)) i
  grind [Array.getD_eq_getD_getElem?,Array.toList_append,Array.toList_replicate]
 refine wpIn_wide.1 (Oc hP hT hm (by unfold LR;rw[hx];exact fun _=>rfl) (fun l σ _ _ w _ _ _=>hY l σ _ w) none c hc (fun e st g' a w' hk hS=>?_) hS hk);have out:rb cx st fn.results.toList Q->a.defers=[]/\∃v,(results fn a.tmps).run P w'=.ok v w'/\∃v' r h' g',(Ending.returned v:Ending)=.returned v'/\(h'=Af/\Q r)/\Bc g' w' (AC h') r v'/\CT w g Af h' g' w'/\Le Af g w h' g' w':=by
  intro hk;obtain⟨g2,r,v,h',q1,q2,q3,q4,q5⟩:=rc hT hS hk;exact⟨hS.dfs,v,q2,v,r,Af,g2,rfl,⟨rfl,q1⟩,by simp_all,CT.toFree (st:=⟨st.t,h'⟩) q3,⟨fun i hi=>absurd rfl hi,fun i hi=>absurd rfl hi,q4.keeps⟩⟩
 cases e with
 |normal=>exact out hk
 |ret=>exact out hk
 |exit id=>exact hk.elim
theorem SY{cx:Cx}(hT:B8 P cx.T)(hS:SR N ds w0 g0 h0 st g a w):∀(rs:List ResultVar) {K:List AV->Prop},re cx.T st rs K ->
  ∃l vs,K l/\(rs.mapM (dF a.tmps)).run P w=.ok vs w/\vs.length=l.length/\vs.length=rs.length /\
   ∀(i:Nat) (av:AV) (x:Value),l[i]?=some av->vs[i]?=some x->Bc g w (AC st.h) av x
 | [],K,hk=>⟨[],[],hk,by simp,rfl,rfl,fun i av x h=>by simp_all⟩
 |.tmp t::r,K,hk=>by
  obtain⟨l,vs,h1,h2,h3,h4,h5⟩:=SY hT hS r hk;refine⟨_,a.tmps.getD t undef::vs,h1,?_,by simp_all,by simp_all,fun i av x q1 q2=>?_⟩
  all_goals grind [dF,Sem.run_bind,Sem.run_pure,Result.andThen_ok,SR.slots]
 |.cell ad t::r,K,hk=>by
  obtain⟨addr,e1,x0,av0,e2,hk',e4⟩:=aw hT hS.inv.objs (hS.slots ad) hk;obtain⟨l,vs,h1,h2,h3,h4,h5⟩:=SY hT hS r hk';refine⟨_,x0::vs,h1,?_,by simp_all,by simp_all,fun i av x q1 q2=>?_⟩
  all_goals grind [dF,Sem.run_bind,Sem.run_pure,Result.andThen_ok]
theorem GO{σ:Jj}:∀{H0:List (Nat×HO)},IK σ H0=true->∀i,Ai H0 Af i≠.free->1000<=i/\i<2000/\Cq σ i=some i
 | [],_,i,h=>absurd rfl h
 |(a,o)::r,hx,i,h=>by
  simp only[IK,Ak,ER,Dt]at hx;obtain⟨⟨⟨h1,h2⟩,h3⟩,h4⟩:=hx
  by_cases e:i=a
  .grind [Nat.eq_of_beq_eq_true]
  .unfold Ai at h;simp only[DH e,GX]at h;exact GO h4 i h
theorem Pv{H0:List (Nat×HO)}{σ:Jj}(hσ:Hc σ=true)(hx:IK σ H0=true){h:Nat->HO}(hI:CT w0 g0 (Ai H0 Af) h g w)(hL:Le (Ai H0 Af) g0 w0 h g w) :
  F9 (Cq σ) h (FJ σ h) g (DT σ g) w/\CT w0 g0 (Ai H0 Af) (FJ σ h) (DT σ g) w/\Le (Ai H0 Af) g0 w0 (FJ σ h) (DT σ g) w:=by
 have inv:=Ya hσ;have F3:∀j,FJ σ h j=match Ik σ j with | some i=>(h i).ren (Cq σ) h | none=>.free:=Qm _ _ σ
 have hR:F9 (Cq σ) h (FJ σ h) g (DT σ g) w:=by
  refine⟨fun r r' hr hu=>?_,fun b o=>Iff.rfl,hI.objs⟩
  grind [DT,AC,MV]
 have MD:∀j,(FJ σ h j).live->∃i,Ik σ j=some i/\(h i).live:=fun j hl=>by
  rw[F3]at hl;cases e:Ik σ j with
  |none=>rw[e]at hl;exact hl.elim
  |some i=>grind [MU]
 have X6:∀j i,Ik σ j=some i->(DT σ g).own j=g.own i:=fun j i e=>by simp[DT,e]
 refine⟨hR,⟨hI.os,hI.tape,hI.output,hI.size,hI.frame,hI.slt,fun j=>?_,fun j j' b hl Sv e e'=>?_,fun j b hl e=>?_,hI.sg,hI.glob⟩,⟨fun i hi=>?_,fun i hi=>?_,hL.keeps⟩⟩
 .rw[F3];cases e:Ik σ j with
  |none=>trivial
  |some i=>
   by_cases hu:AC h i
   .grind [DV.ren,CT.objs]
   .have:h i=.free:=B2.1 hu
    dsimp only;rw[this];trivial
 .obtain⟨i,e1,l1⟩:=MD j hl;obtain⟨i',e2,l2⟩:=MD j' Sv;rw[X6 j i e1]at e;rw[X6 j' i' e2]at e';obtain rfl:=hI.inj i i' b l1 l2 e e'
  have:=(inv i j).2 e1
  rw[(inv i j').2 e2]at this;simp_all
 .obtain⟨i,e1,l1⟩:=MD j hl;rw[X6 j i e1]at e;exact hI.loc i b l1 e
 .obtain⟨_,_,hf⟩:=GO hx i hi;have hb:=(inv i i).1 hf;have e1:(DT σ g).ρ i=g.ρ i/\(DT σ g).ln i=g.ln i/\(DT σ g).tk i=g.tk i:=by grind [DT]
  obtain⟨k1,k2,k3,k4⟩:=hL.gh i hi<;>simp_all
 .obtain⟨_,_,hf⟩:=GO hx i hi;have hb:=(inv i i).1 hf;unfold AC;rw[F3,hb];exact(MV _ _ _).2 (hL.us i hi)
theorem ZG{f:Nat}{args:List AV}{H0:List (Nat×HO)}{Q:AV->(Nat->HO)->Prop}(hP:cx.P=P)(hT:B8 P cx.T)(hm:P.follows .mixedOrders=true)(hx:cx.ext=true)(hf:P.funcs[f]?=some fn)(_hn : (fn.name == "runtime.NumGoroutine") = false)(hb : fn.body = some c)(hN : args.length <= fn.ntmps)(hc : EA fn.ntmps c = true)(hσ : (Hc σ && IK σ H0) = true)(hk:QD cx c (Zo cx fn.results.toList σ Q) ⟨Pt args,Ai H0 Af⟩){g:Gh}{w:World}{vals:Array Value}(hs:vals.size=args.length)(hv:∀(i:Nat) (av:AV) (x:Value),args[i]?=some av->vals[i]?=some x->Bc g w (AC (Ai H0 Af)) av x)(hI:CT w g (Ai H0 Af) (Ai H0 Af) g w)(hY:∀l σ h' g' w',Er σ=true->CT w g (Ai H0 Af) h' g' w'->Le (Ai H0 Af) g w h' g' w'->cx.yp l σ (DT σ g') w') :
  Calls P f vals w fun e w'=>∃v r h' g',e=.returned v/\Q r h'/\Bc g' w' (AC h') r v/\CT w g (Ai H0 Af) h' g' w'/\Le (Ai H0 Af) g w h' g' w':=by
 simp only[Ak]at hσ;obtain⟨hσ,uO⟩:=hσ;refine calls_of_wp hf hb ?_;have hS:SR fn.ntmps [] w g (Ai H0 Af) ⟨Pt args,Ai H0 Af⟩ g { tmps:=vals++Array.replicate (fn.ntmps-vals.size) undef,defers:=[] } w:=by
  refine⟨hI,.refl _ _ _,rfl,by simp_all,fun i=>?_⟩
  have:=Pu (n:=fn.ntmps-vals.size) (args:=args) (vals:=vals.toList) Wk (fun i av x q1 q2=>hv i av x q1 (by simp_all)) i
  grind [Array.getD_eq_getD_getElem?,Array.toList_append,Array.toList_replicate]
 refine wpIn_wide.1 (Oc hP hT hm (by unfold LR;rw[hx];exact fun i hi=>⟨(GO uO i hi).1,(GO uO i hi).2.1⟩) hY none c hc (fun e st g' a w' hk hS=>?_) hS hk);have out:jv cx st fn.results.toList σ Q->a.defers=[]/\∃v,(results fn a.tmps).run P w'=.ok v w'/\∃v' r h' g',(Ending.returned v:Ending)=.returned v'/\Q r h'/\Bc g' w' (AC h') r v'/\CT w g (Ai H0 Af) h' g' w'/\Le (Ai H0 Af) g w h' g' w':=by
  intro hk;obtain⟨g2,i1,i2⟩:=Nh cx.pl.fin hS.inv;have T4 : SR fn.ntmps [] w g (Ai H0 Af) ⟨st.t,PF st.h cx.pl.fin⟩ g2 a w':=⟨i1,hS.le.trans i2,hS.dfs,hS.size,fun i=>(hS.slots i).le i2⟩;obtain⟨l,vs,h1,h2,h3,h4,h5⟩:=SY hT T4 _ hk;obtain⟨hR,j1,j2⟩:=Pv hσ uO i1 T4.le;have CE:(results fn a.tmps).run P w'=.ok (if h:vs.toArray.size=1 then vs.toArray[0]else .tuple vs.toArray) w':=by
   rw[OL,show fn.results=fn.results.toList.toArray by simp,List.mapM_toArray];simp_all
  refine⟨hS.dfs,?_⟩
  match l,vs,h1,h3,h5,CE with
  | [v],[x],h1,h3,h5,CE=>exact⟨x,by simp_all,x,_,_,_,rfl,h1,(h5 0 v x rfl rfl).ren hR,j1,j2⟩
  | [],vs,h1,h3,h5,CE=>
   have:vs=[]:=Ay h3
   subst this;exact⟨.tuple #[],by simp_all,.tuple #[],_,_,_,rfl,h1,Bc.ren hR (.tup _ [] _ rfl fun i av x q=>by simp_all),j1,j2⟩
  |v::v' :: l,vs,h1,h3,h5,CE=>
   refine⟨.tuple vs.toArray,?_,.tuple vs.toArray,_,_,_,rfl,h1,Bc.ren hR (.tup _ _ _ Wk fun i av x q1 q2=>h5 i av x q1 (by simp_all)),j1,j2⟩;simp_all
 cases e with
 |normal=>exact out hk
 |ret=>exact out hk
 |exit id=>exact hk.elim
theorem lI{f:Nat}{args:List AV}{H0:List (Nat×HO)}{Q:AV->(Nat->HO)->Prop}(hP:cx.P=P)(hT:B8 P cx.T)(hm:P.follows .mixedOrders=true)(hx:cx.ext=true)(hf:P.funcs[f]?=some fn)(hn : (fn.name == "runtime.NumGoroutine") = false)(hb : fn.body = some c)(hN : args.length <= fn.ntmps)(hc : EA fn.ntmps c = true)(hσ : (Hc σ && IK σ H0) = true)(hk:QD cx c (Zo cx fn.results.toList σ Q) ⟨Pt args,Ai H0 Af⟩)(hY:∀l σ g w,cx.yp l σ g w:=by exact fun _ _ _ _=>trivial):Bg P f args (Ai H0 Af) Q:=
 ⟨⟨fn,hf,hn,by simp_all⟩,fun g w vals hs hv hI=>ZG cx σ hP hT hm hx hf hn hb hN hc hσ hk hs hv hI (fun l σ _ _ w _ _ _=>hY l σ _ w)⟩
end
def Cj(r':AV):Prop:=∀(g:Gh) (w:World) (U:Nat->Prop) (x:Value),Bc g w U r x->Bc g w U r' x
theorem Cj.refl:Cj r r:=fun _ _ _ _ h=>h
theorem Cj.of_eq{r r' : AV}(h:r=r'):Cj r r':=h▸.refl r
theorem Cj.trans{a b c:AV}(h:Cj a b)(k:Cj b c):Cj a c:=fun g w U x r=>k g w U x (h g w U x r)
theorem Cj.nil:Cj nzA (.slice .none []):=fun _ _ _ _ h=>by cases h;grind [Bc.snil]
def Ma:List AV->List AV->Prop
 | [],[]=>True
 |a::r,b::s=>Cj a b/\Ma r s
 |_,_=>False
theorem Ma.refl:∀l:List AV,Ma l l
 | []=>trivial
 |a::l=>⟨.refl a,Ma.refl l⟩
theorem Ma.len:∀{l l' : List AV},Ma l l'->l'.length=l.length
 | [],[],_=>rfl
 |_::_,_::_,h=>Aa (·+1) h.2.len
 | [],_::_,h=>h.elim
 |_::_,[],h=>h.elim
theorem Ma.get:∀{l l' : List AV},Ma l l'->∀(i:Nat) (b:AV),l'[i]?=some b->∃a,l[i]?=some a/\Cj a b
 | [],[],_,i,b,h=>by simp_all
 |a::r,b::s,hs,i,c,h=>by
  cases i with
  |zero=>simp only[Ev,CV]at h;subst h;exact⟨a,rfl,hs.1⟩
  |succ i=>exact Ma.get hs.2 i c (by simpa using h)
 | [],_::_,h,_,_,_=>h.elim
 |_::_,[],h,_,_,_=>h.elim
theorem Cj.tup{l l' : List AV}(h:Ma l l'):Cj (.tup l) (.tup l'):=fun g w U x r=>by
 cases r with
 |tup _ _ vs hs hr=>
  refine .tup _ _ vs (by rw[hs,h.len]) fun i av x q1 q2=>?_;obtain⟨a,e1,e2⟩:=h.get i av q1;exact e2 _ _ _ _ (hr i a x e1 q2)
theorem Cj.agg{l l' : List AV}(h:Ma l l'):Cj (.agg l) (.agg l'):=fun g w U x r=>by
 cases r with
 |agg _ _ vs hs h1 hr=>
  refine .agg _ _ vs (by rw[hs,h.len]) h1 fun i av x q1 q2=>?_;obtain⟨a,e1,e2⟩:=h.get i av q1;exact e2 _ _ _ _ (hr i a x e1 q2)
def Xp:C0->C0->Prop
 | [],[]=>True
 |a::r,b::s=>Ma a b/\Xp r s
 |_,_=>False
theorem Xp.len:∀{l l' : C0},Xp l l'->l'.length=l.length
 | [],[],_=>rfl
 |_::_,_::_,h=>Aa (·+1) h.2.len
 | [],_::_,h=>h.elim
 |_::_,[],h=>h.elim
theorem Xp.get:∀{l l' : C0},Xp l l'->∀(i:Nat) (b:List AV),l'[i]?=some b->∃a,l[i]?=some a/\Ma a b
 | [],[],_,i,b,h=>by simp_all
 |a::r,b::s,hs,i,c,h=>by
  cases i with
  |zero=>simp only[Ev,CV]at h;subst h;exact⟨a,rfl,hs.1⟩
  |succ i=>exact Xp.get hs.2 i c (by simpa using h)
 | [],_::_,h,_,_,_=>h.elim
 |_::_,[],h,_,_,_=>h.elim
theorem Cj.slice{l l' : C0}(h:Xp l l'):Cj (.slice .none l) (.slice .none l'):=fun g w U x r=>by
 have CL:=h.len;cases r with
 |snil _ a cap=>
  grind [Bc.snil]
 |slice _ _ b off sz cap val hc hl DK El=>
  rw[<-CL];refine .slice _ _ b off sz cap val Wk (fun i cs hi=>?_) (fun i cs j av hi hj=>?_) (fun i cs j av hi hj=>?_)
  .grind [Xp.get,Ma.len]
  .grind [Xp.get,Ma.get]
  .obtain⟨a,e1,e2⟩:=h.get i cs hi;obtain⟨c,f1,f2⟩:=e2.get j av hj;exact f2 _ _ _ _ (El i a j c e1 f1)
section
variable {P:Program}
theorem Bg.mono{f:Nat}{args:List AV}{h0:Nat->HO}{Q Q' : AV->(Nat->HO)->Prop}(h:Bg P f args h0 Q)(hq:∀r h',Q r h'->∃r',Cj r r'/\Q' r' h'):Bg P f args h0 Q':=
 ⟨h.1,fun g w vals q1 q2 q3=>(h.2 g w vals q1 q2 q3).mono fun _ _ ⟨v,r,h',g',e1,e2,e3,rest⟩=>
  let ⟨r',s,k⟩:=hq r h' e2
  ⟨v,r',h',g',e1,k,s _ _ _ _ e3,rest⟩⟩
theorem Bg.args{args args' : List AV}{h0:Nat->HO}{Q:AV->(Nat->HO)->Prop}(h:Bg P f args h0 Q)(hs:Ma args' args):Bg P f args' h0 Q:=
 ⟨h.1,fun g w vals q1 q2 q3=>h.2 g w vals (by rw[q1,hs.len]) (fun i av x e1 e2=>by
  obtain⟨a,f1,f2⟩:=hs.get i av e1;exact f2 _ _ _ _ (q2 i a x f1 e2)) q3⟩
theorem Mk.args{f:Nat}{args args' : List AV}{res:AV}(h:Mk P f args res)(hs:Ma args' args):Mk P f args' res:=Bg.args h hs
theorem E9 {args : List AV}{res : AV}(hP : cx.P = P)(hT : B8 P cx.T)(hm : P.follows .mixedOrders = true)(hx : cx.ext = false)(hf : P.funcs[f]? = some fn)(hn : (fn.name == "runtime.NumGoroutine") = false)(hb:fn.body=some c)(hN:args.length<=fn.ntmps)(hc:EA fn.ntmps c=true)(hk:QD cx c (ud cx fn.results.toList fun r=>Cj r res) ⟨Pt args,Af⟩)(hY:∀l σ g w,cx.yp l σ g w:=by exact fun _ _ _ _=>trivial):Mk P f args res:=
 (kq cx hP hT hm hx hf hn hb hN hc hk hY).mono fun _ _ ⟨e1,e2⟩=>⟨res,e2,rfl,e1⟩
end
end Go.Eng
namespace Go.Eng
open Go.ChangeShapes Go.WideShapes
variable {w:World}{g:Gh}
def kd(w:World):Gh:=⟨fun _=>undef,fun _=>0,fun _=>false,fun _=>none,fun b _=>b<w.heap.size⟩
theorem XF{b o:Nat}{v:Value}(h:w.cell? ⟨b,o,none⟩=some v):b<w.heap.size:=by
 grind [World.cell?]
theorem sM(hg:∃m,w.cell? ⟨0,0,none⟩=some (.int .i64 m))(ht:∀x∈xH,x.1<w.heap.size/\w.cell? ⟨x.1,x.2.1,none⟩=x.2.2):CT w (kd w) Af Af (kd w) w where
 os:=rfl
 tape:=rfl
 output:=rfl
 size:=Ap _
 frame:=fun _ _ _=>rfl
 slt:=fun _ _ h=>h
 objs:=fun _=>trivial
 inj:=fun _ _ _ h=>h.elim
 loc:=fun _ _ h=>h.elim
 sg:=fun _ _ h=>.inl h
 glob:=⟨⟨by obtain⟨m,h⟩:=hg;exact XF h,hg⟩,fun x hx=>ht x hx⟩
theorem UB{α β:Type}{f:α->Option β}:∀{l:List α} {r:List β},l.mapM f=some r->r.length=l.length/\∀(i:Nat) x,l[i]?=some x->∃y,r[i]?=some y/\f x=some y
 | [],r,h=>by simp_all
 |a::l,r,h=>by
  rw[List.mapM_cons]at h;cases ha:f a with
  |none=>simp_all
  |some b=>
   cases hl:l.mapM f with
   |none=>simp_all
   |some s=>
    simp[ha,hl]at h;subst h;obtain⟨h1,h2⟩:=UB hl<;>grind
theorem Wj{base:Nat}{a:Addr}{n:Nat}{cs:List Value}(h:w.cells? base a n=some cs) :
  cs.length=n/\(0<n->a.spot=none)/\∀j,j<n->∃v,cs[j]?=some v/\w.cell? ⟨a.block,a.off+j,none⟩=some v:=by
 unfold World.cells? at h;split at h
 .obtain⟨h1,h2⟩:=UB h;have one:∀j,j<n->∃v,cs[j]?=some v/\w.cell? (a.add j)=some v:=fun j hj=>by
   obtain⟨v,e1,e2⟩:=h2 j j (by simp[hj])<;>simp_all
  have hsp:0<n->a.spot=none:=fun hn=>by
   obtain⟨v,_,hv⟩:=one 0 hn;simp only[Addr.add,A3]at hv;cases hs:a.spot<;>grind [World.cell?]
  refine⟨by simp_all,hsp,fun j hj=>?_⟩;obtain⟨v,e1,e2⟩:=one j hj;refine⟨v,e1,?_⟩;have hs:=hsp Wk;have e:a.add j=⟨a.block,a.off+j,none⟩:=by
   unfold Addr.add;split
   .rename_i h0;subst h0;cases a;simp_all
   .rfl
  simp_all
 simp_all
section
variable {H:Type}{enc:TypeId×Value->H}{P:Program}{w:World}{bk:DataW H->Nat}{N:Nat}
structure Xm(bk:DataW H->Nat):Prop where
 slice:∀es sp,es.length<=bk (.slice es sp)/\∀d∈es,bk d<=bk (.slice es sp)
 agg:∀ps,∀d∈ps,bk d<=bk (.agg ps)
 str:∀b:List UInt8,b.length<=bk (.lit (.string b))
def Ky(enc:TypeId×Value->H)(P:Program)(w:World)(bk:DataW H->Nat)(N:Nat)(t:TypeId){α:Type}(e:α->List AV)(ok:α->Prop):Prop:=
 ∀(fuel:Nat) (cs:List Value) (d:DataW H) (ps:List MemPlace),DataW.trod enc P w 0 (fun _=>true) true fuel t cs=some (d,ps)->bk d<=N->∃x:α,Cg (kd w) w FN (e x) cs/\ok x
theorem RB{U:Nat->Prop}{a:AV}{v:Value}(h1:v.oneCell'=true)(h2:Bc g w U a v):Cg g w U [a] [v]:=by
 refine⟨rfl,fun x hx=>by simp_all,fun i av x q1 q2=>?_⟩
 grind
theorem ka{U:Nat->Prop}{a b:List AV}{c d:List Value}(h:Cg g w U a c)(k:Cg g w U b d):Cg g w U (a++b) (c++d):=by
 obtain⟨h1,h2,h3⟩:=h;obtain⟨k1,k2,k3⟩:=k;refine⟨by simp_all,fun x hx=>(Bi.1 hx).elim (h2 x) (k2 x),fun i av x q1 q2=>?_⟩
 grind
theorem vW{U:Nat->Prop}:Cg g w U [] []:=⟨rfl,(fun x hx=>by cases hx),fun i av x q1=>by simp_all⟩
theorem WW{t:TypeId}{k:IntKind}(hu:P.underlying t=some (.int k)):Ky enc P w bk N t (fun n:Int=>[AV.v (.int k n)]) (fun n=>k.min<=n/\n<=k.max):=by
 intro fuel cs d ps h _;cases fuel with
 |zero=>simp[DataW.trod]at h
 |succ fuel=>
  rw[DataW.trod_step]at h;unfold DataW.trodStep at h;rw[hu]at h;split at h<;>rename_i he<;>first | cases he | skip
  all_goals first | (split at h<;>first | cases h | skip) | cases h | skip
  rename_i n hc _;obtain⟨rfl,hw⟩:=hc;simp only[Lit.wf,Ak,A4]at hw;exact⟨_,RB rfl (.v _ _),hw⟩
theorem du{t:TypeId}(hu:P.underlying t=some .bool):Ky enc P w bk N t (fun b:Bool=>[AV.v (.bool b)]) (fun _=>True):=by
 intro fuel cs d ps h _;cases fuel with
 |zero=>simp[DataW.trod]at h
 |succ fuel=>
  rw[DataW.trod_step]at h;unfold DataW.trodStep at h;rw[hu]at h;split at h<;>rename_i he<;>first | cases he | skip
  all_goals first | cases h | skip
  exact⟨_,RB rfl (.v _ _),trivial⟩
theorem Yk{t:TypeId}(hB:Xm bk)(hu:P.underlying t=some .string):Ky enc P w bk N t (fun s:CS=>[AV.v (.string s)]) (fun s=>s.size<=N):=by
 intro fuel cs d ps h hb;cases fuel with
 |zero=>simp[DataW.trod]at h
 |succ fuel=>
  rw[DataW.trod_step]at h;unfold DataW.trodStep at h;rw[hu]at h;split at h<;>rename_i he<;>first | cases he | skip
  all_goals first | (split at h<;>first | cases h | skip) | cases h | skip
  rename_i s hs;refine⟨s,RB rfl (.v _ _),?_⟩
  have:=hB.str s.data.toList
  have e:s.data.toList.length=s.size:=by simp_all
  omega
theorem GS{t e:TypeId}{α:Type}{E:α->List AV}{ok:α->Prop}{m:Nat}(hB:Xm bk)(hu:P.underlying t=some (.slice e))(hm:P.cellsOf e=m+1)(hE:∀x,(E x).length=m+1)(he:Ky enc P w bk N e E ok) :
  Ky enc P w bk N t (fun l:List α=>[AV.slice .none (l.map E)]) (fun l=>l.length<=N/\∀x∈l,ok x):=by
 intro fuel cs d ps h hb;cases fuel with
 |zero=>simp[DataW.trod]at h
 |succ fuel=>
  rw[DataW.trod_step]at h;unfold DataW.trodStep at h;rw[hu]at h;split at h<;>rename_i hq<;>first | cases hq | skip
  all_goals first | (cases h;done) | skip
  .cases h
   exact⟨[],RB rfl (.snil _ _ _),Al _,fun x hx=>by cases hx⟩
  .rename_i a len cap;simp only at h;split at h
   .rename_i hc;simp only[B3,Te]at h;obtain⟨sc,ki,rest,_,hd⟩:=h;simp only[Prod.mk.injEq]at hd;obtain⟨hd,_⟩:=hd;obtain⟨hl,F3⟩:=UB ki;rw[List.length_range]at hl;have hbs:=hB.slice (sc.map (·.1)) (rest.map (·.1));rw[hd]at hbs;rw[BJ]at hbs;have one:∀i,i<len->∃(x:α) (vs:List Value),w.cells? 0 (a.add (i*P.cellsOf e)) (P.cellsOf e)=some vs/\Cg (kd w) w FN (E x) vs/\ok x:=fun i hi=>by
     obtain⟨y,hy,hf⟩:=F3 i i (by simp_all);simp only[Te]at hf;obtain⟨vs,hv,ht⟩:=hf;obtain⟨x,r1,r2⟩:=he fuel vs y.1 y.2 ht (AS (hbs.2 y.1 (Ar.2 ⟨y,Az hy,rfl⟩)) hb)<;>grind
    have build:∀k,k<=len->∃l:List α,l.length=k/\∀(i:Nat) x,l[i]?=some x->∃vs:List Value,w.cells? 0 (a.add (i*P.cellsOf e)) (P.cellsOf e)=some vs/\Cg (kd w) w FN (E x) vs/\ok x:=fun k=>by
     induction k with
     |zero=>simp_all
     |succ k ih=>
      intro hk;obtain⟨l,h1,h2⟩:=ih Wk;obtain⟨x,hx⟩:=one k Wk;refine⟨l++[x],by simp_all,fun i y q=>?_⟩
      grind
    obtain⟨l,h1,h2⟩:=build len (Ap _);refine⟨l,RB rfl ?_,by omega,fun x hx=>?_⟩
    .cases CL:len with
     |zero=>
      grind [Bc.snil]
     |succ n=>
      have hsp:a.spot=none:=by
       obtain⟨x,vs,hv,_⟩:=one 0 Wk
       have:=(Wj hv).2.1 Wk
       grind [Addr.add]
      have ea:a=⟨a.block,a.off,none⟩:=by cases a;simp_all
      rw[<-CL,<-h1,show l.length=(l.map E).length by simp,ea];have cell:∀(i:Nat) (c:List AV) (j:Nat) (av:AV),(l.map E)[i]?=some c->c[j]?=some av->∃v,w.cell? ⟨a.block,a.off+i*(m+1)+j,none⟩=some v/\v.oneCell'=true/\Bc (kd w) w FN av v:=by
       intro i c j av q1 q2;rw[BK,B3]at q1;obtain⟨x,q1,rfl⟩:=q1;obtain⟨vs,hv,hr,_⟩:=h2 i x q1;obtain⟨k1,_,k3⟩:=Wj hv;have hj:j<m+1:=by
        grind
       obtain⟨v,e1,e2⟩:=k3 j Wk;refine⟨v,?_,hr.2.1 v (Az e1),hr.2.2 j av v q2 e1⟩
       grind [Addr.add]
      refine .slice _ _ a.block a.off (m+1) cap (fun i j=>(w.cell? ⟨a.block,a.off+i*(m+1)+j,none⟩).getD undef) (by grind) (fun i c q=>?_) (fun i c j av q1 q2=>?_) (fun i c j av q1 q2=>?_)
      .grind
      .obtain⟨v,e1,e2,_⟩:=cell i c j av q1 q2;exact⟨XF e1,by grind,by grind⟩
      .obtain⟨v,e1,_,e3⟩:=cell i c j av q1 q2;rw[e1];exact e3
    grind [List.mem_iff_getElem?]
   simp_all
theorem Nv{t e:TypeId}(hu:P.underlying t=some (.slice e)):Ky enc P w bk N t (fun _:Unit=>[AV.junk]) (fun _=>True):=by
 intro fuel cs d ps h _;cases fuel with
 |zero=>simp[DataW.trod]at h
 |succ fuel=>
  rw[DataW.trod_step]at h;unfold DataW.trodStep at h;rw[hu]at h;split at h<;>rename_i hq<;>first | cases hq | skip
  all_goals first | (cases h;done) | skip
  all_goals exact⟨(),RB rfl (.junk _ _),trivial⟩
theorem Ky.to{t:TypeId}{α β:Type}{e:α->List AV}{ok:α->Prop}{e' : β->List AV}{zn : β->Prop}(h:Ky enc P w bk N t e ok)(f:α->β)(hf:∀x,ok x->e' (f x)=e x/\zn (f x)):Ky enc P w bk N t e' zn:=by
 intro fuel cs d ps k hb;obtain⟨x,h1,h2⟩:=h fuel cs d ps k hb<;>grind
def Xo(enc:TypeId×Value->H)(P:Program)(w:World)(bk:DataW H->Nat)(N L:Nat)(l:List Field)(o:Nat){α:Type}(e:α->List AV)(ok:α->Prop):Prop:=
 ∀(fuel:Nat) (cs:List Value) (xs:List (DataW H×List MemPlace)),cs.length=L->l.mapM (fun f=>DataW.trod enc P w 0 (fun _=>true) true fuel f.type ((cs.drop f.offset).take (P.cellsOf f.type)))=some xs->(∀x∈xs,bk x.1<=N) ->
  ∃x:α,Cg (kd w) w FN (e x) (cs.drop o)/\ok x
theorem FC{L:Nat}:Xo enc P w bk N L [] L (fun _:Unit=>[]) (fun _=>True):=by
 intro fuel cs xs hl _ _;refine⟨(),?_,trivial⟩
 grind [vW]
theorem Bd{L o n:Nat}{f:Field}{l:List Field}{α β:Type}{e:α->List AV}{ok:α->Prop}{e' : β->List AV}{zn : β->Prop}(ho:f.offset=o)(hn:P.cellsOf f.type=n)(h:Ky enc P w bk N f.type e ok)(k:Xo enc P w bk N L l (o+n) e' zn) :
  Xo enc P w bk N L (f::l) o (fun p:α×β=>e p.1++e' p.2) (fun p=>ok p.1/\zn p.2):=by
 intro fuel cs xs hl hx hb;rw[List.mapM_cons]at hx;simp only[Option.bind_eq_bind,Te]at hx;obtain⟨y,hy,ys,hys,qA⟩:=hx;simp only[Option.pure_def,CV]at qA;subst qA;obtain⟨x,r1,r2⟩:=h fuel _ y.1 y.2 hy (hb y (Ag ..));obtain⟨z,s1,s2⟩:=k fuel cs ys hl hys (fun q hq=>hb q (Aj _ hq));refine⟨(x,z),?_,r2,s2⟩
 grind [List.drop_drop,List.take_append_drop,ka]
theorem Eu{t:TypeId}{L:Nat}{fs:Array Field}{α:Type}{e:α->List AV}{ok:α->Prop}(hB:Xm bk)(hu:P.underlying t=some (.struct fs))(hL:P.cellsOf t=L)(h:Xo enc P w bk N L fs.toList 0 e ok):Ky enc P w bk N t e ok:=by
 intro fuel cs d ps k hb;cases fuel with
 |zero=>simp[DataW.trod]at k
 |succ fuel=>
  rw[DataW.trod_step]at k;unfold DataW.trodStep at k;rw[hu]at k
  change (if cs.length=P.cellsOf t then(fs.toList.mapM fun f=>DataW.trod enc P w 0 (fun _=>true) true fuel f.type ((cs.drop f.offset).take (P.cellsOf f.type))).map fun xs=>(DataW.agg (xs.map (·.1)),xs.flatMap (·.2))else none)=some (d,ps)at k
  split at k
  .rename_i hc;simp only[B3,Prod.mk.injEq]at k;obtain⟨xs,hx,hd,_⟩:=k;have hba:=hB.agg (xs.map (·.1));rw[hd]at hba;obtain⟨x,r1,r2⟩:=h fuel cs xs Wk hx (fun y hy=>AS (hba y.1 (Ar.2 ⟨y,hy,rfl⟩)) hb)<;>grind
  simp_all
theorem aT{t:TypeId}{α:Type}{e:α->List AV}{ok:α->Prop}(h:Ky enc P w bk N t e ok){cs:Array Value}{d:DataW H}{p:List MemPlace}(k:DataW.Trod enc P w 0 (fun _=>true) true t (.agg cs) d p)(hb:bk d<=N) :
  ∃x,Bc (kd w) w FN (.agg (e x)) (.agg cs)/\ok x:=by
 obtain⟨fuel,k⟩:=k;obtain⟨x,r1,r2⟩:=h fuel cs.toList d p k hb;refine⟨x,.agg _ _ _ (by have:=r1.1;omega) (fun i y q=>r1.2.1 y (by grind)) (fun i av y q1 q2=>r1.2.2 i av y q1 (by simp_all)),r2⟩
end
end Go.Eng
namespace Go.Eng
open Go.Proofs
abbrev dTI:TI := dP
abbrev tF:TI := ⟨.func,1,8,.nilFunc,true⟩
abbrev tI:TI := ⟨.int .i64,1,8,.int .i64 0,true⟩
abbrev tP(n:Nat):TI := ⟨.ptr n,1,8,.pointer none,true⟩
abbrev tS(n:Nat):TI := ⟨.slice n,1,24,.slice none 0 0,true⟩
def ne{α:Type}(d:α):List α -> Nat -> α
 | [],_ => d
 |a::r,n => match n with |0 => a |n + 1 => ne d r n
abbrev tiN:TI := dP
def Aem:List TI := [⟨.other,1,0,(.tuple #[]),true⟩,tF,tI,tI,⟨.bool,1,1,(.bool .false),true⟩,⟨.int .u8,1,1,(.int .u8 0),true⟩,⟨.int .u8,1,1,(.int .u8 0),true⟩,⟨.struct [(2,0),(3,1),(4,2),(6,3)],4,24,(.agg #[.int .i64 0,.int .i64 0,.bool .false,.int .u8 0]),true⟩,⟨.struct [(2,0),(3,1),(4,2),(6,3)],4,24,(.agg #[.int .i64 0,.int .i64 0,.bool .false,.int .u8 0]),true⟩,⟨.string,1,16,(.string ⟨#[]⟩),true⟩,⟨.string,1,16,(.string ⟨#[]⟩),true⟩,⟨.string,1,16,(.string ⟨#[]⟩),true⟩,⟨.int .u64,1,8,(.int .u64 0),true⟩,⟨.struct [(9,0),(12,1)],2,24,(.agg #[.string ⟨#[]⟩,.int .u64 0]),false⟩,⟨.struct [(9,0),(12,1)],2,24,(.agg #[.string ⟨#[]⟩,.int .u64 0]),false⟩,⟨.ptr 462,1,8,(.pointer .none),true⟩]
def Aen:List TI := [⟨.ptr 465,1,8,(.pointer .none),true⟩,⟨.ptr 472,1,8,(.pointer .none),true⟩,⟨.struct [(17,0)],1,8,(.agg #[.pointer .none]),false⟩,⟨.struct [(17,0)],1,8,(.agg #[.pointer .none]),false⟩,⟨.iface,1,16,.nilIface,true⟩,⟨.int .i32,1,4,(.int .i32 0),true⟩,⟨.slice 70,1,24,(.slice .none 0 0),true⟩,⟨.slice 478,1,24,(.slice .none 0 0),true⟩,⟨.struct [(22,0),(23,1)],2,48,(.agg #[.slice .none 0 0,.slice .none 0 0]),true⟩,⟨.struct [(22,0),(23,1)],2,48,(.agg #[.slice .none 0 0,.slice .none 0 0]),true⟩,⟨.slice 68,1,24,(.slice .none 0 0),true⟩,tF,tF,⟨.slice 53,1,24,(.slice .none 0 0),true⟩,⟨.slice 96,1,24,(.slice .none 0 0),true⟩,⟨.slice 92,1,24,(.slice .none 0 0),true⟩]
def Aeo:List TI := [⟨.struct [(26,0),(29,1),(30,2),(31,3)],4,96,(.agg #[.slice .none 0 0,.slice .none 0 0,.slice .none 0 0,.slice .none 0 0]),true⟩,⟨.struct [(26,0),(29,1),(30,2),(31,3)],4,96,(.agg #[.slice .none 0 0,.slice .none 0 0,.slice .none 0 0,.slice .none 0 0]),true⟩,tI,⟨.other,1,0,(.tuple #[.agg #[.slice .none 0 0,.slice .none 0 0,.slice .none 0 0,.slice .none 0 0],.int .i64 0]),true⟩,tF,⟨.slice 45,1,24,(.slice .none 0 0),true⟩,⟨.other,1,0,(.tuple #[.slice .none 0 0,.int .i64 0]),true⟩,tF,tF,tF,⟨.struct [(3,0),(3,1),(3,2)],3,24,(.agg #[.int .i64 0,.int .i64 0,.int .i64 0]),true⟩,⟨.struct [(3,0),(3,1),(3,2)],3,24,(.agg #[.int .i64 0,.int .i64 0,.int .i64 0]),true⟩,tiN,⟨.struct [(9,0),(43,1)],4,40,(.agg #[.string ⟨#[]⟩,.int .i64 0,.int .i64 0,.int .i64 0]),true⟩,tiN,tiN]
def Aep:List TI := [tiN,tiN,tiN,tiN,tiN,⟨.struct [(9,0),(43,1),(9,4),(9,5)],6,72,(.agg #[.string ⟨#[]⟩,.int .i64 0,.int .i64 0,.int .i64 0,.string ⟨#[]⟩,.string ⟨#[]⟩]),true⟩,tiN,tiN,tiN,tiN,tiN,tiN,tiN,tiN,tiN,tiN]
def Aeq:List TI := [⟨.struct [(3,0),(3,1)],2,16,(.agg #[.int .i64 0,.int .i64 0]),true⟩,⟨.slice 64,1,24,(.slice .none 0 0),true⟩,⟨.slice 64,1,24,(.slice .none 0 0),true⟩,tiN,⟨.struct [(9,0),(66,1)],2,40,(.agg #[.string ⟨#[]⟩,.slice .none 0 0]),true⟩,tiN,⟨.struct [(9,0),(43,1),(26,4),(9,5),(9,6),(9,7),(4,8)],9,120,(.agg #[.string ⟨#[]⟩,.int .i64 0,.int .i64 0,.int .i64 0,.slice .none 0 0,.string ⟨#[]⟩,.string ⟨#[]⟩,.string ⟨#[]⟩,.bool .false]),true⟩,⟨.slice 76,1,24,(.slice .none 0 0),true⟩,tiN,tiN,tiN,tiN,⟨.struct [(9,0),(3,1),(3,2)],3,32,(.agg #[.string ⟨#[]⟩,.int .i64 0,.int .i64 0]),true⟩,tiN,tiN,tiN]
def Aer:List TI := [⟨.struct [(4,0),(37,1),(30,2),(31,3)],4,80,(.agg #[.bool .false,.slice .none 0 0,.slice .none 0 0,.slice .none 0 0]),true⟩,tiN,tiN,tiN,tiN,tiN,tiN,tiN,tiN,tiN,tiN,tiN,⟨.struct [(9,0),(3,1),(3,2)],3,32,(.agg #[.string ⟨#[]⟩,.int .i64 0,.int .i64 0]),true⟩,tiN,tiN,tiN]
def Aes:List TI := [⟨.struct [(3,0),(9,1),(3,2),(3,3),(3,4),(3,5)],6,56,(.agg #[.int .i64 0,.string ⟨#[]⟩,.int .i64 0,.int .i64 0,.int .i64 0,.int .i64 0]),true⟩,tiN,⟨.map 45 70,1,8,(.map .none),true⟩,⟨.map 9 22,1,8,(.map .none),true⟩,tiN,⟨.struct [(98,0),(99,1)],2,16,(.agg #[.map .none,.map .none]),true⟩,tiN,tiN,tiN,tiN,⟨.map 9 70,1,8,(.map .none),true⟩,tiN,tiN,tF,tiN,⟨.map 9 4,1,8,(.map .none),true⟩]
def Aet:List TI := [tiN,tiN,tiN,tiN,tiN,tiN,tiN,⟨.ptr 121,1,8,(.pointer .none),true⟩,tiN,⟨.struct [(9,0)],1,16,(.agg #[.string ⟨#[]⟩]),true⟩,tiN,⟨.ptr 33,1,8,(.pointer .none),true⟩,⟨.ptr 128,1,8,(.pointer .none),true⟩,⟨.ptr 225,1,8,(.pointer .none),true⟩,tiN,tiN]
def Aeu:List TI := [⟨.struct [(125,0),(3,1)],2,16,(.agg #[.pointer .none,.int .i64 0]),true⟩,tiN,tiN,tiN,⟨.slice 3,1,24,(.slice .none 0 0),true⟩,tiN,tiN,tiN,tiN,tiN,tiN,tiN,tiN,tiN,tiN,tiN]
def Aev:List TI := [⟨.slice 9,1,24,(.slice .none 0 0),true⟩,⟨.map 9 3,1,8,(.map .none),true⟩,tiN,tiN,tiN,tiN,⟨.other,1,0,(.tuple #[.int .i64 0,.bool .false]),true⟩,tiN,tiN,⟨.ptr 163,1,8,(.pointer .none),true⟩,tiN,tiN,⟨.map 9 160,1,8,(.map .none),true⟩,⟨.map 9 66,1,8,(.map .none),true⟩,⟨.slice 258,1,24,(.slice .none 0 0),true⟩,⟨.map 96 3,1,8,(.map .none),true⟩]
def zy:List TI := [⟨.slice 242,1,24,(.slice .none 0 0),true⟩,⟨.slice 31,1,24,(.slice .none 0 0),true⟩,tiN,⟨.struct [(26,0),(156,1),(157,2),(30,3),(158,4),(159,5),(4,6),(160,7),(37,8),(161,9)],10,176,(.agg #[.slice .none 0 0,.map .none,.map .none,.slice .none 0 0,.slice .none 0 0,.map .none,.bool .false,.slice .none 0 0,.slice .none 0 0,.slice .none 0 0]),true⟩,tiN,tiN,tF,tiN,tiN,tiN,tiN,tiN,tiN,tiN,tiN,tiN]
def zz:List TI := [tiN,tiN,tiN,tiN,tF,⟨.ptr 281,1,8,(.pointer .none),true⟩,tiN,tiN,tiN,tiN,tiN,tF,tiN,tF,tiN,tiN]
def zA:List TI := [tiN,tiN,tiN,tF,tiN,⟨.iface,1,16,.nilIface,false⟩,tiN,⟨.ptr 26,1,8,(.pointer .none),true⟩,⟨.ptr 68,1,8,(.pointer .none),true⟩,tiN,tiN,tiN,tiN,tiN,tiN,tiN]
def zB:List TI := [⟨.ptr 3,1,8,(.pointer .none),true⟩,tiN,tF,tiN,⟨.ptr 29,1,8,(.pointer .none),true⟩,⟨.ptr 53,1,8,(.pointer .none),true⟩,tF,tiN,⟨.ptr 30,1,8,(.pointer .none),true⟩,⟨.ptr 96,1,8,(.pointer .none),true⟩,tiN,tF,tiN,⟨.ptr 31,1,8,(.pointer .none),true⟩,⟨.ptr 92,1,8,(.pointer .none),true⟩,tF]
def zC:List TI := [tiN,⟨.struct [(9,0),(3,1),(34,2)],3,32,(.agg #[.string ⟨#[]⟩,.int .i64 0,.int .i64 0]),true⟩,tiN,tiN,tiN,⟨.int .u64,1,8,(.int .u64 0),true⟩,tiN,tiN,tiN,tiN,tiN,tiN,tiN,tiN,tiN,tiN]
def zD:List TI := [⟨.int .u64,1,8,(.int .u64 0),true⟩,tiN,⟨.struct [(3,0),(70,1)],10,128,(.agg #[.int .i64 0,.string ⟨#[]⟩,.int .i64 0,.int .i64 0,.int .i64 0,.slice .none 0 0,.string ⟨#[]⟩,.string ⟨#[]⟩,.string ⟨#[]⟩,.bool .false]),true⟩,tiN,⟨.slice 249,1,24,(.slice .none 0 0),true⟩,tiN,tiN,tiN,tiN,⟨.struct [(68,0),(9,2),(3,3),(3,4)],5,72,(.agg #[.string ⟨#[]⟩,.slice .none 0 0,.string ⟨#[]⟩,.int .i64 0,.int .i64 0]),true⟩,tF,tiN,tiN,tiN,tiN,tiN]
def zE:List TI := [tF,⟨.slice 325,1,24,(.slice .none 0 0),true⟩,⟨.slice 325,1,24,(.slice .none 0 0),true⟩,tiN,tiN,⟨.other,1,0,(.tuple #[.string ⟨#[]⟩,.bool .false]),true⟩,tiN,tiN,tiN,tiN,tiN,tiN,tiN,tiN,tiN,tiN]
def zF:List TI := [tiN,tiN,tiN,tiN,⟨.array 3 3,3,24,(.agg #[.int .i64 0,.int .i64 0,.int .i64 0]),true⟩,tiN,tiN,tiN,tiN,⟨.struct [(25,0),(26,2),(158,3)],4,96,(.agg #[.slice .none 0 0,.slice .none 0 0,.slice .none 0 0,.slice .none 0 0]),true⟩,tiN,tiN,tF,tiN,tiN,tiN]
def zG:List TI := [tiN,tiN,tiN,tiN,tiN,tiN,tF,tiN,⟨.slice 5,1,24,(.slice .none 0 0),true⟩,tiN,tiN,⟨.int .u32,1,4,(.int .u32 0),true⟩,tiN,tiN,tiN,tiN]
def zH:List TI := [tiN,tiN,tiN,tiN,tI,⟨.other,1,0,(.tuple #[.int .i64 0,.int .i64 0]),true⟩,tiN,tiN,tiN,tiN,tiN,tiN,tiN,tiN,tF,tiN]
def zI:List TI := [tiN,tiN,tiN,tiN,tiN,⟨.struct [(9,0),(4,1),(66,2)],3,48,(.agg #[.string ⟨#[]⟩,.bool .false,.slice .none 0 0]),true⟩,tF,tiN,tiN,tiN,tiN,tiN,tiN,tiN,tiN,tiN]
def zJ:List TI := [tiN,tiN,tiN,⟨.slice 4,1,24,(.slice .none 0 0),true⟩,tiN,tiN,tiN,tiN,tF,tF,tiN,⟨.struct [(344,0),(345,1)],2,16,(.agg #[.nilFunc,.nilFunc]),true⟩,⟨.array 4 347,8,64,(.agg #[.nilFunc,.nilFunc,.nilFunc,.nilFunc,.nilFunc,.nilFunc,.nilFunc,.nilFunc]),true⟩,tiN,tiN,tiN]
def zK:List TI := [⟨.other,1,0,(.tuple #[.int .u32 0,.int .u32 0]),true⟩,tiN,tiN,tiN,tiN,tiN,tiN,tiN,tiN,tiN,tiN,tiN,tiN,tiN,tiN,tiN]
def zL:List TI := [tiN,tiN,tiN,tiN,⟨.int .u64,1,8,(.int .u64 0),true⟩,tiN,tiN,tiN,tiN,tiN,tF,tiN,tF,tiN,tiN,tiN]
def zM:List TI := [tiN,tiN,tiN,tF,tiN,tiN,tiN,tiN,tiN,tiN,tiN,tiN,⟨.slice 66,1,24,(.slice .none 0 0),true⟩,tiN,tiN,tiN]
def zN:List TI := [tiN,tiN,tiN,tiN,⟨.ptr 5,1,8,(.pointer .none),true⟩,tiN,tiN,tiN,⟨.ptr 372,1,8,(.pointer .none),true⟩,⟨.other,1,0,(.tuple #[.int .i64 0,.int .i64 0]),true⟩,tiN,tiN,tiN,tiN,tiN,⟨.map 9 325,1,8,(.map .none),true⟩]
def zO:List TI := [tiN,tiN,tF,tiN,tiN,tiN,⟨.other,1,0,(.tuple #[.int .i32 0,.int .i64 0]),true⟩,tiN,tiN,tiN,tiN,tiN,tiN,tiN,tiN,tiN]
def zP:List TI := [⟨.map 3 3,1,8,(.map .none),true⟩,tiN,tiN,tiN,tiN,tiN,tiN,tiN,tiN,tiN,tiN,tiN,⟨.array 256 5,256,256,(.agg (((List.replicate 64 (.int .u8 0)).append (List.replicate 64 (.int .u8 0))).append ((List.replicate 64 (.int .u8 0)).append (List.replicate 64 (.int .u8 0)))).toArray),true⟩,tiN,⟨.struct [(5,0),(5,1)],2,2,(.agg #[.int .u8 0,.int .u8 0]),true⟩,⟨.array 16 446,32,32,(.agg (Array.replicate 32 (.int .u8 0))),true⟩]
def zQ:List TI := [tiN,tiN,tiN,tiN,tiN,tiN,tiN,tiN,tiN,tiN,tiN,tiN,tiN,tiN,⟨.struct [(17,0),(17,1),(17,2),(9,3)],4,40,(.agg #[.pointer .none,.pointer .none,.pointer .none,.string ⟨#[]⟩]),false⟩,tiN]
def zR:List TI := [tiN,⟨.other,0,0,(.agg #[]),false⟩,⟨.int .u8,1,1,(.int .u8 0),true⟩,⟨.int .u8,1,1,(.int .u8 0),true⟩,tF,⟨.int .i32,1,4,(.int .i32 0),true⟩,⟨.int .i32,1,4,(.int .i32 0),true⟩,tiN,⟨.struct [(12,0),(12,1),(299,2),(466,3),(5,4),(5,5),(467,6),(468,7),(404,8),(469,9),(470,10)],11,48,(.agg #[.int .u64 0,.int .u64 0,.int .u32 0,.int .u8 0,.int .u8 0,.int .u8 0,.int .u8 0,.nilFunc,.pointer .none,.int .i32 0,.int .i32 0]),false⟩,⟨.slice 490,1,24,(.slice .none 0 0),true⟩,⟨.slice 492,1,24,(.slice .none 0 0),true⟩,⟨.slice 494,1,24,(.slice .none 0 0),true⟩,⟨.slice 496,1,24,(.slice .none 0 0),true⟩,tiN,⟨.struct [(9,0),(473,1),(474,2),(475,3),(476,4)],5,112,(.agg #[.string ⟨#[]⟩,.slice .none 0 0,.slice .none 0 0,.slice .none 0 0,.slice .none 0 0]),true⟩,tiN]
def zS:List TI := [tiN,tiN,tiN,tiN,⟨.slice 498,1,24,(.slice .none 0 0),true⟩,⟨.slice 488,1,24,(.slice .none 0 0),true⟩,⟨.slice 500,1,24,(.slice .none 0 0),true⟩,tiN,⟨.struct [(3,0),(9,1),(9,2),(485,3),(486,4)],5,88,(.agg #[.int .i64 0,.string ⟨#[]⟩,.string ⟨#[]⟩,.slice .none 0 0,.slice .none 0 0]),true⟩,tiN,⟨.struct [(9,0),(484,1),(488,2),(488,7)],12,216,(.agg #[.string ⟨#[]⟩,.slice .none 0 0,.int .i64 0,.string ⟨#[]⟩,.string ⟨#[]⟩,.slice .none 0 0,.slice .none 0 0,.int .i64 0,.string ⟨#[]⟩,.string ⟨#[]⟩,.slice .none 0 0,.slice .none 0 0]),true⟩,tiN,⟨.struct [(9,0),(484,1),(488,2)],7,128,(.agg #[.string ⟨#[]⟩,.slice .none 0 0,.int .i64 0,.string ⟨#[]⟩,.string ⟨#[]⟩,.slice .none 0 0,.slice .none 0 0]),true⟩,tiN,⟨.struct [(9,0),(9,1),(9,2)],3,48,(.agg #[.string ⟨#[]⟩,.string ⟨#[]⟩,.string ⟨#[]⟩]),true⟩,tiN]
def zU:List TI := [⟨.struct [(9,0),(9,1)],2,32,(.agg #[.string ⟨#[]⟩,.string ⟨#[]⟩]),true⟩,tiN,⟨.struct [(9,0),(3,1),(488,2)],7,112,(.agg #[.string ⟨#[]⟩,.int .i64 0,.int .i64 0,.string ⟨#[]⟩,.string ⟨#[]⟩,.slice .none 0 0,.slice .none 0 0]),true⟩,tiN,⟨.struct [(9,0),(488,1),(4,6)],7,112,(.agg #[.string ⟨#[]⟩,.int .i64 0,.string ⟨#[]⟩,.string ⟨#[]⟩,.slice .none 0 0,.slice .none 0 0,.bool .false]),true⟩]
def tbl:List (List TI) := [Aem,Aen,Aeo,Aep,Aeq,Aer,Aes,Aet,Aeu,Aev,zy,zz,zA,zB,zC,zD,zE,zF,zG,zH,zI,zJ,zK,zL,zM,zN,zO,zP,zQ,zR,zS,zU]
def rP:GW := fun t => ne dTI (ne [] tbl (t / 16)) (t % 16)
def usedT:List Nat := [0,1,2,3,4,5,6,7,8,9,10,11,12,13,14,15,16,17,18,19,20,21,22,23,24,25,26,27,28,29,30,31,32,33,34,35,36,37,38,39,40,41,42,43,45,53,64,65,66,68,70,71,76,80,92,96,98,99,101,106,109,111,119,121,123,124,125,128,132,144,145,150,153,156,157,158,159,160,161,163,166,180,181,187,189,195,197,199,200,208,210,212,213,214,216,217,219,221,222,223,225,229,240,242,244,249,250,256,257,258,261,276,281,284,294,296,299,308,309,318,325,326,339,344,345,347,348,352,372,378,380,387,396,404,408,409,415,418,422,432,444,446,447,462,465,466,467,468,469,470,472,473,474,475,476,478,484,485,486,488,490,492,494,496,498,500]
def restT:List Nat := (List.range 512).filter fun t => !usedT.contains t
theorem ot:usedT.map rP = usedT.map (j7 Tryz.prog) := by kernel_rfl
theorem tab_rest:restT.map rP = restT.map fun _ => dTI := by kernel_rfl
theorem fM{α:Type}(d:α):∀(l:List α) (n:Nat),l.length <= n -> ne d l n = d
 | [],_,_ => rfl
 |_::_,0,h => by simp at h
 |_::r,n + 1,h => fM d r n (by simpa using h)
theorem BI:B8 Tryz.prog rP := by
 intro t
 by_cases h:t<512
 .by_cases u:t∈usedT
  .exact .inr (List.map_inj_left.1 ot t u)
  .exact .inl (List.map_inj_left.1 tab_rest t (Cr.2 ⟨OX.2 h,by simpa using u⟩))
 .have h1:ne ([]:List TI) tbl (t / 16) = [] := fM _ _ _ (by show 32 <= t / 16;omega)
  have h2:rP t = dTI := by unfold rP;rw[h1];rfl
  exact .inl h2
end Go.Eng
namespace Go.Eng
variable {args:List AV}{f:Nat}(vals:List Value)
section
variable {P:Program}
theorem ig {fn : Func}{c : Code}(hf : P.funcs[f]? = some fn)(hn : (fn.name == "runtime.NumGoroutine") = false)(hb : fn.body = some c) : Gl P f := ⟨fn, hf, hn, by simp_all⟩
theorem LF{res:AV}(v:Value)(hE:Gl P f)(ha:args=vals.map .v)(yY:∀g w,Bc g w FN res v)(h:∀w,(∃m,w.cell? ⟨gB,0,none⟩=some (.int .i64 m))->Calls P f vals.toArray w fun e w'=>e=.returned v/\w'=w):Mk P f args res:=by
 refine⟨hE,fun g w us hs hv hI=>?_⟩;have hu:us=vals.toArray:=by
  subst ha;rw[BJ]at hs;refine Array.ext Wk fun i h1 h2=>?_
  have:=hv i (.v (vals[i]' Wk)) us[i] (by simp_all) (by simp_all)
  grind [Bc.v_eq]
 subst hu;refine(h w hI.glob.1.2).mono ?_
 rintro e w' ⟨rfl,rfl⟩
 grind [Bc.up,Le.refl]
theorem nP{g:Gh}{w:World}:∀(vs:List Value),Bc g w FN (.tup (vs.map .v)) (.tuple vs.toArray):=fun vs=>
 .tup _ _ _ aa0 fun i av x h1 h2=>by
  grind [Bc.v]
theorem jB(es:List Value)(T:TypeId)(hE:Gl P f)(ha:args=vals.map .v)(h1:∀x∈es,x.oneCell'=true)(h:∀w,(∃m,w.cell? ⟨gB,0,none⟩=some (.int .i64 m))->Calls P f vals.toArray w fun e w'=>e=.returned (.slice (some ⟨w.heap.size,0,none⟩) es.length es.length)/\w'=w.alloc (.cells es.toArray T)) :
  Mk P f args (.slice .none (es.map fun x=>[.v x])):=by
 refine⟨hE,fun g w us hs hv hI=>?_⟩;have hu:us=vals.toArray:=by
  subst ha;rw[BJ]at hs;refine Array.ext Wk fun i h1 h2=>?_
  have:=hv i (.v (vals[i]' Wk)) us[i] (by simp_all) (by simp_all)
  grind [Bc.v_eq]
 subst hu;refine(h w hI.glob.1.2).mono ?_
 rintro e w' ⟨rfl,rfl⟩
 have EU:(w.alloc (.cells es.toArray T)).heap[w.heap.size]?=some (.cells es.toArray T (0,0)):=Hj w _ rfl;have cO:∀b,b<w.heap.size->(w.alloc (.cells es.toArray T)).heap[b]?=w.heap[b]?:=fun b hb=>heap_alloc_old _ _ hb;have hK:Fa g w ⟨g.ρ,g.ln,g.tk,g.own,g.more w.heap.size es.length⟩ (w.alloc (.cells es.toArray T)):=fun b o hb=>by
  have ET:=hI.slt b o hb;exact⟨.inl hb,by grind [World.cell?],fun es ck he=>(cO b ET).trans he⟩
 refine⟨_,_,Af,⟨g.ρ,g.ln,g.tk,g.own,g.more w.heap.size es.length⟩,rfl,⟨rfl,rfl⟩,?_,⟨rfl,rfl,rfl,?_,fun b hb _=>cO b hb,fun b o hs=>?_,fun _=>trivial,fun _ _ _ h=>h.elim,fun _ _ h=>h.elim,fun b o hs=>?_,hI.glob.keep hK⟩,⟨.refl _ _,fun _ h=>h,hK⟩⟩
 .have hr:Cg ⟨g.ρ,g.ln,g.tk,g.own,g.more w.heap.size es.length⟩ (w.alloc (.cells es.toArray T)) FN (es.map fun x=>[AV.v x]).flatten (es.toArray.toList.take ((es.map fun x=>[AV.v x]).length*1)):=by
   have hfl:∀l:List Value,(l.map fun x=>[AV.v x]).flatten=l.map .v:=fun l=>by
    induction l<;>simp_all
   rw[hfl];simp only[BJ,Nat.mul_one,IW];refine⟨by simp,fun x hx=>h1 x Wk,fun i av x q1 q2=>?_⟩
   grind [Bc.v]
  have:=Bc.slice_row (U:=AC Af) (cap:=es.length) (sz:=1) (es:=es.map fun x=>[AV.v x]) EU (fun cs hcs=>by
   grind) aa0 hr (fun o ho=>.inr ⟨rfl,by simp_all⟩)
  simp_all
 .simp_all
 .rw[World.size_alloc];rcases hs with hs | ⟨rfl,_⟩
  .have:=hI.slt b o hs;omega
  .omega
 .rcases hs with hs | ⟨rfl,_⟩<;>simp_all
end
end Go.Eng
namespace Go.Eng
open Go.Sort
section
variable {P:Program}
theorem N4(F c:Array Value)(h:F.size<=c.size):(putCells id 0 F c).toList.take F.size=F.toList/\(putCells id 0 F c).size=c.size:=by
 have hs:(putCells id 0 F c).size=c.size:=by simp[putCells]
 refine⟨?_,hs⟩;apply CU
 grind [putCells]
theorem Ue(r:Nat)(o o' : HO):AK (Ai [(r,o)] Af) r o'=Ai [(r,o')] Af:=by
 grind [A2,Ai,BT,DH,Nat.beq_refl]
theorem QB{f:Nat}{es:C0}{sz:Nat}{rest:List Value}{Q:C0->Prop}(hE:Gl P f)
  (h0:es=[]->Q []/\∀w,Calls P f (#[.slice none 0 0]++rest.toArray) w fun e w'=>e=.returned (.tuple #[])/\w'=w)
  (h1:∀(g:Gh) (w:World) (b cap:Nat) (F:Array Value),Cg g w FN es.flatten F.toList->F.size=es.length*sz->Holds id w b 0 F->b<w.heap.size->Calls P f (#[.slice (some ⟨b,0,none⟩) es.length cap]++rest.toArray) w fun e w'=>
   e=.returned (.tuple #[])/\∃(F' : Array Value) (FU : C0) (n:Nat) (os:Array Obj),F'.size=F.size/\Q FU/\FU.length=es.length/\(∀cs∈FU,cs.length=sz) /\
    (∀(g:Gh) (w:World),Cg g w FN es.flatten F.toList->Cg g w FN FU.flatten F'.toList)/\w'=grow (putRow id (Sort.ahead w n) b 0 F') os) :
  Bg P f (.msl 1000 es.length::rest.map .v) (Ai [(1000,.arr sz es)] Af) fun r h'=>r=.tup []/\∃FU,Q FU/\h'=Ai [(1000,.arr sz FU)] Af:=by
 refine⟨hE,fun g w us hs hv hI=>?_⟩;have ho:=hI.objs 1000;have he:Ai [(1000,HO.arr sz es)] Af 1000=.arr sz es:=rfl;rw[he]at ho;obtain⟨t1,l1,al,a2⟩:=ho;simp only[DZ,BJ]at hs
 -- the arguments
 have hu0:0<us.size:=by omega
 have wx:=hv 0 (.msl 1000 es.length) us[0] rfl (Ds hu0);have hval:us[0]=g.ρ 1000:=by
  grind [cases Bc]
 have NN:us=#[g.ρ 1000]++rest.toArray:=by
  refine Array.ext (by simp_all) fun i h1 h2=>?_;cases i with
  |zero=>simp_all
  |succ i=>
   have hi:i<rest.length:=by omega
   have:=hv (i+1) (.v rest[i]) us[i+1] (by simp_all) (Ds h1)
   rw[this.v_eq];simp
 rw[NN];rcases a2 with ⟨b1,b2,b3⟩ | ⟨b,cap,E,vs,b1,b2,b3,b4,b5,b6,b7⟩
 .subst b1;obtain⟨q,h0⟩:=h0 rfl;rw[b2];refine(h0 w).mono ?_
  rintro e w' ⟨rfl,rfl⟩
  grind [Bc.tup,Le.refl]
 .have hl:(Ai [(1000,HO.arr sz es)] Af 1000).live:=trivial;have ET:=(hI.loc 1000 b hl b2).1;have Js:es.length*sz<=vs.size:=by rw[b5];exact BD _ b3
  have hF:((vs.toList.take (es.length*sz)).toArray).size=es.length*sz:=by simp_all
  have hH:Holds id w b 0 (vs.toList.take (es.length*sz)).toArray:=fun j hj=>by
   grind [World.cell?,World.frozen?]
  rw[b1];refine(h1 g w b cap _ Wk hF hH ET).mono ?_
  rintro e w' ⟨rfl,F',FU,n,os,f1,f2,f3,f4,f5,rfl⟩
  have xR : F'.size=es.length*sz:=f1.trans hF;have hpt:=N4 F' vs Wk;have uq : (grow (putRow id (Sort.ahead w n) b 0 F') os).heap[b]?=some (.cells (putCells id 0 F' vs) E (0,0)):=by
   rw[heap_grow_old _ _ (by simp_all)];show(w.heap.modify b (onCells (putCells id 0 F')))[b]?=_;rw[Array.getElem?_modify,A3 rfl,b4];rfl
  have yP:∀k,k<w.heap.size->k≠b->(grow (putRow id (Sort.ahead w n) b 0 F') os).heap[k]?=w.heap[k]?:=fun k hk EG=>by
   rw[heap_grow_old _ _ (by simp_all)];simp[putRow,mapBlock,Array.getElem?_modify,Ne.symm EG]
  have FI:w.heap.size<=(grow (putRow id (Sort.ahead w n) b 0 F') os).heap.size:=by simp_all
  obtain⟨k1,k2⟩:=hI.upd 1000 (.arr sz FU) (g.ρ 1000) (g.ln 1000) (g.tk 1000) (g.own 1000) g.S (grow (putRow id (Sort.ahead w n) b 0 F') os) (some b) ⟨rfl,rfl,rfl,FI⟩
   (fun k hk EG=>yP k hk (fun e=>EG (by rw[e]))) (fun b' e=>by cases e;exact⟨hl,b2⟩) (fun _ _ h=>h) (fun _ _ h=>.inl h) (fun b' o e hs=>by cases e;exact absurd hs (b7 o))
   (fun b' _ e=>by rw[b2]at e;cases e;exact⟨AM ET FI,.inl ⟨hl,b2⟩⟩) aa0 (fun _=>⟨rfl,Ap _,fun _=>rfl,fun _=>rfl⟩) (fun hg hk=>by
    refine⟨by simp[Gh.upd,t1],by simp[Gh.upd,l1,f3],f4,.inr ⟨b,cap,E,_,by simp[Gh.upd,b1,f3],by simp[Gh.upd,b2],by omega,uq,by rw[hpt.2,b5],?_,b7⟩⟩
    have:=f5 g w (by simpa using b6)
    rw[f3,<-xR,hpt.1];exact this.mono hk (fun _ h=>h) (fun _ h=>h.elim))
  rw[Ue]at k1 k2;exact⟨_,.tup [],_,_,rfl,⟨rfl,FU,f2,rfl⟩,.tup _ _ _ rfl (fun i av x h=>by simp at h),k1,k2⟩
end
end Go.Eng
namespace Go.Eng
open Go.Sort Go.Proofs
variable {α β:Type}{k:Nat}
theorem Se{g:Gh}{w:World}{U:Nat->Prop}{cs d9 : List AV}{vs km : List Value}(h:vs.length=cs.length):Cg g w U (cs++d9) (vs++km)↔Cg g w U cs vs/\Cg g w U d9 km:=by
 constructor
 .intro⟨h1,h2,h3⟩;refine⟨⟨h,fun x hx=>h2 x (Bw _ hx),fun i av x q1 q2=>?_⟩,⟨by simp_all,fun x hx=>h2 x (B7 _ hx),fun i av x q1 q2=>?_⟩⟩
  .have a1:=(Bf.1 q1).1;have a2:=(Bf.1 q2).1;exact h3 i av x (by grind) (by grind)
  .exact h3 (cs.length+i) av x (by grind) (by grind)
 .intro⟨⟨h1,h2,h3⟩,k1,k2,k3⟩;refine⟨by simp_all,fun x hx=>(Bi.1 hx).elim (h2 x) (k2 x),fun i av x q1 q2=>?_⟩
  grind
theorem Rj{α β:Type}{g:Gh}{w:World}{U:Nat->Prop}{Dh:β->List AV}{enc:α->List Value}(hl:∀x y,(enc x).length=(Dh y).length):∀ps:List (β×α),
  Cg g w U (ps.map fun p=>Dh p.1).flatten (ps.map fun p=>enc p.2).flatten↔∀p∈ps,Cg g w U (Dh p.1) (enc p.2)
 | []=>by simp[Cg]
 |p::ps=>by
  simp only[Bo,Ck];rw[Se (hl _ _),Rj hl ps];simp
theorem MR{f:α->β}:∀{m m' : List β},m.Perm m'->∀ps:List α,ps.map f=m->∃nM : List α,nM.Perm ps/\nM.map f=m':=by
 intro m m' h
 induction h with
 |nil=>simp_all
 |cons x h ih=>
  intro ps e;cases ps with
  |nil=>cases e
  |cons p ps=>
   rw[Bo]at e
   injection e with e1 e2
   obtain⟨nM,h1,h2⟩:=ih ps e2;exact⟨p::nM,h1.cons p,by simp_all⟩
 |swap x y l=>
  intro ps e
  match ps,e with
  |p::q::ps,e=>
   grind [List.Perm.swap]
 |trans h1 h2 ih1 ih2=>
  grind [List.Perm.trans]
theorem TT[Inhabited α]{enc:α->List Value}(hk:∀x,(enc x).length=k)(d:Array α):(flatK enc k d).toList=(d.toList.map enc).flatten:=by
 have hl:∀cs∈d.toList.map enc,cs.length=k:=fun cs hcs=>by
  grind
 have CL:(d.toList.map enc).flatten.length=d.size*k:=by
  have:∀l:List α,(l.map enc).flatten.length=l.length*k:=fun l=>by
   induction l<;>grind [Nat.succ_mul]
  simp_all
 apply CU;intro t
 by_cases ht:t<d.size*k
 .have k0:0<k:=Nat.pos_of_ne_zero fun h=>by simp_all
  have h1:t / k<d.size:=by rw[Nat.div_lt_iff_lt_mul k0];exact ht
  have h2:t % k<k:=Nat.mod_lt _ k0;have e:t=t / k*k+t % k:=by grind [Nat.div_add_mod]
  rw[CF,Ds (by simpa using ht),<-Ol _ t (by simpa using ht),get_flatK _ _ _ _ ht]
  grind [Fz]
 simp_all
theorem zip_fst{α β:Type}:∀{l:List α} {m:List β},l.length=m.length->(l.zip m).map (·.1)=l/\(l.zip m).map (·.2)=m
 | [],[],_=>⟨rfl,rfl⟩
 |a::l,b::m,h=>by
  have:=zip_fst (l:=l) (m:=m) (by simp_all)
  simp_all
section
variable {P:Program}
theorem JE[Inhabited α]{f:Nat}{rest:List Value}(hE:Gl P f)(Dh:β->List AV)(enc:α->List Value)(hB:∀x,(Dh x).length=k)(hk:∀x,(enc x).length=k)(lt:α->α->Bool)(R:β->α->Prop)(l:List β)(hl:l.length<4611686018427387904)(hR:∀x∈l,∀(g:Gh) (w:World) (vs:List Value),Cg g w FN (Dh x) vs->∃a,enc a=vs/\R x a)(Co:∀(w:World) (b cap:Nat) (d:Array α),HoldsK enc k w b 0 d->b<w.heap.size->d.size<4611686018427387904->d.size=l.length->Calls P f (#[.slice (some ⟨b,0,none⟩) d.size cap]++rest.toArray) w fun e w'=>
   e=.returned (.tuple #[])/\∃d' n os,PermIn 0 d.size d d'/\SortedIn lt 0 d.size d'/\w'=sortWorldK enc k w b 0 n d' os)(AfS:l=[]->∀w:World,Calls P f (#[.slice none 0 0]++rest.toArray) w fun e w'=>e=.returned (.tuple #[])/\w'=w) :
  Bg P f (.msl 1000 l.length::rest.map .v) (Ai [(1000,.arr k (l.map Dh))] Af) fun r h'=>
   r=.tup []/\∃l' : List β,l'.Perm l/\(∃al:List α,al.length=l'.length/\(∀(i:Nat) (x:β) (a:α),l'[i]?=some x->al[i]?=some a->R x a)/\al.Pairwise (fun x y=>lt y x=false))/\h'=Ai [(1000,.arr k (l'.map Dh))] Af:=by
 have Jc:=QB (P:=P) (f:=f) (es:=l.map Dh) (sz:=k) (rest:=rest)
  (Q:=fun FU=>∃l' : List β,l'.Perm l/\(∃al:List α,al.length=l'.length/\(∀(i:Nat) (x:β) (a:α),l'[i]?=some x->al[i]?=some a->R x a)/\al.Pairwise (fun x y=>lt y x=false))/\FU=l'.map Dh) hE ?_ ?_
 .grind
 .simp_all
 .intro g w b cap F hr hF hH hb
  -- the elements in memory
  have uJ:∀(m:List β) (vs:List Value),(∀x∈m,x∈l)->Cg g w FN (m.map Dh).flatten vs->∃al:List α,al.length=m.length/\vs=(al.map enc).flatten/\∀(i:Nat) (x:β) (a:α),m[i]?=some x->al[i]?=some a->R x a:=by
   intro m
   induction m with
   |nil=>
    intro vs _ h
    have:vs=[]:=Ay (by simpa using h.1)
    simp_all
   |cons x m ih=>
    intro vs hm h;rw[Bo,Ck]at h;have CL:=h.1;rw[AD,hB]at CL;have e:vs=vs.take k++vs.drop k:=(List.take_append_drop k vs).symm;rw[e]at h;rw[Se (by grind)]at h;obtain⟨a,a1,a2⟩:=hR x (hm x (Ag ..)) g w _ h.1;obtain⟨al,b1,b2,b3⟩:=ih _ (fun y hy=>hm y (Aj _ hy)) h.2;refine⟨a::al,by grind,by grind,fun i y c q1 q2=>?_⟩
    grind
  obtain⟨al,s1,s2,s3⟩:=uJ l F.toList (fun _ h=>h) hr;have hFd:F=flatK enc k al.toArray:=Ta.1 (by grind [TT]);have hd:HoldsK enc k w b 0 al.toArray:=by grind [HoldsK]
  have hc:=Co w b cap al.toArray hd hb (by simp_all) Wk;have FI:al.toArray.size=(l.map Dh).length:=by simp_all
  rw[FI]at hc;refine hc.mono ?_
  rintro e w' ⟨rfl,d',n,os,p1,p2,rfl⟩
  obtain⟨z1,z2⟩:=zip_fst s1.symm;obtain⟨Adv,_,Je⟩:=p1;have Adv : d'.size=al.length:=by omega
  have e1:d'.extract 0 (l.map Dh).length=d':=by simp_all
  have e2:al.toArray.extract 0 (l.map Dh).length=al.toArray:=by grind
  rw[e1,e2]at Je;have Je:al.Perm d'.toList:=by
   first
   |exact Je.symm
   |exact Je
   |(have:=Je.symm;simpa using this)
  obtain⟨nM,r1,r2⟩:=MR Je (l.zip al) z2;have rel:∀p∈l.zip al,R p.1 p.2:=fun p hp=>by
   obtain⟨i,hi⟩:=Ed.1 hp;rw[List.getElem?_zip_eq_some]at hi
   grind
  refine⟨rfl,flatK enc k d',(nM.map (·.1)).map Dh,n,os,by simp_all,⟨nM.map (·.1),?_,⟨d'.toList,by grind,fun i x a q1 q2=>?_,?_⟩,rfl⟩,by have:=r1.length_eq;simp_all,fun cs hcs=>?_,fun g w hr=>?_,?_⟩
  .grind
  .rw[<-r2]at q2;rw[BK,B3]at q1 q2;obtain⟨p,q1,rfl⟩:=q1
   grind
  .rw[Cs];intro i j hi hj bD;have OU : i<d'.size:=by omega
   have hj' : j<d'.size:=by omega
   have:=p2 i j (Al _) bD Wk
   simp_all
  .obtain⟨x,_,rfl⟩:=Ar.1 hcs;simp_all
  .have h1:Cg g w FN ((l.zip al).map fun p=>Dh p.1).flatten ((l.zip al).map fun p=>enc p.2).flatten:=by
    have a1:(l.zip al).map (fun p=>Dh p.1)=l.map Dh:=by
     have:(l.zip al).map (fun p=>Dh p.1)=((l.zip al).map (·.1)).map Dh:=by rw[BX];rfl
     simp_all
    have a2:(l.zip al).map (fun p=>enc p.2)=al.map enc:=by
     have:(l.zip al).map (fun p=>enc p.2)=((l.zip al).map (·.2)).map enc:=by rw[BX];rfl
     simp_all
    simp_all
   have CL:∀(x:α) (y:β),(enc x).length=(Dh y).length:=fun x y=>by simp_all
   rw[Rj CL]at h1;have h2:=(Rj (g:=g) (w:=w) (U:=FN) CL nM).2 fun p hp=>h1 p (r1.mem_iff.1 hp);have b1:(nM.map (·.1)).map Dh=nM.map fun p=>Dh p.1:=by simp_all
   have b2:(flatK enc k d').toList=(nM.map fun p=>enc p.2).flatten:=by
    rw[TT hk,<-r2,BX];rfl
   grind
  .rfl
end
end Go.Eng
namespace Go.Eng
section
variable {P:Program}
theorem Bj{f:Nat}{fn:Func}{c:Code}{args:List AV}{H0:List (Nat×HO)}{Q:AV->(Nat->HO)->Prop}(cx:Cx)(σ:Jj)(hP:cx.P=P)(hT:B8 P cx.T)(hm:P.follows .mixedOrders=true)(hx:cx.ext=true)(hf:P.funcs[f]?=some fn)
  (hn : (fn.name == "runtime.NumGoroutine") = false) (hb : fn.body = some c) (hN : args.length <= fn.ntmps) (hc : EA fn.ntmps c = true) (hσ : (Hc σ && IK σ H0) = true)
  (hk:QD cx c (Zo cx fn.results.toList σ fun r h'=>∃r',Cj r r'/\Q r' h') ⟨Pt args,Ai H0 Af⟩) (hY:∀l σ g w,cx.yp l σ g w:=by exact fun _ _ _ _=>trivial):Bg P f args (Ai H0 Af) Q:=
 (lI cx σ hP hT hm hx hf hn hb hN hc hσ hk hY).mono fun _ _ ⟨r',s,q⟩=>⟨r',s,q⟩
end
end Go.Eng
