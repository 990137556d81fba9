/- Lemmas 13. -/
import Derived.Test.YtkjhcikodmiceaaGreatDoorRA12
import Derived.Below
import Derived.Sort.Grow
import Derived.Shelf.GgSortFunc.InsertionK
import Derived.ReadAgain
import Derived.RowKit
namespace Go.Eng
variable {fn:Func}{c:Code}{f:Nat}{K:AV->Prop}{res:AV}(cx:Cx)(vals:List Value)(r:AV)(σ:IC)
section
variable {P:Program}{N:Nat}{ds:List Deferred}{w0:World}{g0:Gh}{h0:Nat->HO}{st:St}{g:Gh}{a:Act}{w:World}
theorem X8{T:Gf}(hT:Cb P T){h:Nat->HO}(ho:∀r,DD g w (AI h) r (h r)){t:Nat}{p:AV}{vp:Value}(hp:A3 g w (AI h) p vp)(hk:I4 T h t p K) :
  ∃ad,(asAddr vp).run P w=.ok ad w/\Bs P h g w (loadVar t ad) K:=by
 obtain⟨x,av,h1,h2,h3⟩:=Vb ho hT hp hk;have fin:∀b off,vp=.pointer (some ⟨b,off,none⟩)->∃ad,(asAddr vp).run P w=.ok ad w/\Bs P h g w (loadVar t ad) K:=by
  rintro b off rfl
  refine⟨⟨b,off,none⟩,by simp[asAddr],x,av,?_,h2,h3⟩
  grind [Instr.loadAt,Instr.sureAddr]
 unfold I4 at hk;split at hk
 all_goals grind [cases A3]
def aS(tmps:Array Value):ResultVar->Sem Value
 |.tmp t=>pure (tmps.getD t undef)
 |.cell ad t=>do loadVar t (<-asAddr (tmps.getD ad undef))
theorem NQ(fn:Func)(tmps:Array Value):results fn tmps=(do
 let vs <-fn.results.mapM (aS tmps)
 pure (if h:vs.size=1 then vs[0]else .tuple vs)):=rfl
theorem Wx{cx:Cx}(hT:Cb P cx.T)(hS:SR N ds w0 g0 h0 st g a w):∀(rs:List ResultVar) {K:List AV->Prop},nx cx.T st rs K ->
  ∃l vs,K l/\(rs.mapM (aS a.tmps)).run P w=.ok vs w/\vs.length=l.length/\vs.length=rs.length /\
   ∀(i:Nat) (av:AV) (x:Value),l[i]?=some av->vs[i]?=some x->A3 g w DR av x
 | [],K,hk=>⟨[],[],hk,by simp,rfl,rfl,fun i av x h=>by simp_all⟩
 |.tmp t::r,K,hk=>by
  obtain⟨l,vs,h1,h2,h3,h4,h5⟩:=Wx hT hS r hk;refine⟨_,a.tmps.getD t undef::vs,h1,?_,by simp_all,by simp_all,fun i av x q1 q2=>?_⟩
  .grind [aS,Sem.run_bind,Sem.run_pure,Result.andThen_ok]
  .cases i with
   |zero=>
    simp only[Dw,Dq]at q1 q2;subst q1;subst q2;exact A3.str hS.inv.objs (hS.slots t)
   |succ i=>grind
 |.cell ad t::r,K,hk=>by
  obtain⟨addr,e1,x0,av0,e2,hk',e4⟩:=X8 hT hS.inv.objs (hS.slots ad) hk;obtain⟨l,vs,h1,h2,h3,h4,h5⟩:=Wx hT hS r hk';refine⟨_,x0::vs,h1,?_,by simp_all,by simp_all,fun i av x q1 q2=>?_⟩
  .grind [aS,Sem.run_bind,Sem.run_pure,Result.andThen_ok]
  .cases i with
   |zero=>
    simp only[Dw,Dq]at q1 q2;subst q1;subst q2;exact A3.str hS.inv.objs e4
   |succ i=>grind
theorem nw{cx:Cx}(hT:Cb P cx.T)(hS:SR N ds w0 g0 h0 st g a w)(hk:nv cx st fn.results.toList K) :
  ∃g' r v h',K r/\(results fn a.tmps).run P w=.ok v w/\CA w0 g0 h0 h' g' w/\Le h0 g0 w0 h' g' w/\A3 g' w DR r v:=by
 obtain⟨g',i1,i2⟩:=Mt cx.pl.fin hS.inv;have OA : SR N ds w0 g0 h0 ⟨st.t,Oy st.h cx.pl.fin⟩ g' a w:=⟨i1,hS.le.trans i2,hS.dfs,hS.size,fun i=>(hS.slots i).le i2⟩;obtain⟨l,vs,h1,h2,h3,h4,h5⟩:=Wx hT OA _ hk;have Cu:(results fn a.tmps).run P w=.ok (if h:vs.toArray.size=1 then vs.toArray[0]else .tuple vs.toArray) w:=by
  rw[NQ,show fn.results=fn.results.toList.toArray by simp,List.mapM_toArray];simp_all
 refine⟨g',?_⟩
 match l,vs,h1,h3,h5,Cu with
 | [v],[x],h1,h3,h5,Cu=>exact⟨v,x,_,h1,by simp_all,i1,OA.le,h5 0 v x rfl rfl⟩
 | [],vs,h1,h3,h5,Cu=>
  have:vs=[]:=AU h3
  subst this;exact⟨.tup [],.tuple #[],_,h1,by simp_all,i1,OA.le,.tup _ _ _ rfl fun i av x q=>by simp_all⟩
 |v::v' :: l,vs,h1,h3,h5,Cu=>
  refine⟨.tup (v::v' :: l),.tuple vs.toArray,_,h1,?_,i1,OA.le,.tup _ _ _ B0 fun i av x q1 q2=>h5 i av x q1 Wk⟩;simp_all
theorem CA.toFree(hI:CA w0 g0 Ad st.h g w):CA w0 g0 Ad Ad g w:=
 ⟨hI.os,hI.tape,hI.output,hI.size,hI.frame,hI.slt,fun _=>trivial,fun _ _ _ h=>h.elim,fun _ _ h=>h.elim,hI.sg,hI.glob⟩
theorem Om{U:Nat->Prop}{n:Nat}:∀{args:List AV} {vals:List Value},vals.length=args.length->(∀(i:Nat) (av:AV) (x:Value),args[i]?=some av->vals[i]?=some x->A3 g w U av x) ->
  ∀i,A3 g w U (Ol args i) ((vals++List.replicate n undef).getD i undef)
 | [],[],_,_,i=>by
  have:(([]:List Value)++List.replicate n undef).getD i undef=undef:=by
   grind
  rw[this];exact .v _ _
 | [],_::_,h,_,_=>by simp_all
 |_::_,[],h,_,_=>by simp_all
 |x::l,v::vs,h,hr,i=>by
  cases i with
  |zero=>exact hr 0 x v rfl rfl
  |succ i=>
   have:=Om (n:=n) (args:=l) (vals:=vs) Wk (fun i av x q1 q2=>hr (i+1) av x Wk Wk) i
   grind [Ol]
theorem gD {f : Nat}{args : List AV}{Q : AV -> Prop}(hP : cx.P = P)(hT : Cb P cx.T)(hm : P.follows .mixedOrders = true)(hx : cx.ext = false)(hf : P.funcs[f]? = some fn)(hn : (fn.name == "runtime.NumGoroutine") = false)(hb:fn.body=some c)(hN:args.length<=fn.ntmps)(hc:Ed fn.ntmps c=true)(hk:Rj cx c (qa cx fn.results.toList Q) ⟨Ol args,Ad⟩)(hY:∀l σ g w,cx.yp l σ g w:=by exact fun _ _ _ _=>trivial):Bd P f args Ad fun r h'=>h'=Ad/\Q r:=by
 refine⟨⟨fn,hf,hn,by simp_all⟩,fun g w vals hs hv hI=>calls_of_wp hf hb ?_⟩;have hU:AI Ad=DR:=by grind [AI,DR,Ad]
 have hS:SR fn.ntmps [] w g Ad ⟨Ol args,Ad⟩ g { tmps:=vals++Array.replicate (fn.ntmps-vals.size) undef,defers:=[] } w:=by
  refine⟨hI,.refl _ _ _,rfl,by simp_all,fun i=>?_⟩
  have:=Om (n:=fn.ntmps-vals.size) (args:=args) (vals:=vals.toList) B0 (fun i av x q1 q2=>hv i av x q1 Wk) i
  grind [Array.getD_eq_getD_getElem?,Array.toList_append,Array.toList_replicate]
 refine wpIn_wide.1 (Nr hP hT hm (by unfold KU;rw[hx];exact fun _=>rfl) (fun l σ _ _ w _ _ _=>hY l σ _ w) none c hc (fun e st g' a w' hk hS=>?_) hS hk);have out:nv cx st fn.results.toList Q->a.defers=[]/\∃v,(results fn a.tmps).run P w'=.ok v w'/\∃v' r h' g',(Ending.returned v:Ending)=.returned v'/\(h'=Ad/\Q r)/\A3 g' w' (AI h') r v'/\CA w g Ad h' g' w'/\Le Ad g w h' g' w':=by
  intro hk;obtain⟨g2,r,v,h',q1,q2,q3,q4,q5⟩:=nw hT hS hk;exact⟨hS.dfs,v,q2,v,r,Ad,g2,rfl,⟨rfl,q1⟩,by simp_all,CA.toFree (st:=⟨st.t,h'⟩) q3,⟨fun i hi=>absurd rfl hi,fun i hi=>absurd rfl hi,q4.keeps⟩⟩
 cases e with
 |normal=>exact out hk
 |ret=>exact out hk
 |exit id=>exact hk.elim
theorem RN{cx:Cx}(hT:Cb P cx.T)(hS:SR N ds w0 g0 h0 st g a w):∀(rs:List ResultVar) {K:List AV->Prop},ny cx.T st rs K ->
  ∃l vs,K l/\(rs.mapM (aS a.tmps)).run P w=.ok vs w/\vs.length=l.length/\vs.length=rs.length /\
   ∀(i:Nat) (av:AV) (x:Value),l[i]?=some av->vs[i]?=some x->A3 g w (AI st.h) av x
 | [],K,hk=>⟨[],[],hk,by simp,rfl,rfl,fun i av x h=>by simp_all⟩
 |.tmp t::r,K,hk=>by
  obtain⟨l,vs,h1,h2,h3,h4,h5⟩:=RN hT hS r hk;refine⟨_,a.tmps.getD t undef::vs,h1,?_,by simp_all,by simp_all,fun i av x q1 q2=>?_⟩
  all_goals grind [aS,Sem.run_bind,Sem.run_pure,Result.andThen_ok,SR.slots]
 |.cell ad t::r,K,hk=>by
  obtain⟨addr,e1,x0,av0,e2,hk',e4⟩:=X8 hT hS.inv.objs (hS.slots ad) hk;obtain⟨l,vs,h1,h2,h3,h4,h5⟩:=RN hT hS r hk';refine⟨_,x0::vs,h1,?_,by simp_all,by simp_all,fun i av x q1 q2=>?_⟩
  all_goals grind [aS,Sem.run_bind,Sem.run_pure,Result.andThen_ok]
theorem F5{σ:IC}:∀{H0:List (Nat×HO)},H7 σ H0=true->∀i,Ag H0 Ad i≠.free->1000<=i/\i<2000/\Cn σ i=some i
 | [],_,i,h=>absurd rfl h
 |(a,o)::r,hx,i,h=>by
  simp only[H7,Aj,N0,FD]at hx;obtain⟨⟨⟨h1,h2⟩,h3⟩,h4⟩:=hx
  by_cases e:i=a
  .grind [Nat.eq_of_beq_eq_true]
  .unfold Ag at h;simp only[Dx e,Gi]at h;exact F5 h4 i h
theorem On{H0:List (Nat×HO)}{σ:IC}(hσ:Gy σ=true)(hx:H7 σ H0=true){h:Nat->HO}(hI:CA w0 g0 (Ag H0 Ad) h g w)(hL:Le (Ag H0 Ad) g0 w0 h g w) :
  FE (Cn σ) h (Ff σ h) g (DB σ g) w/\CA w0 g0 (Ag H0 Ad) (Ff σ h) (DB σ g) w/\Le (Ag H0 Ad) g0 w0 (Ff σ h) (DB σ g) w:=by
 have inv:=Wl hσ;have Fi:∀j,Ff σ h j=match HD σ j with | some i=>(h i).ren (Cn σ) h | none=>.free:=Pa _ _ σ
 have hR:FE (Cn σ) h (Ff σ h) g (DB σ g) w:=by
  refine⟨fun r r' hr hu=>?_,fun b o=>Iff.rfl,hI.objs⟩
  grind [DB,AI,Md]
 have LO:∀j,(Ff σ h j).live->∃i,HD σ j=some i/\(h i).live:=fun j hl=>by
  rw[Fi]at hl;cases e:HD σ j with
  |none=>rw[e]at hl;exact hl.elim
  |some i=>grind [Mc]
 have PF:∀j i,HD σ j=some i->(DB σ g).own j=g.own i:=fun j i e=>by simp[DB,e]
 refine⟨hR,⟨hI.os,hI.tape,hI.output,hI.size,hI.frame,hI.slt,fun j=>?_,fun j j' b hl Pk e e'=>?_,fun j b hl e=>?_,hI.sg,hI.glob⟩,⟨fun i hi=>?_,fun i hi=>?_,hL.keeps⟩⟩
 .rw[Fi];cases e:HD σ j with
  |none=>trivial
  |some i=>
   by_cases hu:AI h i
   .grind [DD.ren,CA.objs]
   .have:h i=.free:=BZ.1 hu
    dsimp only;rw[this];trivial
 .obtain⟨i,e1,l1⟩:=LO j hl;obtain⟨i',e2,l2⟩:=LO j' Pk;rw[PF j i e1]at e;rw[PF j' i' e2]at e';obtain rfl:=hI.inj i i' b l1 l2 e e'
  have:=(inv i j).2 e1
  rw[(inv i j').2 e2]at this;simp_all
 .obtain⟨i,e1,l1⟩:=LO j hl;rw[PF j i e1]at e;exact hI.loc i b l1 e
 .obtain⟨_,_,hf⟩:=F5 hx i hi;have hb:=(inv i i).1 hf;have e1:(DB σ g).ρ i=g.ρ i/\(DB σ g).ln i=g.ln i/\(DB σ g).tk i=g.tk i:=by grind [DB]
  obtain⟨k1,k2,k3,k4⟩:=hL.gh i hi<;>simp_all
 .obtain⟨_,_,hf⟩:=F5 hx i hi;have hb:=(inv i i).1 hf;unfold AI;rw[Fi,hb];exact(Md _ _ _).2 (hL.us i hi)
theorem XE{f:Nat}{args:List AV}{H0:List (Nat×HO)}{Q:AV->(Nat->HO)->Prop}(hP:cx.P=P)(hT:Cb P cx.T)(hm:P.follows .mixedOrders=true)(hx:cx.ext=true)(hf:P.funcs[f]?=some fn)(_hn : (fn.name == "runtime.NumGoroutine") = false)(hb : fn.body = some c)(hN : args.length <= fn.ntmps)(hc : Ed fn.ntmps c = true)(hσ : (Gy σ && H7 σ H0) = true)(hk:Rj cx c (Xq cx fn.results.toList σ Q) ⟨Ol args,Ag H0 Ad⟩){g:Gh}{w:World}{vals:Array Value}(hs:vals.size=args.length)(hv:∀(i:Nat) (av:AV) (x:Value),args[i]?=some av->vals[i]?=some x->A3 g w (AI (Ag H0 Ad)) av x)(hI:CA w g (Ag H0 Ad) (Ag H0 Ad) g w)(hY:∀l σ h' g' w',D4 σ=true->CA w g (Ag H0 Ad) h' g' w'->Le (Ag H0 Ad) g w h' g' w'->cx.yp l σ (DB σ g') w') :
  Calls P f vals w fun e w'=>∃v r h' g',e=.returned v/\Q r h'/\A3 g' w' (AI h') r v/\CA w g (Ag H0 Ad) h' g' w'/\Le (Ag H0 Ad) g w h' g' w':=by
 simp only[Aj]at hσ;obtain⟨hσ,qE⟩:=hσ;refine calls_of_wp hf hb ?_;have hS:SR fn.ntmps [] w g (Ag H0 Ad) ⟨Ol args,Ag H0 Ad⟩ g { tmps:=vals++Array.replicate (fn.ntmps-vals.size) undef,defers:=[] } w:=by
  refine⟨hI,.refl _ _ _,rfl,by simp_all,fun i=>?_⟩
  have:=Om (n:=fn.ntmps-vals.size) (args:=args) (vals:=vals.toList) B0 (fun i av x q1 q2=>hv i av x q1 Wk) i
  grind [Array.getD_eq_getD_getElem?,Array.toList_append,Array.toList_replicate]
 refine wpIn_wide.1 (Nr hP hT hm (by unfold KU;rw[hx];exact fun i hi=>⟨(F5 qE i hi).1,(F5 qE i hi).2.1⟩) hY none c hc (fun e st g' a w' hk hS=>?_) hS hk);have out:fG cx st fn.results.toList σ Q->a.defers=[]/\∃v,(results fn a.tmps).run P w'=.ok v w'/\∃v' r h' g',(Ending.returned v:Ending)=.returned v'/\Q r h'/\A3 g' w' (AI h') r v'/\CA w g (Ag H0 Ad) h' g' w'/\Le (Ag H0 Ad) g w h' g' w':=by
  intro hk;obtain⟨g2,i1,i2⟩:=Mt cx.pl.fin hS.inv;have OA : SR fn.ntmps [] w g (Ag H0 Ad) ⟨st.t,Oy st.h cx.pl.fin⟩ g2 a w':=⟨i1,hS.le.trans i2,hS.dfs,hS.size,fun i=>(hS.slots i).le i2⟩;obtain⟨l,vs,h1,h2,h3,h4,h5⟩:=RN hT OA _ hk;obtain⟨hR,j1,j2⟩:=On hσ qE i1 OA.le;have Cu:(results fn a.tmps).run P w'=.ok (if h:vs.toArray.size=1 then vs.toArray[0]else .tuple vs.toArray) w':=by
   rw[NQ,show fn.results=fn.results.toList.toArray by simp,List.mapM_toArray];simp_all
  refine⟨hS.dfs,?_⟩
  match l,vs,h1,h3,h5,Cu with
  | [v],[x],h1,h3,h5,Cu=>exact⟨x,by simp_all,x,_,_,_,rfl,h1,(h5 0 v x rfl rfl).ren hR,j1,j2⟩
  | [],vs,h1,h3,h5,Cu=>
   have:vs=[]:=AU h3
   subst this;exact⟨.tuple #[],by simp_all,.tuple #[],_,_,_,rfl,h1,A3.ren hR (.tup _ [] _ rfl fun i av x q=>by simp_all),j1,j2⟩
  |v::v' :: l,vs,h1,h3,h5,Cu=>
   refine⟨.tuple vs.toArray,?_,.tuple vs.toArray,_,_,_,rfl,h1,A3.ren hR (.tup _ _ _ B0 fun i av x q1 q2=>h5 i av x q1 Wk),j1,j2⟩;simp_all
 cases e with
 |normal=>exact out hk
 |ret=>exact out hk
 |exit id=>exact hk.elim
theorem iD{f:Nat}{args:List AV}{H0:List (Nat×HO)}{Q:AV->(Nat->HO)->Prop}(hP:cx.P=P)(hT:Cb P cx.T)(hm:P.follows .mixedOrders=true)(hx:cx.ext=true)(hf:P.funcs[f]?=some fn)(hn : (fn.name == "runtime.NumGoroutine") = false)(hb : fn.body = some c)(hN : args.length <= fn.ntmps)(hc : Ed fn.ntmps c = true)(hσ : (Gy σ && H7 σ H0) = true)(hk:Rj cx c (Xq cx fn.results.toList σ Q) ⟨Ol args,Ag H0 Ad⟩)(hY:∀l σ g w,cx.yp l σ g w:=by exact fun _ _ _ _=>trivial):Bd P f args (Ag H0 Ad) Q:=
 ⟨⟨fn,hf,hn,by simp_all⟩,fun g w vals hs hv hI=>XE cx σ hP hT hm hx hf hn hb hN hc hσ hk hs hv hI (fun l σ _ _ w _ _ _=>hY l σ _ w)⟩
end
def DW(r':AV):Prop:=∀(g:Gh) (w:World) (U:Nat->Prop) (x:Value),A3 g w U r x->A3 g w U r' x
theorem DW.refl:DW r r:=fun _ _ _ _ h=>h
theorem DW.of_eq{r r' : AV}(h:r=r'):DW r r':=h▸.refl r
theorem DW.trans{a b c:AV}(h:DW a b)(k:DW b c):DW a c:=fun g w U x r=>k g w U x (h g w U x r)
theorem DW.nil:DW nzA (.slice .none []):=fun _ _ _ _ h=>by cases h;grind [A3.snil]
def Lg:List AV->List AV->Prop
 | [],[]=>True
 |a::r,b::s=>DW a b/\Lg r s
 |_,_=>False
theorem Lg.refl:∀l:List AV,Lg l l
 | []=>trivial
 |a::l=>⟨.refl a,Lg.refl l⟩
theorem Lg.len:∀{l l' : List AV},Lg l l'->l'.length=l.length
 | [],[],_=>rfl
 |_::_,_::_,h=>Ab (·+1) h.2.len
 | [],_::_,h=>h.elim
 |_::_,[],h=>h.elim
theorem Lg.get:∀{l l' : List AV},Lg l l'->∀(i:Nat) (b:AV),l'[i]?=some b->∃a,l[i]?=some a/\DW a b
 | [],[],_,i,b,h=>by simp_all
 |a::r,b::s,hs,i,c,h=>by
  cases i with
  |zero=>simp only[Dw,Dq]at h;subst h;exact⟨a,rfl,hs.1⟩
  |succ i=>exact Lg.get hs.2 i c (by simpa using h)
 | [],_::_,h,_,_,_=>h.elim
 |_::_,[],h,_,_,_=>h.elim
theorem DW.tup{l l' : List AV}(h:Lg l l'):DW (.tup l) (.tup l'):=fun g w U x r=>by
 cases r with
 |tup _ _ vs hs hr=>
  refine .tup _ _ vs (by rw[hs,h.len]) fun i av x q1 q2=>?_;obtain⟨a,e1,e2⟩:=h.get i av q1;exact e2 _ _ _ _ (hr i a x e1 q2)
theorem DW.agg{l l' : List AV}(h:Lg l l'):DW (.agg l) (.agg l'):=fun g w U x r=>by
 cases r with
 |agg _ _ vs hs h1 hr=>
  refine .agg _ _ vs (by rw[hs,h.len]) h1 fun i av x q1 q2=>?_;obtain⟨a,e1,e2⟩:=h.get i av q1;exact e2 _ _ _ _ (hr i a x e1 q2)
def VC:List (List AV)->List (List AV)->Prop
 | [],[]=>True
 |a::r,b::s=>Lg a b/\VC r s
 |_,_=>False
theorem VC.len:∀{l l' : List (List AV)},VC l l'->l'.length=l.length
 | [],[],_=>rfl
 |_::_,_::_,h=>Ab (·+1) h.2.len
 | [],_::_,h=>h.elim
 |_::_,[],h=>h.elim
theorem VC.get:∀{l l' : List (List AV)},VC l l'->∀(i:Nat) (b:List AV),l'[i]?=some b->∃a,l[i]?=some a/\Lg a b
 | [],[],_,i,b,h=>by simp_all
 |a::r,b::s,hs,i,c,h=>by
  cases i with
  |zero=>simp only[Dw,Dq]at h;subst h;exact⟨a,rfl,hs.1⟩
  |succ i=>exact VC.get hs.2 i c (by simpa using h)
 | [],_::_,h,_,_,_=>h.elim
 |_::_,[],h,_,_,_=>h.elim
theorem DW.slice{l l' : List (List AV)}(h:VC l l'):DW (.slice .none l) (.slice .none l'):=fun g w U x r=>by
 have CF:=h.len;cases r with
 |snil _ a cap=>
  grind [A3.snil]
 |slice _ _ b off sz cap val hc hl Dg DH=>
  rw[<-CF];refine .slice _ _ b off sz cap val B0 (fun i cs hi=>?_) (fun i cs j av hi hj=>?_) (fun i cs j av hi hj=>?_)
  .grind [VC.get,Lg.len]
  .grind [VC.get,Lg.get]
  .obtain⟨a,e1,e2⟩:=h.get i cs hi;obtain⟨c,f1,f2⟩:=e2.get j av hj;exact f2 _ _ _ _ (DH i a j c e1 f1)
section
variable {P:Program}
theorem Bd.mono{f:Nat}{args:List AV}{h0:Nat->HO}{Q Q' : AV->(Nat->HO)->Prop}(h:Bd P f args h0 Q)(hq:∀r h',Q r h'->∃r',DW r r'/\Q' r' h'):Bd P f args h0 Q':=
 ⟨h.1,fun g w vals q1 q2 q3=>(h.2 g w vals q1 q2 q3).mono fun _ _ ⟨v,r,h',g',e1,e2,e3,rest⟩=>
  let ⟨r',s,k⟩:=hq r h' e2
  ⟨v,r',h',g',e1,k,s _ _ _ _ e3,rest⟩⟩
theorem Bd.args{args args' : List AV}{h0:Nat->HO}{Q:AV->(Nat->HO)->Prop}(h:Bd P f args h0 Q)(hs:Lg args' args):Bd P f args' h0 Q:=
 ⟨h.1,fun g w vals q1 q2 q3=>h.2 g w vals (by rw[q1,hs.len]) (fun i av x e1 e2=>by
  obtain⟨a,f1,f2⟩:=hs.get i av e1;exact f2 _ _ _ _ (q2 i a x f1 e2)) q3⟩
theorem Ls.args{f:Nat}{args args' : List AV}{res:AV}(h:Ls P f args res)(hs:Lg args' args):Ls P f args' res:=Bd.args h hs
theorem CV {args : List AV}(hP : cx.P = P)(hT : Cb P cx.T)(hm : P.follows .mixedOrders = true)(hx : cx.ext = false)(hf : P.funcs[f]? = some fn)(hn : (fn.name == "runtime.NumGoroutine") = false)(hb:fn.body=some c)(hN:args.length<=fn.ntmps)(hc:Ed fn.ntmps c=true)(hk:Rj cx c (qa cx fn.results.toList fun r=>DW r res) ⟨Ol args,Ad⟩)(hY:∀l σ g w,cx.yp l σ g w:=by exact fun _ _ _ _=>trivial):Ls P f args res:=
 (gD cx hP hT hm hx hf hn hb hN hc hk hY).mono fun _ _ ⟨e1,e2⟩=>⟨res,e2,rfl,e1⟩
end
section
variable {P:Program}
theorem Py (hf : P.funcs[f]? = some fn)(hn : (fn.name == "runtime.NumGoroutine") = false)(hb : fn.body = some c) : FN P f := ⟨fn, hf, hn, by simp_all⟩
theorem KL{args:List AV}(v:Value)(hE:FN P f)(ha:args=vals.map .v)(ua:∀g w,A3 g w DR res v)(h:∀w,(∃m,w.cell? ⟨gB,0,none⟩=some (.int .i64 m))->Calls P f vals.toArray w fun e w'=>e=.returned v/\w'=w):Ls P f args res:=by
 refine⟨hE,fun g w us hs hv hI=>?_⟩;have hu:us=vals.toArray:=by
  subst ha;rw[AW]at hs;refine Jj B0 fun i h1 h2=>?_
  have:=hv i (.v (vals[i]' B0)) us[i] Wk Wk
  grind [A3.v_eq]
 subst hu;refine(h w hI.glob.1.2).mono ?_
 rintro e w' ⟨rfl,rfl⟩
 grind [A3.up,Le.refl]
theorem j9{g:Gh}{w:World}:∀(vs:List Value),A3 g w DR (.tup (vs.map .v)) (.tuple vs.toArray):=fun vs=>
 .tup _ _ _ aa0 fun i av x h1 h2=>by
  grind [A3.v]
theorem fM{args:List AV}(es:List Value)(T:TypeId)(hE:FN P f)(ha:args=vals.map .v)(h1:∀x∈es,x.oneCell'=true)(h:∀w,(∃m,w.cell? ⟨gB,0,none⟩=some (.int .i64 m))->Calls P f vals.toArray w fun e w'=>e=.returned (.slice (some ⟨w.heap.size,0,none⟩) es.length es.length)/\w'=w.alloc (.cells es.toArray T)) :
  Ls P f args (.slice .none (es.map fun x=>[.v x])):=by
 refine⟨hE,fun g w us hs hv hI=>?_⟩;have hu:us=vals.toArray:=by
  subst ha;rw[AW]at hs;refine Jj B0 fun i h1 h2=>?_
  have:=hv i (.v (vals[i]' B0)) us[i] Wk Wk
  grind [A3.v_eq]
 subst hu;refine(h w hI.glob.1.2).mono ?_
 rintro e w' ⟨rfl,rfl⟩
 have Db:(w.alloc (.cells es.toArray T)).heap[w.heap.size]?=some (.cells es.toArray T (0,0)):=GE w _ rfl;have ai:∀b,b<w.heap.size->(w.alloc (.cells es.toArray T)).heap[b]?=w.heap[b]?:=fun b hb=>heap_alloc_old _ _ hb;have hK:D2 g w ⟨g.ρ,g.ln,g.tk,g.own,g.more w.heap.size es.length⟩ (w.alloc (.cells es.toArray T)):=fun b o hb=>by
  have BW:=hI.slt b o hb;exact⟨.inl hb,by grind [World.cell?],fun es ck he=>(ai b BW).trans he⟩
 refine⟨_,_,Ad,⟨g.ρ,g.ln,g.tk,g.own,g.more w.heap.size es.length⟩,rfl,⟨rfl,rfl⟩,?_,⟨rfl,rfl,rfl,?_,fun b hb _=>ai b hb,fun b o hs=>?_,fun _=>trivial,fun _ _ _ h=>h.elim,fun _ _ h=>h.elim,fun b o hs=>?_,hI.glob.keep hK⟩,⟨.refl _ _,fun _ h=>h,hK⟩⟩
 .have hr:Cg ⟨g.ρ,g.ln,g.tk,g.own,g.more w.heap.size es.length⟩ (w.alloc (.cells es.toArray T)) DR (es.map fun x=>[AV.v x]).flatten (es.toArray.toList.take ((es.map fun x=>[AV.v x]).length*1)):=by
   have hfl:∀l:List Value,(l.map fun x=>[AV.v x]).flatten=l.map .v:=fun l=>by
    induction l<;>simp_all
   rw[hfl];simp only[AW,Nat.mul_one,Dh];refine⟨by simp,fun x hx=>h1 x B0,fun i av x q1 q2=>?_⟩
   grind [A3.v]
  have:=A3.slice_row (U:=AI Ad) (cap:=es.length) (sz:=1) (es:=es.map fun x=>[AV.v x]) Db (fun cs hcs=>by
   grind) aa0 hr (fun o ho=>.inr ⟨rfl,by simp_all⟩)
  simp_all
 .simp_all
 .rw[World.size_alloc];rcases hs with hs | ⟨rfl,_⟩
  .have:=hI.slt b o hs;omega
  .omega
 .rcases hs with hs | ⟨rfl,_⟩<;>simp_all
end
end Go.Eng
namespace Go.Eng
open Go.RowKit
end Go.Eng
namespace Go.Eng
open Go.Sort
section
variable {P:Program}
theorem Na(F c:Array Value)(h:F.size<=c.size):(putCells id 0 F c).toList.take F.size=F.toList/\(putCells id 0 F c).size=c.size:=by
 have hs:(putCells id 0 F c).size=c.size:=by simp[putCells]
 refine⟨?_,hs⟩;apply Cr
 grind [putCells]
theorem SO(r:Nat)(o o' : HO):AP (Ag [(r,o)] Ad) r o'=Ag [(r,o')] Ad:=by
 grind [A2,Ag,BQ,Dx,Nat.beq_refl]
theorem Po{f:Nat}{es:List (List AV)}{sz:Nat}{rest:List Value}{Q:List (List AV)->Prop}(hE:FN P f)
  (h0:es=[]->Q []/\∀w,Calls P f (#[.slice none 0 0]++rest.toArray) w fun e w'=>e=.returned (.tuple #[])/\w'=w)
  (h1:∀(g:Gh) (w:World) (b cap:Nat) (F:Array Value),Cg g w DR es.flatten F.toList->F.size=es.length*sz->Holds id w b 0 F->b<w.heap.size->Calls P f (#[.slice (some ⟨b,0,none⟩) es.length cap]++rest.toArray) w fun e w'=>
   e=.returned (.tuple #[])/\∃(F' : Array Value) (Fp : List (List AV)) (n:Nat) (os:Array Obj),F'.size=F.size/\Q Fp/\Fp.length=es.length/\(∀cs∈Fp,cs.length=sz) /\
    (∀(g:Gh) (w:World),Cg g w DR es.flatten F.toList->Cg g w DR Fp.flatten F'.toList)/\w'=grow (putRow id (Sort.ahead w n) b 0 F') os) :
  Bd P f (.msl 1000 es.length::rest.map .v) (Ag [(1000,.arr sz es)] Ad) fun r h'=>r=.tup []/\∃Fp,Q Fp/\h'=Ag [(1000,.arr sz Fp)] Ad:=by
 refine⟨hE,fun g w us hs hv hI=>?_⟩;have ho:=hI.objs 1000;have he:Ag [(1000,HO.arr sz es)] Ad 1000=.arr sz es:=rfl;rw[he]at ho;obtain⟨t1,l1,al,a2⟩:=ho;simp only[AF,AW]at hs
 -- the arguments
 have rU:0<us.size:=B0
 have hr0:=hv 0 (.msl 1000 es.length) us[0] rfl (BG rU);have hval:us[0]=g.ρ 1000:=by
  grind [cases A3]
 have LQ:us=#[g.ρ 1000]++rest.toArray:=by
  refine Jj Wk fun i h1 h2=>?_;cases i with
  |zero=>simp_all
  |succ i=>
   have hi:i<rest.length:=B0
   have:=hv (i+1) (.v rest[i]) us[i+1] Wk (BG h1)
   rw[this.v_eq];simp
 rw[LQ];rcases a2 with ⟨b1,b2,b3⟩ | ⟨b,cap,E,vs,b1,b2,b3,b4,b5,b6,b7⟩
 .subst b1;obtain⟨q,h0⟩:=h0 rfl;rw[b2];refine(h0 w).mono ?_
  rintro e w' ⟨rfl,rfl⟩
  grind [A3.tup,Le.refl]
 .have hl:(Ag [(1000,HO.arr sz es)] Ad 1000).live:=trivial;have BW:=(hI.loc 1000 b hl b2).1;have Ig:es.length*sz<=vs.size:=by rw[b5];exact AZ _ b3
  have hF:((vs.toList.take (es.length*sz)).toArray).size=es.length*sz:=Wk
  have hH:Holds id w b 0 (vs.toList.take (es.length*sz)).toArray:=fun j hj=>by
   grind [World.cell?,World.frozen?]
  rw[b1];refine(h1 g w b cap _ B0 hF hH BW).mono ?_
  rintro e w' ⟨rfl,F',Fp,n,os,f1,f2,f3,f4,f5,rfl⟩
  have s8 : F'.size=es.length*sz:=f1.trans hF;have wq:=Na F' vs B0;have bJ : (grow (putRow id (Sort.ahead w n) b 0 F') os).heap[b]?=some (.cells (putCells id 0 F' vs) E (0,0)):=by
   rw[heap_grow_old _ _ Wk];show(w.heap.modify b (onCells (putCells id 0 F')))[b]?=_;rw[BV,As rfl,b4];rfl
  have Pl:∀k,k<w.heap.size->k≠b->(grow (putRow id (Sort.ahead w n) b 0 F') os).heap[k]?=w.heap[k]?:=fun k hk CU=>by
   rw[heap_grow_old _ _ Wk];simp[putRow,mapBlock,Array.getElem?_modify,Ne.symm CU]
  have EQ:w.heap.size<=(grow (putRow id (Sort.ahead w n) b 0 F') os).heap.size:=Wk
  obtain⟨k1,k2⟩:=hI.upd 1000 (.arr sz Fp) (g.ρ 1000) (g.ln 1000) (g.tk 1000) (g.own 1000) g.S (grow (putRow id (Sort.ahead w n) b 0 F') os) (some b) ⟨rfl,rfl,rfl,EQ⟩
   (fun k hk CU=>Pl k hk (fun e=>CU (by rw[e]))) (fun b' e=>by cases e;exact⟨hl,b2⟩) (fun _ _ h=>h) (fun _ _ h=>.inl h) (fun b' o e hs=>by cases e;exact absurd hs (b7 o))
   (fun b' _ e=>by rw[b2]at e;cases e;exact⟨AA BW EQ,.inl ⟨hl,b2⟩⟩) aa0 (fun _=>⟨rfl,Ai _,fun _=>rfl,fun _=>rfl⟩) (fun hg hk=>by
    refine⟨by simp[Gh.upd,t1],by simp[Gh.upd,l1,f3],f4,.inr ⟨b,cap,E,_,by simp[Gh.upd,b1,f3],by simp[Gh.upd,b2],by omega,bJ,by rw[wq.2,b5],?_,b7⟩⟩
    have:=f5 g w (by simpa using b6)
    rw[f3,<-s8,wq.1];exact this.mono hk (fun _ h=>h) (fun _ h=>h.elim))
  rw[SO]at k1 k2;exact⟨_,.tup [],_,_,rfl,⟨rfl,Fp,f2,rfl⟩,.tup _ _ _ rfl (fun i av x h=>by simp at h),k1,k2⟩
end
end Go.Eng
namespace Go.Eng
open Go.Sort Go.Proofs
variable {α β:Type}{k:Nat}
theorem Ra{g:Gh}{w:World}{U:Nat->Prop}{cs Xk : List AV}{vs gz : List Value}(h:vs.length=cs.length):Cg g w U (cs++Xk) (vs++gz)↔Cg g w U cs vs/\Cg g w U Xk gz:=by
 constructor
 .intro⟨h1,h2,h3⟩;refine⟨⟨h,fun x hx=>h2 x (Bw _ hx),fun i av x q1 q2=>?_⟩,⟨by simp_all,fun x hx=>h2 x (Ca _ hx),fun i av x q1 q2=>?_⟩⟩
  .have a1:=(AE.1 q1).1;have a2:=(AE.1 q2).1;exact h3 i av x aa1 aa1
  .exact h3 (cs.length+i) av x aa1 aa1
 .intro⟨⟨h1,h2,h3⟩,k1,k2,k3⟩;refine⟨by simp_all,fun x hx=>(Bk.1 hx).elim (h2 x) (k2 x),fun i av x q1 q2=>?_⟩
  grind
theorem Qd{α β:Type}{g:Gh}{w:World}{U:Nat->Prop}{IH:β->List AV}{enc:α->List Value}(hl:∀x y,(enc x).length=(IH y).length):∀ps:List (β×α),
  Cg g w U (ps.map fun p=>IH p.1).flatten (ps.map fun p=>enc p.2).flatten↔∀p∈ps,Cg g w U (IH p.1) (enc p.2)
 | []=>by simp[Cg]
 |p::ps=>by
  simp only[Bb,By];rw[Ra (hl _ _),Qd hl ps];simp
theorem Ma{f:α->β}:∀{m m' : List β},m.Perm m'->∀ps:List α,ps.map f=m->∃jZ : List α,jZ.Perm ps/\jZ.map f=m':=by
 intro m m' h
 induction h with
 |nil=>simp_all
 |cons x h ih=>
  intro ps e;cases ps with
  |nil=>cases e
  |cons p ps=>
   rw[Bb]at e
   injection e with e1 e2
   obtain⟨jZ,h1,h2⟩:=ih ps e2;exact⟨p::jZ,h1.cons p,by simp_all⟩
 |swap x y l=>
  intro ps e
  match ps,e with
  |p::q::ps,e=>
   grind [List.Perm.swap]
 |trans h1 h2 ih1 ih2=>
  grind [List.Perm.trans]
theorem SC[Inhabited α]{enc:α->List Value}(hk:∀x,(enc x).length=k)(d:Array α):(flatK enc k d).toList=(d.toList.map enc).flatten:=by
 have hl:∀cs∈d.toList.map enc,cs.length=k:=fun cs hcs=>by
  grind
 have CF:(d.toList.map enc).flatten.length=d.size*k:=by
  have:∀l:List α,(l.map enc).flatten.length=l.length*k:=fun l=>by
   induction l<;>grind [Nat.succ_mul]
  simp_all
 apply Cr;intro t
 by_cases ht:t<d.size*k
 .have k0:0<k:=Nat.pos_of_ne_zero fun h=>by simp_all
  have h1:t / k<d.size:=by rw[Nat.div_lt_iff_lt_mul k0];exact ht
  have h2:t % k<k:=Nat.mod_lt _ k0;have e:t=t / k*k+t % k:=by grind [Nat.div_add_mod]
  rw[Be,BG (by simpa using ht),<-NA _ t (by simpa using ht),get_flatK _ _ _ _ ht]
  grind [E1]
 simp_all
theorem zip_fst{α β:Type}:∀{l:List α} {m:List β},l.length=m.length->(l.zip m).map (·.1)=l/\(l.zip m).map (·.2)=m
 | [],[],_=>⟨rfl,rfl⟩
 |a::l,b::m,h=>by
  have:=zip_fst (l:=l) (m:=m) Wk
  simp_all
section
variable {P:Program}
theorem IY[Inhabited α]{f:Nat}{rest:List Value}(hE:FN P f)(IH:β->List AV)(enc:α->List Value)(hB:∀x,(IH x).length=k)(hk:∀x,(enc x).length=k)(lt:α->α->Bool)(R:β->α->Prop)(l:List β)(hl:l.length<4611686018427387904)(hR:∀x∈l,∀(g:Gh) (w:World) (vs:List Value),Cg g w DR (IH x) vs->∃a,enc a=vs/\R x a)(Cj:∀(w:World) (b cap:Nat) (d:Array α),HoldsK enc k w b 0 d->b<w.heap.size->d.size<4611686018427387904->d.size=l.length->Calls P f (#[.slice (some ⟨b,0,none⟩) d.size cap]++rest.toArray) w fun e w'=>
   e=.returned (.tuple #[])/\∃d' n os,PermIn 0 d.size d d'/\SortedIn lt 0 d.size d'/\w'=sortWorldK enc k w b 0 n d' os)(Abx:l=[]->∀w:World,Calls P f (#[.slice none 0 0]++rest.toArray) w fun e w'=>e=.returned (.tuple #[])/\w'=w) :
  Bd P f (.msl 1000 l.length::rest.map .v) (Ag [(1000,.arr k (l.map IH))] Ad) fun r h'=>
   r=.tup []/\∃l' : List β,l'.Perm l/\(∃al:List α,al.length=l'.length/\(∀(i:Nat) (x:β) (a:α),l'[i]?=some x->al[i]?=some a->R x a)/\al.Pairwise (fun x y=>lt y x=false))/\h'=Ag [(1000,.arr k (l'.map IH))] Ad:=by
 have Ix:=Po (P:=P) (f:=f) (es:=l.map IH) (sz:=k) (rest:=rest)
  (Q:=fun Fp=>∃l' : List β,l'.Perm l/\(∃al:List α,al.length=l'.length/\(∀(i:Nat) (x:β) (a:α),l'[i]?=some x->al[i]?=some a->R x a)/\al.Pairwise (fun x y=>lt y x=false))/\Fp=l'.map IH) hE ?_ ?_
 .grind
 .simp_all
 .intro g w b cap F hr hF hH hb
  -- the elements in memory
  have qC:∀(m:List β) (vs:List Value),(∀x∈m,x∈l)->Cg g w DR (m.map IH).flatten vs->∃al:List α,al.length=m.length/\vs=(al.map enc).flatten/\∀(i:Nat) (x:β) (a:α),m[i]?=some x->al[i]?=some a->R x a:=by
   intro m
   induction m with
   |nil=>
    intro vs _ h
    have:vs=[]:=AU (by simpa using h.1)
    simp_all
   |cons x m ih=>
    intro vs hm h;rw[Bb,By]at h;have CF:=h.1;rw[Aa,hB]at CF;have e:vs=vs.take k++vs.drop k:=(HA k vs).symm;rw[e]at h;rw[Ra aa1]at h;obtain⟨a,a1,a2⟩:=hR x (hm x (Ae ..)) g w _ h.1;obtain⟨al,b1,b2,b3⟩:=ih _ (fun y hy=>hm y (Ah _ hy)) h.2;refine⟨a::al,by grind,by grind,fun i y c q1 q2=>?_⟩
    grind
  obtain⟨al,s1,s2,s3⟩:=qC l F.toList (fun _ h=>h) hr;have hFd:F=flatK enc k al.toArray:=K7.1 (by grind [SC]);have hd:HoldsK enc k w b 0 al.toArray:=by grind [HoldsK]
  have hc:=Cj w b cap al.toArray hd hb Wk B0;have EQ:al.toArray.size=(l.map IH).length:=Wk
  rw[EQ]at hc;refine hc.mono ?_
  rintro e w' ⟨rfl,d',n,os,p1,p2,rfl⟩
  obtain⟨z1,z2⟩:=zip_fst s1.symm;obtain⟨zy,_,Iy⟩:=p1;have zy : d'.size=al.length:=B0
  have e1:d'.extract 0 (l.map IH).length=d':=Wk
  have e2:al.toArray.extract 0 (l.map IH).length=al.toArray:=aa1
  rw[e1,e2]at Iy;have Iy:al.Perm d'.toList:=by
   first
   |exact Iy.symm
   |exact Iy
   |(have:=Iy.symm;simpa using this)
  obtain⟨jZ,r1,r2⟩:=Ma Iy (l.zip al) z2;have rel:∀p∈l.zip al,R p.1 p.2:=fun p hp=>by
   obtain⟨i,hi⟩:=A6.1 hp;rw[List.getElem?_zip_eq_some]at hi
   grind
  refine⟨rfl,flatK enc k d',(jZ.map (·.1)).map IH,n,os,by simp_all,⟨jZ.map (·.1),?_,⟨d'.toList,by grind,fun i x a q1 q2=>?_,?_⟩,rfl⟩,by have:=r1.length_eq;simp_all,fun cs hcs=>?_,fun g w hr=>?_,?_⟩
  .grind
  .rw[<-r2]at q2;rw[BE,B1]at q1 q2;obtain⟨p,q1,rfl⟩:=q1
   grind
  .rw[BT];intro i j hi hj Wd;have LN : i<d'.size:=B0
   have wd : j<d'.size:=B0
   have:=p2 i j (Ao _) Wd B0
   simp_all
  .obtain⟨x,_,rfl⟩:=Ar.1 hcs;simp_all
  .have h1:Cg g w DR ((l.zip al).map fun p=>IH p.1).flatten ((l.zip al).map fun p=>enc p.2).flatten:=by
    have a1:(l.zip al).map (fun p=>IH p.1)=l.map IH:=by
     have:(l.zip al).map (fun p=>IH p.1)=((l.zip al).map (·.1)).map IH:=by rw[BI];rfl
     simp_all
    have a2:(l.zip al).map (fun p=>enc p.2)=al.map enc:=by
     have:(l.zip al).map (fun p=>enc p.2)=((l.zip al).map (·.2)).map enc:=by rw[BI];rfl
     simp_all
    simp_all
   have CF:∀(x:α) (y:β),(enc x).length=(IH y).length:=fun x y=>by simp_all
   rw[Qd CF]at h1;have h2:=(Qd (g:=g) (w:=w) (U:=DR) CF jZ).2 fun p hp=>h1 p (r1.mem_iff.1 hp);have b1:(jZ.map (·.1)).map IH=jZ.map fun p=>IH p.1:=Wk
   have b2:(flatK enc k d').toList=(jZ.map fun p=>enc p.2).flatten:=by
    rw[SC hk,<-r2,BI];rfl
   grind
  .rfl
end
end Go.Eng
namespace Go.Eng
section
variable {P:Program}
theorem Bm{f:Nat}{fn:Func}{c:Code}{args:List AV}{H0:List (Nat×HO)}{Q:AV->(Nat->HO)->Prop}(cx:Cx)(σ:IC)(hP:cx.P=P)(hT:Cb P cx.T)(hm:P.follows .mixedOrders=true)(hx:cx.ext=true)(hf:P.funcs[f]?=some fn)
  (hn : (fn.name == "runtime.NumGoroutine") = false) (hb : fn.body = some c) (hN : args.length <= fn.ntmps) (hc : Ed fn.ntmps c = true) (hσ : (Gy σ && H7 σ H0) = true)
  (hk:Rj cx c (Xq cx fn.results.toList σ fun r h'=>∃r',DW r r'/\Q r' h') ⟨Ol args,Ag H0 Ad⟩) (hY:∀l σ g w,cx.yp l σ g w:=by exact fun _ _ _ _=>trivial):Bd P f args (Ag H0 Ad) Q:=
 (iD cx σ hP hT hm hx hf hn hb hN hc hσ hk hY).mono fun _ _ ⟨r',s,q⟩=>⟨r',s,q⟩
end
end Go.Eng
namespace Go.Eng
open Go.Sort
theorem Cg.append{g:Gh}{w:World}{U:Nat->Prop}{Ug bs:List AV}{xs ys:List Value}(h:Cg g w U Ug xs)(k:Cg g w U bs ys):Cg g w U (Ug++bs) (xs++ys):=by
 refine⟨by rw[Aa,Aa,h.1,k.1],fun x hx=>?_,fun i av x q1 q2=>?_⟩
 .rcases Bk.1 hx with hx | hx
  .exact h.2.1 x hx
  .exact k.2.1 x hx
 .have hl:=h.1
  by_cases hi:i<Ug.length
  .rw[B8 hi]at q1;rw[B8 B0]at q2;exact h.2.2 i av x q1 q2
  .rw[Bf B0]at q1;rw[Bf B0,hl]at q2;exact k.2.2 _ av x q1 q2
theorem Cg.take{g:Gh}{w:World}{U:Nat->Prop}{Ug:List AV}{xs:List Value}(h:Cg g w U Ug xs)(k:Nat):Cg g w U (Ug.take k) (xs.take k):=by
 refine⟨by rw[Bv,Bv,h.1],fun x hx=>h.2.1 x (EZ hx),fun i av x q1 q2=>?_⟩;rw[List.getElem?_take]at q1 q2;split at q1
 .rename_i hi;rw[As hi]at q2;exact h.2.2 i av x q1 q2
 simp_all
theorem Cg.drop{g:Gh}{w:World}{U:Nat->Prop}{Ug:List AV}{xs:List Value}(h:Cg g w U Ug xs)(k:Nat):Cg g w U (Ug.drop k) (xs.drop k):=by
 refine⟨by rw[ES,ES,h.1],fun x hx=>h.2.1 x (H1 hx),fun i av x q1 q2=>?_⟩;rw[ER]at q1 q2;exact h.2.2 _ av x q1 q2
theorem Kx{α:Type}{k:Nat}:∀(es:List (List α)) (i:Nat),(∀e∈es,e.length=k)->es.flatten.take (i*k)=(es.take i).flatten
 | [],i,_=>by simp
 |e::es,0,_=>by simp
 |e::es,i+1,h=>by
  have he:=h e (Ae ..);rw[By,List.take_succ_cons,By,List.take_append,<-Kx es i fun x hx=>h x (Ah _ hx),Bj aa1,he,show(i+1)*k-k=i*k by grind]
theorem Ou{α:Type}{k:Nat}:∀(es:List (List α)) (i:Nat),(∀e∈es,e.length=k)->es.flatten.drop (i*k)=(es.drop i).flatten
 | [],i,_=>by simp
 |e::es,0,_=>by simp
 |e::es,i+1,h=>by
  have he:=h e (Ae ..);rw[By,List.drop_succ_cons,List.drop_append,<-Ou es i fun x hx=>h x (Ah _ hx),Fo aa1,he,show(i+1)*k-k=i*k by grind,Fc]
section
variable {P:Program}
theorem Uu{f:Nat}{es:List (List AV)}{sz:Nat}{rest:List Value}{n' : Nat}{Q:List (List AV)->Prop}(hE:FN P f)(CU:es≠[])(bS : n'<=es.length)
  (h1:∀(g:Gh) (w:World) (b cap:Nat) (F:Array Value),Cg g w DR es.flatten F.toList->F.size=es.length*sz->Holds id w b 0 F->b<w.heap.size->es.length<=cap->Calls P f (#[.slice (some ⟨b,0,none⟩) es.length cap]++rest.toArray) w fun e w'=>
   e=.returned (.slice (some ⟨b,0,none⟩) n' cap)/\∃(F' : Array Value) (Fp : List (List AV)) (n:Nat) (os:Array Obj),F'.size=F.size/\Q Fp/\Fp.length=es.length/\(∀cs∈Fp,cs.length=sz) /\
    (∀(g:Gh) (w:World),Cg g w DR es.flatten F.toList->Cg g w DR Fp.flatten F'.toList)/\w'=grow (putRow id (Sort.ahead w n) b 0 F') os) :
  Bd P f (.msl 1000 es.length::rest.map .v) (Ag [(1000,.arr sz es)] Ad) fun r h'=>r=.msl 2000 n'/\∃Fp,Q Fp/\h'=Ag [(1000,.dead),(2000,.arr sz (Fp.take n'))] Ad:=by
 refine⟨hE,fun g w us hs hv hI=>?_⟩;have ho:=hI.objs 1000;have he:Ag [(1000,HO.arr sz es)] Ad 1000=.arr sz es:=rfl;rw[he]at ho;obtain⟨t1,l1,al,a2⟩:=ho;simp only[AF,AW]at hs;have rU:0<us.size:=B0
 have hr0:=hv 0 (.msl 1000 es.length) us[0] rfl (BG rU);have hval:us[0]=g.ρ 1000:=by
  grind [cases A3]
 have LQ:us=#[g.ρ 1000]++rest.toArray:=by
  refine Jj Wk fun i h1 h2=>?_;cases i with
  |zero=>simp_all
  |succ i=>
   have hi:i<rest.length:=B0
   have:=hv (i+1) (.v rest[i]) us[i+1] Wk (BG h1)
   rw[this.v_eq];simp
 rw[LQ];rcases a2 with ⟨b1,b2,b3⟩ | ⟨b,cap,E,vs,b1,b2,b3,b4,b5,b6,b7⟩
 .simp_all
 .have hl:(Ag [(1000,HO.arr sz es)] Ad 1000).live:=trivial;have BW:=(hI.loc 1000 b hl b2).1;have Ig:es.length*sz<=vs.size:=by rw[b5];exact AZ _ b3
  have hF:((vs.toList.take (es.length*sz)).toArray).size=es.length*sz:=Wk
  have hH:Holds id w b 0 (vs.toList.take (es.length*sz)).toArray:=fun j hj=>by
   grind [World.cell?,World.frozen?]
  rw[b1];refine(h1 g w b cap _ B0 hF hH BW b3).mono ?_
  rintro e w' ⟨rfl,F',Fp,n,os,f1,f2,f3,f4,f5,rfl⟩
  have s8 : F'.size=es.length*sz:=f1.trans hF;have wq:=Na F' vs B0;have bJ : (grow (putRow id (Sort.ahead w n) b 0 F') os).heap[b]?=some (.cells (putCells id 0 F' vs) E (0,0)):=by
   rw[heap_grow_old _ _ Wk];show(w.heap.modify b (onCells (putCells id 0 F')))[b]?=_;rw[BV,As rfl,b4];rfl
  have Pl:∀k,k<w.heap.size->k≠b->(grow (putRow id (Sort.ahead w n) b 0 F') os).heap[k]?=w.heap[k]?:=fun k hk CU=>by
   rw[heap_grow_old _ _ Wk];simp[putRow,mapBlock,Array.getElem?_modify,Ne.symm CU]
  have EQ:w.heap.size<=(grow (putRow id (Sort.ahead w n) b 0 F') os).heap.size:=Wk
  obtain⟨k1,k2⟩:=hI.upd 1000 (.arr sz Fp) (g.ρ 1000) (g.ln 1000) (g.tk 1000) (g.own 1000) g.S (grow (putRow id (Sort.ahead w n) b 0 F') os) (some b) ⟨rfl,rfl,rfl,EQ⟩
   (fun k hk CU=>Pl k hk (fun e=>CU (by rw[e]))) (fun b' e=>by simp_all) (fun _ _ h=>h) (fun _ _ h=>.inl h) (fun b' o e hs=>by simp_all)
   (fun b' _ e=>by grind) aa0 (fun _=>⟨rfl,Ai _,fun _=>rfl,fun _=>rfl⟩) (fun hg hk=>by
    refine⟨by grind [Gh.upd],by grind [Gh.upd],f4,.inr ⟨b,cap,E,_,by grind [Gh.upd],by grind [Gh.upd],by omega,bJ,by omega,?_,b7⟩⟩
    have:=f5 g w B0
    rw[f3,<-s8,wq.1];exact this.mono hk (fun _ h=>h) (fun _ h=>h.elim))
  rw[SO]at k1 k2;generalize yL : g.upd 1000 (g.ρ 1000) (g.ln 1000) (g.tk 1000) (g.own 1000) g.S=g' at k1 k2;have tV : g'.own 1000=some b:=by grind [Gh.upd]
  have tW:=k1.objs 1000;have lf:Ag [(1000,HO.arr sz Fp)] Ad 1000=.arr sz Fp:=rfl;rw[lf]at tW;obtain⟨m1,m2,m3,m4⟩:=tW;have hρ:g'.ρ 1000=.slice (some ⟨b,0,none⟩) es.length cap:=by grind [Gh.upd]
  have AdZ : Fp≠[]:=fun e=>CU (AU Wk);rcases m4 with ⟨m4,_⟩ | ⟨b',Ko,E',gz,c1,c2,c3,c4,c5,c6,c7⟩
  .simp_all
  .rw[hρ]at c1;simp only[Value.slice.injEq,Dq,Addr.mk.injEq,and_true]at c1;obtain⟨c1a,c1b,c1c⟩:=c1;subst c1a;subst c1c;have JE : (Fp.take n').length=n':=aa1
   obtain⟨k3,k4⟩:=k1.move 1000 2000 aa2 rfl trivial tV (.arr sz (Fp.take n')) (.slice (some ⟨b,0,none⟩) n' cap) n' true aa0 (fun hk=>by
    refine⟨by simp[Gh.upd],by grind [Gh.upd],fun cs hcs=>m3 cs (EZ hcs),.inr ⟨b,cap,E',gz,by grind [Gh.upd],by simp[Gh.upd],by omega,c4,c5,?_,c7⟩⟩
    have:=(c6.mono hk (fun _ h=>h) (fun _ h=>h.elim)).take (n'*sz)
    grind [Kx,Nat.mul_le_mul_right])
   have tH:AP (AP (Ag [(1000,HO.arr sz Fp)] Ad) 1000 .dead) 2000 (.arr sz (Fp.take n'))=Ag [(1000,.dead),(2000,.arr sz (Fp.take n'))] Ad:=by
    funext i
    by_cases e1:i=2000
    .subst e1;rw[A2];rfl
    .rw[BQ _ _ _ _ e1]
     by_cases e2:i=1000
     .subst e2;rw[A2];rfl
     grind [BQ,Ag,Dx]
   rw[tH]at k3 k4;exact⟨_,.msl 2000 n',_,_,rfl,⟨rfl,Fp,f2,rfl⟩,.msl _ 2000 n' (some ⟨b,0,none⟩) cap (by intro c;cases c) (by simp[Gh.upd]) (by simp[Gh.upd]) (.inr ⟨b,rfl⟩) (fun _=>by simp[Gh.upd]),k3,k2.trans k4⟩
end
end Go.Eng
namespace Go.Eng
variable {h:Nat->HO}{r ty e m:Nat}{cx:Cx}{x:AV}{K:HK}
def ig(a b:Fa):Bool:=
 (match a.2 with | some r=>!In b.1 r | none=>true)&&(match b.2 with | some r=>!In a.1 r | none=>true)
def Pp(ops:Array Oper)(oi:Oper)(fi:Fa)(D:List Nat)(k:Nat):List Oper->List Fa->Bool
 |o::r,f::fs=>(In D k||(oi.apart ops o&&ig fi f))&&Pp ops oi fi D (k+1) r fs
 | [],[]=>true
 |_,_=>false
def UO(ops:Array Oper)(all:List Oper)(k:Nat):List Oper->List Fa->Bool
 |o::r,f::fs=>
  let D:=Pv k [] 0 all
  (o.after.toList.all fun e=>!Region.binds .any e||Nat.blt e.on k)&&TW k D 0 all&&(D.all fun j=>Nat.blt k j&&Nat.blt j all.length)&&Pp ops o f D (k+1) r fs&&UO ops all (k+1) r fs
 | [],[]=>true
 |_,_=>false
def bw(ops:Array Oper)(fs:List Fa):Bool:=Region.noSelect ops&&UO ops ops.toList 0 ops.toList fs
def Qh(f:Fa):Prop:=∀r,f.2=some r->r<10000000
def RO:List Fa->Prop
 | []=>True
 |f::r=>Qh f/\RO r
theorem AS(l:List Nat):Qh (l,none):=fun _ h=>by cases h
theorem DU{l:List Nat}(h:r<10000000):Qh (l,some r):=fun _ e=>by simp_all
theorem ii{a b:Fa}(ha:Qh a)(hb:Qh b)(h:ig a b=true):Sq a b=true:=by
 obtain⟨a1,a2⟩:=a;obtain⟨b1,b2⟩:=b;unfold ig at h;unfold Sq;rw[Aj]at h⊢;refine⟨?_,?_⟩
 .cases a2 with
  |none=>rfl
  |some r=>
   have h1:(!In b1 r)=true:=h.1;show Ys b1 r=true;unfold Ys;rw[Dx (show r≠VG by have:=ha r rfl;grind [VG]),Gi,h1,show Nat.blt r 10000000=true by rw[FD];exact ha r rfl];rfl
 .cases b2 with
  |none=>rfl
  |some r=>
   have h1:(!In a1 r)=true:=h.2;show Ys a1 r=true;unfold Ys;rw[Dx (show r≠VG by have:=hb r rfl;grind [VG]),Gi,h1,show Nat.blt r 10000000=true by rw[FD];exact hb r rfl];rfl
theorem Ux{ops:Array Oper}{oi:Oper}{fi:Fa}{D:List Nat}(hi:Qh fi):∀{l:List Oper} {fs:List Fa} {k:Nat},RO fs->Pp ops oi fi D k l fs=true->H4 ops oi fi D k l fs=true
 | [],[],_,_,h=>h
 |o::r,f::fs,k,hs,h=>by
  unfold Pp at h;unfold H4;rw[Aj,Ja,Aj]at h⊢;exact⟨h.1.imp id (fun q=>⟨q.1,ii hi hs.1 q.2⟩),Ux hi hs.2 h.2⟩
 | [],_::_,_,_,h=>by grind [Pp]
 |_::_,[],_,_,h=>by grind [Pp]
theorem Xn{ops:Array Oper}{all:List Oper}:∀{l:List Oper} {fs:List Fa} {k:Nat},RO fs->UO ops all k l fs=true->Lz ops all k l fs=true
 | [],[],_,_,h=>h
 |o::r,f::fs,k,hs,h=>by
  unfold UO at h;unfold Lz;simp only[Aj]at h⊢;exact⟨⟨h.1.1,Ux hs.1 hs.2 h.1.2⟩,Xn hs.2 h.2⟩
 | [],_::_,_,_,h=>by grind [UO]
 |_::_,[],_,_,h=>by grind [UO]
theorem IG{ops:Array Oper}{fs:List Fa}(hs:RO fs)(h:bw ops fs=true):Sr ops fs=true:=by
 grind [bw,Sr,Xn]
theorem QB{d:Option Nat}{es es2:List (List AV)}(hty:(cx.T ty).d=.slice e)(hz:Nat.beq (cx.T e).zc.length (cx.T e).size=true)(EQ:(cx.T e).size=m+1)(hx:∀K' : List (List AV)->Prop,K' es2->Kt h x K')(hr:h r=.tok (m+1) es.length)(hl:BX (m+1) es2)(hb:(es.length+es2.length)*(cx.T e).bytes<=140737488355328)(hc:es.length+es2.length<=9223372036854775807)(hk:K (.slice (.id r (m+1)) (es++es2)) (AP h r (.tok (m+1) (es.length+es2.length)))):HS cx d h ty (.slice (.id r (m+1)) es) x K:=by
 grind [Nat.beq_refl,HS]
theorem QA{d:Nat}{es2:List (List AV)}(hty:(cx.T ty).d=.slice e)(hz:Nat.beq (cx.T e).zc.length (cx.T e).size=true)(EQ:(cx.T e).size=m+1)(hx:∀K' : List (List AV)->Prop,K' es2->Kt h x K')(hr:h (JD cx d)=.free)(ha:Gv cx.pl.arr d=none)(hl:BX (m+1) es2)(hb:es2.length*(cx.T e).bytes<=140737488355328)(hc:es2.length<=9223372036854775807)(hk:K (.slice (.id (JD cx d) (m+1)) es2) (AP h (JD cx d) (.tok (m+1) es2.length))):HS cx (some d) h ty nzA x K:=by
 grind [HS,EG]
end Go.Eng
namespace Go.Eng
open Go.ChangeShapes Go.WideShapes
variable {p:List MemPlace}{w:World}{g:Gh}
def WR(w:World):Gh:=⟨fun _=>undef,fun _=>0,fun _=>false,fun _=>none,fun b _=>b<w.heap.size⟩
theorem Fz{b o:Nat}{v:Value}(h:w.cell? ⟨b,o,none⟩=some v):b<w.heap.size:=by
 grind [World.cell?]
theorem oX(hg:∃m,w.cell? ⟨0,0,none⟩=some (.int .i64 m))(ht:∀x∈sX,x.1<w.heap.size/\w.cell? ⟨x.1,x.2.1,none⟩=x.2.2):CA w (WR w) Ad Ad (WR w) w where
 os:=rfl
 tape:=rfl
 output:=rfl
 size:=Ai _
 frame:=fun _ _ _=>rfl
 slt:=fun _ _ h=>h
 objs:=fun _=>trivial
 inj:=fun _ _ _ h=>h.elim
 loc:=fun _ _ h=>h.elim
 sg:=fun _ _ h=>.inl h
 glob:=⟨⟨by obtain⟨m,h⟩:=hg;exact Fz h,hg⟩,fun x hx=>ht x hx⟩
theorem Tj{α β:Type}{f:α->Option β}:∀{l:List α} {r:List β},l.mapM f=some r->r.length=l.length/\∀(i:Nat) x,l[i]?=some x->∃y,r[i]?=some y/\f x=some y
 | [],r,h=>by simp_all
 |a::l,r,h=>by
  rw[List.mapM_cons]at h;cases ha:f a with
  |none=>simp_all
  |some b=>
   cases hl:l.mapM f with
   |none=>simp_all
   |some s=>
    simp[ha,hl]at h;subst h;obtain⟨h1,h2⟩:=Tj hl<;>grind
theorem UH{base:Nat}{a:Addr}{n:Nat}{cs:List Value}(h:w.cells? base a n=some cs) :
  cs.length=n/\(0<n->a.spot=none)/\∀j,j<n->∃v,cs[j]?=some v/\w.cell? ⟨a.block,a.off+j,none⟩=some v:=by
 unfold World.cells? at h;split at h
 .obtain⟨h1,h2⟩:=Tj h;have one:∀j,j<n->∃v,cs[j]?=some v/\w.cell? (a.add j)=some v:=fun j hj=>by
   obtain⟨v,e1,e2⟩:=h2 j j (by simp[hj])<;>simp_all
  have ww:0<n->a.spot=none:=fun hn=>by
   obtain⟨v,_,hv⟩:=one 0 hn;simp only[Addr.add,As]at hv;cases hs:a.spot<;>grind [World.cell?]
  refine⟨by simp_all,ww,fun j hj=>?_⟩;obtain⟨v,e1,e2⟩:=one j hj;refine⟨v,e1,?_⟩;have hs:=ww B0;have e:a.add j=⟨a.block,a.off+j,none⟩:=by
   unfold Addr.add;split
   .rename_i h0;subst h0;cases a;simp_all
   .rfl
  simp_all
 simp_all
section
variable {H:Type}{enc:TypeId×Value->H}{P:Program}{w:World}{bk:DataW H->Nat}{N:Nat}
structure Vy(bk:DataW H->Nat):Prop where
 slice:∀es sp,es.length<=bk (.slice es sp)/\∀d∈es,bk d<=bk (.slice es sp)
 agg:∀ps,∀d∈ps,bk d<=bk (.agg ps)
 str:∀b:List UInt8,b.length<=bk (.lit (.string b))
def Jl(enc:TypeId×Value->H)(P:Program)(w:World)(bk:DataW H->Nat)(N:Nat)(t:TypeId){α:Type}(e:α->List AV)(ok:α->Prop):Prop:=
 ∀(fuel:Nat) (cs:List Value) (d:DataW H) (ps:List MemPlace),DataW.trod enc P w 0 (fun _=>true) true fuel t cs=some (d,ps)->bk d<=N->∃x:α,Cg (WR w) w DR (e x) cs/\ok x
theorem Qw{U:Nat->Prop}{a:AV}{v:Value}(h1:v.oneCell'=true)(h2:A3 g w U a v):Cg g w U [a] [v]:=by
 refine⟨rfl,fun x hx=>by simp_all,fun i av x q1 q2=>?_⟩
 grind
theorem gv{U:Nat->Prop}{a b:List AV}{c d:List Value}(h:Cg g w U a c)(k:Cg g w U b d):Cg g w U (a++b) (c++d):=by
 obtain⟨h1,h2,h3⟩:=h;obtain⟨k1,k2,k3⟩:=k;refine⟨by simp_all,fun x hx=>(Bk.1 hx).elim (h2 x) (k2 x),fun i av x q1 q2=>?_⟩
 grind
theorem rC{U:Nat->Prop}:Cg g w U [] []:=⟨rfl,(fun x hx=>by cases hx),fun i av x q1=>by simp_all⟩
theorem PV{t:TypeId}{k:IntKind}(hu:P.underlying t=some (.int k)):Jl enc P w bk N t (fun n:Int=>[AV.v (.int k n)]) (fun n=>k.min<=n/\n<=k.max):=by
 intro fuel cs d ps h _;cases fuel with
 |zero=>simp[DataW.trod]at h
 |succ fuel=>
  rw[DataW.trod_step]at h;unfold DataW.trodStep at h;rw[hu]at h;split at h<;>rename_i he<;>first | cases he | skip
  all_goals first | (split at h<;>first | cases h | skip) | cases h | skip
  rename_i n hc _;obtain⟨rfl,hw⟩:=hc;simp only[Lit.wf,Aj,AQ]at hw;exact⟨_,Qw rfl (.v _ _),hw⟩
theorem aG{t:TypeId}(hu:P.underlying t=some .bool):Jl enc P w bk N t (fun b:Bool=>[AV.v (.bool b)]) (fun _=>True):=by
 intro fuel cs d ps h _;cases fuel with
 |zero=>simp[DataW.trod]at h
 |succ fuel=>
  rw[DataW.trod_step]at h;unfold DataW.trodStep at h;rw[hu]at h;split at h<;>rename_i he<;>first | cases he | skip
  all_goals first | cases h | skip
  exact⟨_,Qw rfl (.v _ _),trivial⟩
theorem Ww{t:TypeId}(hB:Vy bk)(hu:P.underlying t=some .string):Jl enc P w bk N t (fun s:ByteArray=>[AV.v (.string s)]) (fun s=>s.size<=N):=by
 intro fuel cs d ps h hb;cases fuel with
 |zero=>simp[DataW.trod]at h
 |succ fuel=>
  rw[DataW.trod_step]at h;unfold DataW.trodStep at h;rw[hu]at h;split at h<;>rename_i he<;>first | cases he | skip
  all_goals first | (split at h<;>first | cases h | skip) | cases h | skip
  rename_i s hs;refine⟨s,Qw rfl (.v _ _),?_⟩
  have:=hB.str s.data.toList
  have e:s.data.toList.length=s.size:=Wk
  omega
theorem Gb{t e:TypeId}{α:Type}{E:α->List AV}{ok:α->Prop}{m:Nat}(hB:Vy bk)(hu:P.underlying t=some (.slice e))(hm:P.cellsOf e=m+1)(hE:∀x,(E x).length=m+1)(he:Jl enc P w bk N e E ok) :
  Jl enc P w bk N t (fun l:List α=>[AV.slice .none (l.map E)]) (fun l=>l.length<=N/\∀x∈l,ok x):=by
 intro fuel cs d ps h hb;cases fuel with
 |zero=>simp[DataW.trod]at h
 |succ fuel=>
  rw[DataW.trod_step]at h;unfold DataW.trodStep at h;rw[hu]at h;split at h<;>rename_i hq<;>first | cases hq | skip
  all_goals first | (cases h;done) | skip
  .cases h
   exact⟨[],Qw rfl (.snil _ _ _),Ao _,fun x hx=>by cases hx⟩
  .rename_i a len cap;simp only at h;split at h
   .rename_i hc;simp only[B1,RR]at h;obtain⟨ov,WS,rest,_,hd⟩:=h;simp only[Ri]at hd;obtain⟨hd,_⟩:=hd;obtain⟨hl,Fi⟩:=Tj WS;rw[List.length_range]at hl;have yw:=hB.slice (ov.map (·.1)) (rest.map (·.1));rw[hd]at yw;rw[AW]at yw;have one:∀i,i<len->∃(x:α) (vs:List Value),w.cells? 0 (a.add (i*P.cellsOf e)) (P.cellsOf e)=some vs/\Cg (WR w) w DR (E x) vs/\ok x:=fun i hi=>by
     obtain⟨y,hy,hf⟩:=Fi i i Wk;simp only[RR]at hf;obtain⟨vs,hv,ht⟩:=hf;obtain⟨x,r1,r2⟩:=he fuel vs y.1 y.2 ht (AO (yw.2 y.1 (Ar.2 ⟨y,Ax hy,rfl⟩)) hb)<;>grind
    have build:∀k,k<=len->∃l:List α,l.length=k/\∀(i:Nat) x,l[i]?=some x->∃vs:List Value,w.cells? 0 (a.add (i*P.cellsOf e)) (P.cellsOf e)=some vs/\Cg (WR w) w DR (E x) vs/\ok x:=fun k=>by
     induction k with
     |zero=>simp_all
     |succ k ih=>
      intro hk;obtain⟨l,h1,h2⟩:=ih B0;obtain⟨x,hx⟩:=one k B0;refine⟨l++[x],by simp_all,fun i y q=>?_⟩
      grind
    obtain⟨l,h1,h2⟩:=build len (Ai _);refine⟨l,Qw rfl ?_,by omega,fun x hx=>?_⟩
    .cases CF:len with
     |zero=>
      grind [A3.snil]
     |succ n=>
      have ww:a.spot=none:=by
       obtain⟨x,vs,hv,_⟩:=one 0 B0
       have:=(UH hv).2.1 B0
       grind [Addr.add]
      have ea:a=⟨a.block,a.off,none⟩:=by cases a;simp_all
      rw[<-CF,<-h1,show l.length=(l.map E).length by simp,ea];have cell:∀(i:Nat) (c:List AV) (j:Nat) (av:AV),(l.map E)[i]?=some c->c[j]?=some av->∃v,w.cell? ⟨a.block,a.off+i*(m+1)+j,none⟩=some v/\v.oneCell'=true/\A3 (WR w) w DR av v:=by
       intro i c j av q1 q2;rw[BE,B1]at q1;obtain⟨x,q1,rfl⟩:=q1;obtain⟨vs,hv,hr,_⟩:=h2 i x q1;obtain⟨k1,_,k3⟩:=UH hv;have hj:j<m+1:=by
        grind
       obtain⟨v,e1,e2⟩:=k3 j B0;refine⟨v,?_,hr.2.1 v (Ax e1),hr.2.2 j av v q2 e1⟩
       grind [Addr.add]
      refine .slice _ _ a.block a.off (m+1) cap (fun i j=>(w.cell? ⟨a.block,a.off+i*(m+1)+j,none⟩).getD undef) aa1 (fun i c q=>?_) (fun i c j av q1 q2=>?_) (fun i c j av q1 q2=>?_)
      .grind
      .obtain⟨v,e1,e2,_⟩:=cell i c j av q1 q2;exact⟨Fz e1,by grind,by grind⟩
      .obtain⟨v,e1,_,e3⟩:=cell i c j av q1 q2;rw[e1];exact e3
    grind [List.mem_iff_getElem?]
   simp_all
theorem ME{t e:TypeId}(hu:P.underlying t=some (.slice e)):Jl enc P w bk N t (fun _:Unit=>[AV.junk]) (fun _=>True):=by
 intro fuel cs d ps h _;cases fuel with
 |zero=>simp[DataW.trod]at h
 |succ fuel=>
  rw[DataW.trod_step]at h;unfold DataW.trodStep at h;rw[hu]at h;split at h<;>rename_i hq<;>first | cases hq | skip
  all_goals first | (cases h;done) | skip
  all_goals exact⟨(),Qw rfl (.junk _ _),trivial⟩
theorem Jl.to{t:TypeId}{α β:Type}{e:α->List AV}{ok:α->Prop}{e' : β->List AV}{uz : β->Prop}(h:Jl enc P w bk N t e ok)(f:α->β)(hf:∀x,ok x->e' (f x)=e x/\uz (f x)):Jl enc P w bk N t e' uz:=by
 intro fuel cs d ps k hb;obtain⟨x,h1,h2⟩:=h fuel cs d ps k hb<;>grind
def VB(enc:TypeId×Value->H)(P:Program)(w:World)(bk:DataW H->Nat)(N L:Nat)(l:List Field)(o:Nat){α:Type}(e:α->List AV)(ok:α->Prop):Prop:=
 ∀(fuel:Nat) (cs:List Value) (xs:List (DataW H×List MemPlace)),cs.length=L->l.mapM (fun f=>DataW.trod enc P w 0 (fun _=>true) true fuel f.type ((cs.drop f.offset).take (P.cellsOf f.type)))=some xs->(∀x∈xs,bk x.1<=N) ->
  ∃x:α,Cg (WR w) w DR (e x) (cs.drop o)/\ok x
theorem E5{L:Nat}:VB enc P w bk N L [] L (fun _:Unit=>[]) (fun _=>True):=by
 intro fuel cs xs hl _ _;refine⟨(),?_,trivial⟩
 grind [rC]
theorem Bc{L o n:Nat}{f:Field}{l:List Field}{α β:Type}{e:α->List AV}{ok:α->Prop}{e' : β->List AV}{uz : β->Prop}(ho:f.offset=o)(hn:P.cellsOf f.type=n)(h:Jl enc P w bk N f.type e ok)(k:VB enc P w bk N L l (o+n) e' uz) :
  VB enc P w bk N L (f::l) o (fun p:α×β=>e p.1++e' p.2) (fun p=>ok p.1/\uz p.2):=by
 intro fuel cs xs hl hx hb;rw[List.mapM_cons]at hx;simp only[Option.bind_eq_bind,RR]at hx;obtain⟨y,hy,ys,hys,mL⟩:=hx;simp only[Option.pure_def,Dq]at mL;subst mL;obtain⟨x,r1,r2⟩:=h fuel _ y.1 y.2 hy (hb y (Ae ..));obtain⟨z,s1,s2⟩:=k fuel cs ys hl hys (fun q hq=>hb q (Ah _ hq));refine⟨(x,z),?_,r2,s2⟩
 grind [List.drop_drop,List.take_append_drop,gv]
theorem D7{t:TypeId}{L:Nat}{fs:Array Field}{α:Type}{e:α->List AV}{ok:α->Prop}(hB:Vy bk)(hu:P.underlying t=some (.struct fs))(hL:P.cellsOf t=L)(h:VB enc P w bk N L fs.toList 0 e ok):Jl enc P w bk N t e ok:=by
 intro fuel cs d ps k hb;cases fuel with
 |zero=>simp[DataW.trod]at k
 |succ fuel=>
  rw[DataW.trod_step]at k;unfold DataW.trodStep at k;rw[hu]at k
  change (if cs.length=P.cellsOf t then(fs.toList.mapM fun f=>DataW.trod enc P w 0 (fun _=>true) true fuel f.type ((cs.drop f.offset).take (P.cellsOf f.type))).map fun xs=>(DataW.agg (xs.map (·.1)),xs.flatMap (·.2))else none)=some (d,ps)at k
  split at k
  .rename_i hc;simp only[B1,Ri]at k;obtain⟨xs,hx,hd,_⟩:=k;have hba:=hB.agg (xs.map (·.1));rw[hd]at hba;obtain⟨x,r1,r2⟩:=h fuel cs xs B0 hx (fun y hy=>AO (hba y.1 (Ar.2 ⟨y,hy,rfl⟩)) hb)<;>grind
  simp_all
theorem jN{t:TypeId}{α:Type}{e:α->AV}{ok:α->Prop}(h:Jl enc P w bk N t (fun x=>[e x]) ok){v:Value}{d:DataW H}(hv:v.oneCell'=true)(k:DataW.Trod enc P w 0 (fun _=>true) true t v d p)(hb:bk d<=N) :
  ∃x,A3 (WR w) w DR (e x) v/\ok x:=by
 obtain⟨fuel,k⟩:=k;have ec:v.cells.toList=[v]:=by cases v<;>first | rfl | cases hv
 rw[ec]at k;obtain⟨x,r1,r2⟩:=h fuel _ d p k hb;exact⟨x,r1.2.2 0 _ _ rfl rfl,r2⟩
theorem jM{t:TypeId}{α:Type}{e:α->List AV}{ok:α->Prop}(h:Jl enc P w bk N t e ok){cs:Array Value}{d:DataW H}(k:DataW.Trod enc P w 0 (fun _=>true) true t (.agg cs) d p)(hb:bk d<=N) :
  ∃x,A3 (WR w) w DR (.agg (e x)) (.agg cs)/\ok x:=by
 obtain⟨fuel,k⟩:=k;obtain⟨x,r1,r2⟩:=h fuel cs.toList d p k hb;refine⟨x,.agg _ _ _ (by have:=r1.1;omega) (fun i y q=>r1.2.1 y aa1) (fun i av y q1 q2=>r1.2.2 i av y q1 Wk),r2⟩
end
end Go.Eng
