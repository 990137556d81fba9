/- Lemmas 12. -/
import Derived.Test.YteaiieomnhbmgaaGreatDoorAA11
import Derived.ReadAgain
import Derived.RowKit
import Derived.Test.YteaiieomnhbmgaaGreatDoorProg
import Derived.Sort.Grow
namespace Go.Eng
variable {fn:Func}{c:Code}{K:AV->Prop}{f:Nat}(cx:Cx)(r:AV)(σ:Jd)
section
variable {P:Program}{N:Nat}{ds:List Deferred}{w0:World}{g0:Gh}{h0:Nat->HO}{st:St}{g:Gh}{a:Act}{w:World}
theorem aW{T:GK}(hT:Ca P T){h:Nat->HO}(ho:∀r,DR g w (AJ h) r (h r)){t:Nat}{p:AV}{vp:Value}(hp:Ba g w (AJ h) p vp)(hk:JI T h t p K) :
  ∃ad,(asAddr vp).run P w=.ok ad w/\Bv P h g w (loadVar t ad) K:=by
 obtain⟨x,av,h1,h2,h3⟩:=WR ho hT hp hk;have fin:∀b off,vp=.pointer (some ⟨b,off,none⟩)->∃ad,(asAddr vp).run P w=.ok ad w/\Bv P h g w (loadVar t ad) K:=by
  rintro b off rfl
  refine⟨⟨b,off,none⟩,by simp[asAddr],x,av,?_,h2,h3⟩
  grind [Instr.loadAt,Instr.sureAddr]
 unfold JI at hk;split at hk
 all_goals grind [cases Ba]
def eI(tmps:Array Value):ResultVar->Sem Value
 |.tmp t=>pure (tmps.getD t undef)
 |.cell ad t=>do loadVar t (<-asAddr (tmps.getD ad undef))
theorem Ou(fn:Func)(tmps:Array Value):results fn tmps=(do
 let vs <-fn.results.mapM (eI tmps)
 pure (if h:vs.size=1 then vs[0]else .tuple vs)):=rfl
theorem YK{cx:Cx}(hT:Ca P cx.T)(hS:SR N ds w0 g0 h0 st g a w):∀(rs:List ResultVar) {K:List AV->Prop},th cx.T st rs K ->
  ∃l vs,K l/\(rs.mapM (eI a.tmps)).run P w=.ok vs w/\vs.length=l.length/\vs.length=rs.length /\
   ∀(i:Nat) (av:AV) (x:Value),l[i]?=some av->vs[i]?=some x->Ba g w FD av x
 | [],K,hk=>⟨[],[],hk,by simp,rfl,rfl,fun i av x h=>by simp_all⟩
 |.tmp t::r,K,hk=>by
  obtain⟨l,vs,h1,h2,h3,h4,h5⟩:=YK hT hS r hk;refine⟨_,a.tmps.getD t undef::vs,h1,?_,by simp_all,by simp_all,fun i av x q1 q2=>?_⟩
  .grind [eI,Sem.run_bind,Sem.run_pure,Result.andThen_ok]
  .cases i with
   |zero=>
    simp only[EG,DJ]at q1 q2;subst q1;subst q2;exact Ba.str hS.inv.objs (hS.slots t)
   |succ i=>grind
 |.cell ad t::r,K,hk=>by
  obtain⟨addr,e1,x0,av0,e2,hk',e4⟩:=aW hT hS.inv.objs (hS.slots ad) hk;obtain⟨l,vs,h1,h2,h3,h4,h5⟩:=YK hT hS r hk';refine⟨_,x0::vs,h1,?_,by simp_all,by simp_all,fun i av x q1 q2=>?_⟩
  .grind [eI,Sem.run_bind,Sem.run_pure,Result.andThen_ok]
  .cases i with
   |zero=>
    simp only[EG,DJ]at q1 q2;subst q1;subst q2;exact Ba.str hS.inv.objs e4
   |succ i=>grind
theorem tg{cx:Cx}(hT:Ca P cx.T)(hS:SR N ds w0 g0 h0 st g a w)(hk:tf cx st fn.results.toList K) :
  ∃g' r v h',K r/\(results fn a.tmps).run P w=.ok v w/\CU w0 g0 h0 h' g' w/\Le h0 g0 w0 h' g' w/\Ba g' w FD r v:=by
 obtain⟨g',i1,i2⟩:=M7 cx.pl.fin hS.inv;have Ue : SR N ds w0 g0 h0 ⟨st.t,Pw st.h cx.pl.fin⟩ g' a w:=⟨i1,hS.le.trans i2,hS.dfs,hS.size,fun i=>(hS.slots i).le i2⟩;obtain⟨l,vs,h1,h2,h3,h4,h5⟩:=YK hT Ue _ hk;have CP:(results fn a.tmps).run P w=.ok (if h:vs.toArray.size=1 then vs.toArray[0]else .tuple vs.toArray) w:=by
  rw[Ou,show fn.results=fn.results.toList.toArray by simp,List.mapM_toArray];simp_all
 refine⟨g',?_⟩
 match l,vs,h1,h3,h5,CP with
 | [v],[x],h1,h3,h5,CP=>exact⟨v,x,_,h1,by simp_all,i1,Ue.le,h5 0 v x rfl rfl⟩
 | [],vs,h1,h3,h5,CP=>
  have:vs=[]:=AY h3
  subst this;exact⟨.tup [],.tuple #[],_,h1,by simp_all,i1,Ue.le,.tup _ _ _ rfl fun i av x q=>by simp_all⟩
 |v::v' :: l,vs,h1,h3,h5,CP=>
  refine⟨.tup (v::v' :: l),.tuple vs.toArray,_,h1,?_,i1,Ue.le,.tup _ _ _ ch fun i av x q1 q2=>h5 i av x q1 B0⟩;simp_all
theorem CU.toFree(hI:CU w0 g0 Ae st.h g w):CU w0 g0 Ae Ae g w:=
 ⟨hI.os,hI.tape,hI.output,hI.size,hI.frame,hI.slt,fun _=>trivial,fun _ _ _ h=>h.elim,fun _ _ h=>h.elim,hI.sg,hI.glob⟩
theorem Pj{U:Nat->Prop}{n:Nat}:∀{args:List AV} {vals:List Value},vals.length=args.length->(∀(i:Nat) (av:AV) (x:Value),args[i]?=some av->vals[i]?=some x->Ba g w U av x) ->
  ∀i,Ba g w U (Pi args i) ((vals++List.replicate n undef).getD i undef)
 | [],[],_,_,i=>by
  have:(([]:List Value)++List.replicate n undef).getD i undef=undef:=by
   grind
  rw[this];exact .v _ _
 | [],_::_,h,_,_=>by simp_all
 |_::_,[],h,_,_=>by simp_all
 |x::l,v::vs,h,hr,i=>by
  cases i with
  |zero=>exact hr 0 x v rfl rfl
  |succ i=>
   have:=Pj (n:=n) (args:=l) (vals:=vs) B0 (fun i av x q1 q2=>hr (i+1) av x B0 B0) i
   grind [Pi]
theorem lI {f : Nat}{args : List AV}{Q : AV -> Prop}(hP : cx.P = P)(hT : Ca P cx.T)(hm : P.follows .mixedOrders = true)(hx : cx.ext = false)(hf : P.funcs[f]? = some fn)(hn : (fn.name == "runtime.NumGoroutine") = false)(hb:fn.body=some c)(hN:args.length<=fn.ntmps)(hc:EI fn.ntmps c=true)(hk:Sq cx c (wG cx fn.results.toList Q) ⟨Pi args,Ae⟩)(hY:∀l σ g w,cx.yp l σ g w:=by exact fun _ _ _ _=>trivial):AU P f args Ae fun r h'=>h'=Ae/\Q r:=by
 refine⟨⟨fn,hf,hn,by simp_all⟩,fun g w vals hs hv hI=>calls_of_wp hf hb ?_⟩;have hU:AJ Ae=FD:=by grind [AJ,FD,Ae]
 have hS:SR fn.ntmps [] w g Ae ⟨Pi args,Ae⟩ g { tmps:=vals++Array.replicate (fn.ntmps-vals.size) undef,defers:=[] } w:=by
  refine⟨hI,.refl _ _ _,rfl,by simp_all,fun i=>?_⟩
  have:=Pj (n:=fn.ntmps-vals.size) (args:=args) (vals:=vals.toList) ch (fun i av x q1 q2=>hv i av x q1 B0) i
  grind [Array.getD_eq_getD_getElem?,Array.toList_append,Array.toList_replicate]
 refine wpIn_wide.1 (N7 hP hT hm (by unfold LP;rw[hx];exact fun _=>rfl) (fun l σ _ _ w _ _ _=>hY l σ _ w) none c hc (fun e st g' a w' hk hS=>?_) hS hk);have out:tf cx st fn.results.toList Q->a.defers=[]/\∃v,(results fn a.tmps).run P w'=.ok v w'/\∃v' r h' g',(Ending.returned v:Ending)=.returned v'/\(h'=Ae/\Q r)/\Ba g' w' (AJ h') r v'/\CU w g Ae h' g' w'/\Le Ae g w h' g' w':=by
  intro hk;obtain⟨g2,r,v,h',q1,q2,q3,q4,q5⟩:=tg hT hS hk;exact⟨hS.dfs,v,q2,v,r,Ae,g2,rfl,⟨rfl,q1⟩,by simp_all,CU.toFree (st:=⟨st.t,h'⟩) q3,⟨fun i hi=>absurd rfl hi,fun i hi=>absurd rfl hi,q4.keeps⟩⟩
 cases e with
 |normal=>exact out hk
 |ret=>exact out hk
 |exit id=>exact hk.elim
theorem SV{cx:Cx}(hT:Ca P cx.T)(hS:SR N ds w0 g0 h0 st g a w):∀(rs:List ResultVar) {K:List AV->Prop},ti cx.T st rs K ->
  ∃l vs,K l/\(rs.mapM (eI a.tmps)).run P w=.ok vs w/\vs.length=l.length/\vs.length=rs.length /\
   ∀(i:Nat) (av:AV) (x:Value),l[i]?=some av->vs[i]?=some x->Ba g w (AJ st.h) av x
 | [],K,hk=>⟨[],[],hk,by simp,rfl,rfl,fun i av x h=>by simp_all⟩
 |.tmp t::r,K,hk=>by
  obtain⟨l,vs,h1,h2,h3,h4,h5⟩:=SV hT hS r hk;refine⟨_,a.tmps.getD t undef::vs,h1,?_,by simp_all,by simp_all,fun i av x q1 q2=>?_⟩
  all_goals grind [eI,Sem.run_bind,Sem.run_pure,Result.andThen_ok,SR.slots]
 |.cell ad t::r,K,hk=>by
  obtain⟨addr,e1,x0,av0,e2,hk',e4⟩:=aW hT hS.inv.objs (hS.slots ad) hk;obtain⟨l,vs,h1,h2,h3,h4,h5⟩:=SV hT hS r hk';refine⟨_,x0::vs,h1,?_,by simp_all,by simp_all,fun i av x q1 q2=>?_⟩
  all_goals grind [eI,Sem.run_bind,Sem.run_pure,Result.andThen_ok]
theorem Gz{σ:Jd}:∀{H0:List (Nat×HO)},IG σ H0=true->∀i,Ak H0 Ae i≠.free->1000<=i/\i<2000/\Cw σ i=some i
 | [],_,i,h=>absurd rfl h
 |(a,o)::r,hx,i,h=>by
  simp only[IG,At,Nat.ble_eq,IA]at hx;obtain⟨⟨⟨h1,h2⟩,h3⟩,h4⟩:=hx
  by_cases e:i=a
  .grind [Nat.eq_of_beq_eq_true]
  .unfold Ak at h;simp only[DK e,F7]at h;exact Gz h4 i h
theorem Pk{H0:List (Nat×HO)}{σ:Jd}(hσ:GY σ=true)(hx:IG σ H0=true){h:Nat->HO}(hI:CU w0 g0 (Ak H0 Ae) h g w)(hL:Le (Ak H0 Ae) g0 w0 h g w) :
  F3 (Cw σ) h (FH σ h) g (DU σ g) w/\CU w0 g0 (Ak H0 Ae) (FH σ h) (DU σ g) w/\Le (Ak H0 Ae) g0 w0 (FH σ h) (DU σ g) w:=by
 have inv:=Yx hσ;have FW:∀j,FH σ h j=match Ia σ j with | some i=>(h i).ren (Cw σ) h | none=>.free:=Qd _ _ σ
 have hR:F3 (Cw σ) h (FH σ h) g (DU σ g) w:=by
  refine⟨fun r r' hr hu=>?_,fun b o=>Iff.rfl,hI.objs⟩
  grind [DU,AJ,MT]
 have Kf:∀j,(FH σ h j).live->∃i,Ia σ j=some i/\(h i).live:=fun j hl=>by
  rw[FW]at hl;cases e:Ia σ j with
  |none=>rw[e]at hl;exact hl.elim
  |some i=>grind [MS]
 have Yt:∀j i,Ia σ j=some i->(DU σ g).own j=g.own i:=fun j i e=>by simp[DU,e]
 refine⟨hR,⟨hI.os,hI.tape,hI.output,hI.size,hI.frame,hI.slt,fun j=>?_,fun j j' b hl Sx e e'=>?_,fun j b hl e=>?_,hI.sg,hI.glob⟩,⟨fun i hi=>?_,fun i hi=>?_,hL.keeps⟩⟩
 .rw[FW];cases e:Ia σ j with
  |none=>trivial
  |some i=>
   by_cases hu:AJ h i
   .grind [DR.ren,CU.objs]
   .have:h i=.free:=CI.1 hu
    dsimp only;rw[this];trivial
 .obtain⟨i,e1,l1⟩:=Kf j hl;obtain⟨i',e2,l2⟩:=Kf j' Sx;rw[Yt j i e1]at e;rw[Yt j' i' e2]at e';obtain rfl:=hI.inj i i' b l1 l2 e e'
  have:=(inv i j).2 e1
  rw[(inv i j').2 e2]at this;simp_all
 .obtain⟨i,e1,l1⟩:=Kf j hl;rw[Yt j i e1]at e;exact hI.loc i b l1 e
 .obtain⟨_,_,hf⟩:=Gz hx i hi;have hb:=(inv i i).1 hf;have e1:(DU σ g).ρ i=g.ρ i/\(DU σ g).ln i=g.ln i/\(DU σ g).tk i=g.tk i:=by grind [DU]
  obtain⟨k1,k2,k3,k4⟩:=hL.gh i hi<;>simp_all
 .obtain⟨_,_,hf⟩:=Gz hx i hi;have hb:=(inv i i).1 hf;unfold AJ;rw[FW,hb];exact(MT _ _ _).2 (hL.us i hi)
theorem au{f:Nat}{args:List AV}{H0:List (Nat×HO)}{Q:AV->(Nat->HO)->Prop}(hP:cx.P=P)(hT:Ca P cx.T)(hm:P.follows .mixedOrders=true)(hx:cx.ext=true)(hf:P.funcs[f]?=some fn)(_hn : (fn.name == "runtime.NumGoroutine") = false)(hb : fn.body = some c)(hN : args.length <= fn.ntmps)(hc : EI fn.ntmps c = true)(hσ : (GY σ && IG σ H0) = true)(hk:Sq cx c (ZW cx fn.results.toList σ Q) ⟨Pi args,Ak H0 Ae⟩){g:Gh}{w:World}{vals:Array Value}(hs:vals.size=args.length)(hv:∀(i:Nat) (av:AV) (x:Value),args[i]?=some av->vals[i]?=some x->Ba g w (AJ (Ak H0 Ae)) av x)(hI:CU w g (Ak H0 Ae) (Ak H0 Ae) g w)(hY:∀l σ h' g' w',EB σ=true->CU w g (Ak H0 Ae) h' g' w'->Le (Ak H0 Ae) g w h' g' w'->cx.yp l σ (DU σ g') w') :
  Calls P f vals w fun e w'=>∃v r h' g',e=.returned v/\Q r h'/\Ba g' w' (AJ h') r v/\CU w g (Ak H0 Ae) h' g' w'/\Le (Ak H0 Ae) g w h' g' w':=by
 simp only[At]at hσ;obtain⟨hσ,xm⟩:=hσ;refine calls_of_wp hf hb ?_;have hS:SR fn.ntmps [] w g (Ak H0 Ae) ⟨Pi args,Ak H0 Ae⟩ g { tmps:=vals++Array.replicate (fn.ntmps-vals.size) undef,defers:=[] } w:=by
  refine⟨hI,.refl _ _ _,rfl,by simp_all,fun i=>?_⟩
  have:=Pj (n:=fn.ntmps-vals.size) (args:=args) (vals:=vals.toList) ch (fun i av x q1 q2=>hv i av x q1 B0) i
  grind [Array.getD_eq_getD_getElem?,Array.toList_append,Array.toList_replicate]
 refine wpIn_wide.1 (N7 hP hT hm (by unfold LP;rw[hx];exact fun i hi=>⟨(Gz xm i hi).1,(Gz xm i hi).2.1⟩) hY none c hc (fun e st g' a w' hk hS=>?_) hS hk);have out:kn cx st fn.results.toList σ Q->a.defers=[]/\∃v,(results fn a.tmps).run P w'=.ok v w'/\∃v' r h' g',(Ending.returned v:Ending)=.returned v'/\Q r h'/\Ba g' w' (AJ h') r v'/\CU w g (Ak H0 Ae) h' g' w'/\Le (Ak H0 Ae) g w h' g' w':=by
  intro hk;obtain⟨g2,i1,i2⟩:=M7 cx.pl.fin hS.inv;have Ue : SR fn.ntmps [] w g (Ak H0 Ae) ⟨st.t,Pw st.h cx.pl.fin⟩ g2 a w':=⟨i1,hS.le.trans i2,hS.dfs,hS.size,fun i=>(hS.slots i).le i2⟩;obtain⟨l,vs,h1,h2,h3,h4,h5⟩:=SV hT Ue _ hk;obtain⟨hR,j1,j2⟩:=Pk hσ xm i1 Ue.le;have CP:(results fn a.tmps).run P w'=.ok (if h:vs.toArray.size=1 then vs.toArray[0]else .tuple vs.toArray) w':=by
   rw[Ou,show fn.results=fn.results.toList.toArray by simp,List.mapM_toArray];simp_all
  refine⟨hS.dfs,?_⟩
  match l,vs,h1,h3,h5,CP with
  | [v],[x],h1,h3,h5,CP=>exact⟨x,by simp_all,x,_,_,_,rfl,h1,(h5 0 v x rfl rfl).ren hR,j1,j2⟩
  | [],vs,h1,h3,h5,CP=>
   have:vs=[]:=AY h3
   subst this;exact⟨.tuple #[],by simp_all,.tuple #[],_,_,_,rfl,h1,Ba.ren hR (.tup _ [] _ rfl fun i av x q=>by simp_all),j1,j2⟩
  |v::v' :: l,vs,h1,h3,h5,CP=>
   refine⟨.tuple vs.toArray,?_,.tuple vs.toArray,_,_,_,rfl,h1,Ba.ren hR (.tup _ _ _ ch fun i av x q1 q2=>h5 i av x q1 B0),j1,j2⟩;simp_all
 cases e with
 |normal=>exact out hk
 |ret=>exact out hk
 |exit id=>exact hk.elim
theorem na{f:Nat}{args:List AV}{H0:List (Nat×HO)}{Q:AV->(Nat->HO)->Prop}(hP:cx.P=P)(hT:Ca P cx.T)(hm:P.follows .mixedOrders=true)(hx:cx.ext=true)(hf:P.funcs[f]?=some fn)(hn : (fn.name == "runtime.NumGoroutine") = false)(hb : fn.body = some c)(hN : args.length <= fn.ntmps)(hc : EI fn.ntmps c = true)(hσ : (GY σ && IG σ H0) = true)(hk:Sq cx c (ZW cx fn.results.toList σ Q) ⟨Pi args,Ak H0 Ae⟩)(hY:∀l σ g w,cx.yp l σ g w:=by exact fun _ _ _ _=>trivial):AU P f args (Ak H0 Ae) Q:=
 ⟨⟨fn,hf,hn,by simp_all⟩,fun g w vals hs hv hI=>au cx σ hP hT hm hx hf hn hb hN hc hσ hk hs hv hI (fun l σ _ _ w _ _ _=>hY l σ _ w)⟩
end
def BC(r':AV):Prop:=∀(g:Gh) (w:World) (U:Nat->Prop) (x:Value),Ba g w U r x->Ba g w U r' x
theorem BC.refl:BC r r:=fun _ _ _ _ h=>h
theorem BC.of_eq{r r' : AV}(h:r=r'):BC r r':=h▸.refl r
theorem BC.trans{a b c:AV}(h:BC a b)(k:BC b c):BC a c:=fun g w U x r=>k g w U x (h g w U x r)
theorem BC.nil:BC nzA (.slice .none []):=fun _ _ _ _ h=>by cases h;grind [Ba.snil]
def Jx:List AV->List AV->Prop
 | [],[]=>True
 |a::r,b::s=>BC a b/\Jx r s
 |_,_=>False
theorem Jx.refl:∀l:List AV,Jx l l
 | []=>trivial
 |a::l=>⟨.refl a,Jx.refl l⟩
theorem Jx.len:∀{l l' : List AV},Jx l l'->l'.length=l.length
 | [],[],_=>rfl
 |_::_,_::_,h=>Aa (·+1) h.2.len
 | [],_::_,h=>h.elim
 |_::_,[],h=>h.elim
theorem Jx.get:∀{l l' : List AV},Jx l l'->∀(i:Nat) (b:AV),l'[i]?=some b->∃a,l[i]?=some a/\BC a b
 | [],[],_,i,b,h=>by simp_all
 |a::r,b::s,hs,i,c,h=>by
  cases i with
  |zero=>simp only[EG,DJ]at h;subst h;exact⟨a,rfl,hs.1⟩
  |succ i=>exact Jx.get hs.2 i c (by simpa using h)
 | [],_::_,h,_,_,_=>h.elim
 |_::_,[],h,_,_,_=>h.elim
theorem BC.tup{l l' : List AV}(h:Jx l l'):BC (.tup l) (.tup l'):=fun g w U x r=>by
 cases r with
 |tup _ _ vs hs hr=>
  refine .tup _ _ vs (by rw[hs,h.len]) fun i av x q1 q2=>?_;obtain⟨a,e1,e2⟩:=h.get i av q1;exact e2 _ _ _ _ (hr i a x e1 q2)
theorem BC.agg{l l' : List AV}(h:Jx l l'):BC (.agg l) (.agg l'):=fun g w U x r=>by
 cases r with
 |agg _ _ vs hs h1 hr=>
  refine .agg _ _ vs (by rw[hs,h.len]) h1 fun i av x q1 q2=>?_;obtain⟨a,e1,e2⟩:=h.get i av q1;exact e2 _ _ _ _ (hr i a x e1 q2)
def XI:C0->C0->Prop
 | [],[]=>True
 |a::r,b::s=>Jx a b/\XI r s
 |_,_=>False
theorem XI.len:∀{l l' : C0},XI l l'->l'.length=l.length
 | [],[],_=>rfl
 |_::_,_::_,h=>Aa (·+1) h.2.len
 | [],_::_,h=>h.elim
 |_::_,[],h=>h.elim
theorem XI.get:∀{l l' : C0},XI l l'->∀(i:Nat) (b:List AV),l'[i]?=some b->∃a,l[i]?=some a/\Jx a b
 | [],[],_,i,b,h=>by simp_all
 |a::r,b::s,hs,i,c,h=>by
  cases i with
  |zero=>simp only[EG,DJ]at h;subst h;exact⟨a,rfl,hs.1⟩
  |succ i=>exact XI.get hs.2 i c (by simpa using h)
 | [],_::_,h,_,_,_=>h.elim
 |_::_,[],h,_,_,_=>h.elim
theorem BC.slice{l l' : C0}(h:XI l l'):BC (.slice .none l) (.slice .none l'):=fun g w U x r=>by
 have Dr:=h.len;cases r with
 |snil _ a cap=>
  grind [Ba.snil]
 |slice _ _ b off sz cap val hc hl DM Ey=>
  rw[<-Dr];refine .slice _ _ b off sz cap val ch (fun i cs hi=>?_) (fun i cs j av hi hj=>?_) (fun i cs j av hi hj=>?_)
  .grind [XI.get,Jx.len]
  .grind [XI.get,Jx.get]
  .obtain⟨a,e1,e2⟩:=h.get i cs hi;obtain⟨c,f1,f2⟩:=e2.get j av hj;exact f2 _ _ _ _ (Ey i a j c e1 f1)
section
variable {P:Program}
theorem AU.mono{f:Nat}{args:List AV}{h0:Nat->HO}{Q Q' : AV->(Nat->HO)->Prop}(h:AU P f args h0 Q)(hq:∀r h',Q r h'->∃r',BC r r'/\Q' r' h'):AU P f args h0 Q':=
 ⟨h.1,fun g w vals q1 q2 q3=>(h.2 g w vals q1 q2 q3).mono fun _ _ ⟨v,r,h',g',e1,e2,e3,rest⟩=>
  let ⟨r',s,k⟩:=hq r h' e2
  ⟨v,r',h',g',e1,k,s _ _ _ _ e3,rest⟩⟩
theorem AU.args{args args' : List AV}{h0:Nat->HO}{Q:AV->(Nat->HO)->Prop}(h:AU P f args h0 Q)(hs:Jx args' args):AU P f args' h0 Q:=
 ⟨h.1,fun g w vals q1 q2 q3=>h.2 g w vals (by rw[q1,hs.len]) (fun i av x e1 e2=>by
  obtain⟨a,f1,f2⟩:=hs.get i av e1;exact f2 _ _ _ _ (q2 i a x f1 e2)) q3⟩
theorem IB.args{f:Nat}{args args' : List AV}{res:AV}(h:IB P f args res)(hs:Jx args' args):IB P f args' res:=AU.args h hs
theorem FM {args : List AV}{res : AV}(hP : cx.P = P)(hT : Ca P cx.T)(hm : P.follows .mixedOrders = true)(hx : cx.ext = false)(hf : P.funcs[f]? = some fn)(hn : (fn.name == "runtime.NumGoroutine") = false)(hb:fn.body=some c)(hN:args.length<=fn.ntmps)(hc:EI fn.ntmps c=true)(hk:Sq cx c (wG cx fn.results.toList fun r=>BC r res) ⟨Pi args,Ae⟩)(hY:∀l σ g w,cx.yp l σ g w:=by exact fun _ _ _ _=>trivial):IB P f args res:=
 (lI cx hP hT hm hx hf hn hb hN hc hk hY).mono fun _ _ ⟨e1,e2⟩=>⟨res,e2,rfl,e1⟩
end
end Go.Eng
namespace Go.Eng
open Go.ChangeShapes Go.WideShapes
variable {p:List MemPlace}{w:World}{g:Gh}
def m8(w:World):Gh:=⟨fun _=>undef,fun _=>0,fun _=>false,fun _=>none,fun b _=>b<w.heap.size⟩
theorem X2{b o:Nat}{v:Value}(h:w.cell? ⟨b,o,none⟩=some v):b<w.heap.size:=by
 grind [World.cell?]
theorem Abq(hg:∃m,w.cell? ⟨0,0,none⟩=some (.int .i64 m))(ht:∀x∈m9,x.1<w.heap.size/\w.cell? ⟨x.1,x.2.1,none⟩=x.2.2):CU w (m8 w) Ae Ae (m8 w) w where
 os:=rfl
 tape:=rfl
 output:=rfl
 size:=Ao _
 frame:=fun _ _ _=>rfl
 slt:=fun _ _ h=>h
 objs:=fun _=>trivial
 inj:=fun _ _ _ h=>h.elim
 loc:=fun _ _ h=>h.elim
 sg:=fun _ _ h=>.inl h
 glob:=⟨⟨by obtain⟨m,h⟩:=hg;exact X2 h,hg⟩,fun x hx=>ht x hx⟩
theorem UD{α β:Type}{f:α->Option β}:∀{l:List α} {r:List β},l.mapM f=some r->r.length=l.length/\∀(i:Nat) x,l[i]?=some x->∃y,r[i]?=some y/\f x=some y
 | [],r,h=>by simp_all
 |a::l,r,h=>by
  rw[List.mapM_cons]at h;cases ha:f a with
  |none=>simp_all
  |some b=>
   cases hl:l.mapM f with
   |none=>simp_all
   |some s=>
    simp[ha,hl]at h;subst h;obtain⟨h1,h2⟩:=UD hl<;>grind
theorem Wq{base:Nat}{a:Addr}{n:Nat}{cs:List Value}(h:w.cells? base a n=some cs) :
  cs.length=n/\(0<n->a.spot=none)/\∀j,j<n->∃v,cs[j]?=some v/\w.cell? ⟨a.block,a.off+j,none⟩=some v:=by
 unfold World.cells? at h;split at h
 .obtain⟨h1,h2⟩:=UD h;have one:∀j,j<n->∃v,cs[j]?=some v/\w.cell? (a.add j)=some v:=fun j hj=>by
   obtain⟨v,e1,e2⟩:=h2 j j (by simp[hj])<;>simp_all
  have hsp:0<n->a.spot=none:=fun hn=>by
   obtain⟨v,_,hv⟩:=one 0 hn;simp only[Addr.add,Ax]at hv;cases hs:a.spot<;>grind [World.cell?]
  refine⟨by simp_all,hsp,fun j hj=>?_⟩;obtain⟨v,e1,e2⟩:=one j hj;refine⟨v,e1,?_⟩;have hs:=hsp ch;have e:a.add j=⟨a.block,a.off+j,none⟩:=by
   unfold Addr.add;split
   .rename_i h0;subst h0;cases a;simp_all
   .rfl
  simp_all
 simp_all
section
variable {H:Type}{enc:TypeId×Value->H}{P:Program}{w:World}{bk:DataW H->Nat}{N:Nat}
structure XE(bk:DataW H->Nat):Prop where
 slice:∀es sp,es.length<=bk (.slice es sp)/\∀d∈es,bk d<=bk (.slice es sp)
 agg:∀ps,∀d∈ps,bk d<=bk (.agg ps)
 str:∀b:List UInt8,b.length<=bk (.lit (.string b))
def J8(enc:TypeId×Value->H)(P:Program)(w:World)(bk:DataW H->Nat)(N:Nat)(t:TypeId){α:Type}(e:α->List AV)(ok:α->Prop):Prop:=
 ∀(fuel:Nat) (cs:List Value) (d:DataW H) (ps:List MemPlace),DataW.trod enc P w 0 (fun _=>true) true fuel t cs=some (d,ps)->bk d<=N->∃x:α,Ck (m8 w) w FD (e x) cs/\ok x
theorem RA{U:Nat->Prop}{a:AV}{v:Value}(h1:v.oneCell'=true)(h2:Ba g w U a v):Ck g w U [a] [v]:=by
 refine⟨rfl,fun x hx=>by simp_all,fun i av x q1 q2=>?_⟩
 grind
theorem lq{U:Nat->Prop}{a b:List AV}{c d:List Value}(h:Ck g w U a c)(k:Ck g w U b d):Ck g w U (a++b) (c++d):=by
 obtain⟨h1,h2,h3⟩:=h;obtain⟨k1,k2,k3⟩:=k;refine⟨by simp_all,fun x hx=>(Bh.1 hx).elim (h2 x) (k2 x),fun i av x q1 q2=>?_⟩
 grind
theorem za{U:Nat->Prop}:Ck g w U [] []:=⟨rfl,(fun x hx=>by cases hx),fun i av x q1=>by simp_all⟩
theorem Ra{t:TypeId}{k:IntKind}(hu:P.underlying t=some (.int k)):J8 enc P w bk N t (fun n:Int=>[AV.v (.int k n)]) (fun n=>k.min<=n/\n<=k.max):=by
 intro fuel cs d ps h _;cases fuel with
 |zero=>simp[DataW.trod]at h
 |succ fuel=>
  rw[DataW.trod_step]at h;unfold DataW.trodStep at h;rw[hu]at h;split at h<;>rename_i he<;>first | cases he | skip
  all_goals first | (split at h<;>first | cases h | skip) | cases h | skip
  rename_i n hc _;obtain⟨rfl,hw⟩:=hc;simp only[Lit.wf,At,Bj]at hw;exact⟨_,RA rfl (.v _ _),hw⟩
theorem dY{t:TypeId}(hu:P.underlying t=some .bool):J8 enc P w bk N t (fun b:Bool=>[AV.v (.bool b)]) (fun _=>True):=by
 intro fuel cs d ps h _;cases fuel with
 |zero=>simp[DataW.trod]at h
 |succ fuel=>
  rw[DataW.trod_step]at h;unfold DataW.trodStep at h;rw[hu]at h;split at h<;>rename_i he<;>first | cases he | skip
  all_goals first | cases h | skip
  exact⟨_,RA rfl (.v _ _),trivial⟩
theorem YJ{t:TypeId}(hB:XE bk)(hu:P.underlying t=some .string):J8 enc P w bk N t (fun s:CS=>[AV.v (.string s)]) (fun s=>s.size<=N):=by
 intro fuel cs d ps h hb;cases fuel with
 |zero=>simp[DataW.trod]at h
 |succ fuel=>
  rw[DataW.trod_step]at h;unfold DataW.trodStep at h;rw[hu]at h;split at h<;>rename_i he<;>first | cases he | skip
  all_goals first | (split at h<;>first | cases h | skip) | cases h | skip
  rename_i s hs;refine⟨s,RA rfl (.v _ _),?_⟩
  have:=hB.str s.data.toList
  have e:s.data.toList.length=s.size:=B0
  omega
theorem Fw{t e:TypeId}{α:Type}{E:α->List AV}{ok:α->Prop}{m:Nat}(hB:XE bk)(hu:P.underlying t=some (.slice e))(hm:P.cellsOf e=m+1)(hE:∀x,(E x).length=m+1)(he:J8 enc P w bk N e E ok) :
  J8 enc P w bk N t (fun l:List α=>[AV.slice .none (l.map E)]) (fun l=>l.length<=N/\∀x∈l,ok x):=by
 intro fuel cs d ps h hb;cases fuel with
 |zero=>simp[DataW.trod]at h
 |succ fuel=>
  rw[DataW.trod_step]at h;unfold DataW.trodStep at h;rw[hu]at h;split at h<;>rename_i hq<;>first | cases hq | skip
  all_goals first | (cases h;done) | skip
  .cases h
   exact⟨[],RA rfl (.snil _ _ _),Aj _,fun x hx=>by cases hx⟩
  .rename_i a len cap;simp only at h;split at h
   .rename_i hc;simp only[Cj,Tg]at h;obtain⟨uI,hel,rest,_,hd⟩:=h;simp only[Prod.mk.injEq]at hd;obtain⟨hd,_⟩:=hd;obtain⟨hl,FW⟩:=UD hel;rw[RB]at hl;have hbs:=hB.slice (uI.map (·.1)) (rest.map (·.1));rw[hd]at hbs;rw[BO]at hbs;have one:∀i,i<len->∃(x:α) (vs:List Value),w.cells? 0 (a.add (i*P.cellsOf e)) (P.cellsOf e)=some vs/\Ck (m8 w) w FD (E x) vs/\ok x:=fun i hi=>by
     obtain⟨y,hy,hf⟩:=FW i i B0;simp only[Tg]at hf;obtain⟨vs,hv,ht⟩:=hf;obtain⟨x,r1,r2⟩:=he fuel vs y.1 y.2 ht (Av (hbs.2 y.1 (Ay.2 ⟨y,AG hy,rfl⟩)) hb)<;>grind
    have build:∀k,k<=len->∃l:List α,l.length=k/\∀(i:Nat) x,l[i]?=some x->∃vs:List Value,w.cells? 0 (a.add (i*P.cellsOf e)) (P.cellsOf e)=some vs/\Ck (m8 w) w FD (E x) vs/\ok x:=fun k=>by
     induction k with
     |zero=>simp_all
     |succ k ih=>
      intro hk;obtain⟨l,h1,h2⟩:=ih ch;obtain⟨x,hx⟩:=one k ch;refine⟨l++[x],by simp_all,fun i y q=>?_⟩
      grind
    obtain⟨l,h1,h2⟩:=build len (Ao _);refine⟨l,RA rfl ?_,by omega,fun x hx=>?_⟩
    .cases Dr:len with
     |zero=>
      grind [Ba.snil]
     |succ n=>
      have hsp:a.spot=none:=by
       obtain⟨x,vs,hv,_⟩:=one 0 ch
       have:=(Wq hv).2.1 ch
       grind [Addr.add]
      have ea:a=⟨a.block,a.off,none⟩:=by cases a;simp_all
      rw[<-Dr,<-h1,show l.length=(l.map E).length by simp,ea];have cell:∀(i:Nat) (c:List AV) (j:Nat) (av:AV),(l.map E)[i]?=some c->c[j]?=some av->∃v,w.cell? ⟨a.block,a.off+i*(m+1)+j,none⟩=some v/\v.oneCell'=true/\Ba (m8 w) w FD av v:=by
       intro i c j av q1 q2;rw[B1,Cj]at q1;obtain⟨x,q1,rfl⟩:=q1;obtain⟨vs,hv,hr,_⟩:=h2 i x q1;obtain⟨k1,_,k3⟩:=Wq hv;have hj:j<m+1:=by
        grind
       obtain⟨v,e1,e2⟩:=k3 j ch;refine⟨v,?_,hr.2.1 v (AG e1),hr.2.2 j av v q2 e1⟩
       grind [Addr.add]
      refine .slice _ _ a.block a.off (m+1) cap (fun i j=>(w.cell? ⟨a.block,a.off+i*(m+1)+j,none⟩).getD undef) aa0 (fun i c q=>?_) (fun i c j av q1 q2=>?_) (fun i c j av q1 q2=>?_)
      .grind
      .obtain⟨v,e1,e2,_⟩:=cell i c j av q1 q2;exact⟨X2 e1,by grind,by grind⟩
      .obtain⟨v,e1,_,e3⟩:=cell i c j av q1 q2;rw[e1];exact e3
    grind [List.mem_iff_getElem?]
   simp_all
theorem Nm{t e:TypeId}(hu:P.underlying t=some (.slice e)):J8 enc P w bk N t (fun _:Unit=>[AV.junk]) (fun _=>True):=by
 intro fuel cs d ps h _;cases fuel with
 |zero=>simp[DataW.trod]at h
 |succ fuel=>
  rw[DataW.trod_step]at h;unfold DataW.trodStep at h;rw[hu]at h;split at h<;>rename_i hq<;>first | cases hq | skip
  all_goals first | (cases h;done) | skip
  all_goals exact⟨(),RA rfl (.junk _ _),trivial⟩
theorem J8.to{t:TypeId}{α β:Type}{e:α->List AV}{ok:α->Prop}{e' : β->List AV}{ok' : β->Prop}(h:J8 enc P w bk N t e ok)(f:α->β)(hf:∀x,ok x->e' (f x)=e x/\ok' (f x)):J8 enc P w bk N t e' ok':=by
 intro fuel cs d ps k hb;obtain⟨x,h1,h2⟩:=h fuel cs d ps k hb<;>grind
def XH(enc:TypeId×Value->H)(P:Program)(w:World)(bk:DataW H->Nat)(N L:Nat)(l:List Field)(o:Nat){α:Type}(e:α->List AV)(ok:α->Prop):Prop:=
 ∀(fuel:Nat) (cs:List Value) (xs:List (DataW H×List MemPlace)),cs.length=L->l.mapM (fun f=>DataW.trod enc P w 0 (fun _=>true) true fuel f.type ((cs.drop f.offset).take (P.cellsOf f.type)))=some xs->(∀x∈xs,bk x.1<=N) ->
  ∃x:α,Ck (m8 w) w FD (e x) (cs.drop o)/\ok x
theorem Fe{L:Nat}:XH enc P w bk N L [] L (fun _:Unit=>[]) (fun _=>True):=by
 intro fuel cs xs hl _ _;refine⟨(),?_,trivial⟩
 grind [za]
theorem Bp{L o n:Nat}{f:Field}{l:List Field}{α β:Type}{e:α->List AV}{ok:α->Prop}{e' : β->List AV}{ok' : β->Prop}(ho:f.offset=o)(hn:P.cellsOf f.type=n)(h:J8 enc P w bk N f.type e ok)(k:XH enc P w bk N L l (o+n) e' ok') :
  XH enc P w bk N L (f::l) o (fun p:α×β=>e p.1++e' p.2) (fun p=>ok p.1/\ok' p.2):=by
 intro fuel cs xs hl hx hb;rw[List.mapM_cons]at hx;simp only[Option.bind_eq_bind,Tg]at hx;obtain⟨y,hy,ys,hys,sr⟩:=hx;simp only[Option.pure_def,DJ]at sr;subst sr;obtain⟨x,r1,r2⟩:=h fuel _ y.1 y.2 hy (hb y (Ah ..));obtain⟨z,s1,s2⟩:=k fuel cs ys hl hys (fun q hq=>hb q (Am _ hq));refine⟨(x,z),?_,r2,s2⟩
 grind [List.drop_drop,List.take_append_drop,lq]
theorem Ec{t:TypeId}{L:Nat}{fs:Array Field}{α:Type}{e:α->List AV}{ok:α->Prop}(hB:XE bk)(hu:P.underlying t=some (.struct fs))(hL:P.cellsOf t=L)(h:XH enc P w bk N L fs.toList 0 e ok):J8 enc P w bk N t e ok:=by
 intro fuel cs d ps k hb;cases fuel with
 |zero=>simp[DataW.trod]at k
 |succ fuel=>
  rw[DataW.trod_step]at k;unfold DataW.trodStep at k;rw[hu]at k
  change (if cs.length=P.cellsOf t then(fs.toList.mapM fun f=>DataW.trod enc P w 0 (fun _=>true) true fuel f.type ((cs.drop f.offset).take (P.cellsOf f.type))).map fun xs=>(DataW.agg (xs.map (·.1)),xs.flatMap (·.2))else none)=some (d,ps)at k
  split at k
  .rename_i hc;simp only[Cj,Prod.mk.injEq]at k;obtain⟨xs,hx,hd,_⟩:=k;have hba:=hB.agg (xs.map (·.1));rw[hd]at hba;obtain⟨x,r1,r2⟩:=h fuel cs xs ch hx (fun y hy=>Av (hba y.1 (Ay.2 ⟨y,hy,rfl⟩)) hb)<;>grind
  simp_all
theorem PV{t:TypeId}{α:Type}{e:α->AV}{ok:α->Prop}(h:J8 enc P w bk N t (fun x=>[e x]) ok){v:Value}{d:DataW H}(hv:v.oneCell'=true)(k:DataW.Trod enc P w 0 (fun _=>true) true t v d p)(hb:bk d<=N) :
  ∃x,Ba (m8 w) w FD (e x) v/\ok x:=by
 obtain⟨fuel,k⟩:=k;have ec:v.cells.toList=[v]:=by cases v<;>first | rfl | cases hv
 rw[ec]at k;obtain⟨x,r1,r2⟩:=h fuel _ d p k hb;exact⟨x,r1.2.2 0 _ _ rfl rfl,r2⟩
theorem bF{t:TypeId}{α:Type}{e:α->List AV}{ok:α->Prop}(h:J8 enc P w bk N t e ok){cs:Array Value}{d:DataW H}(k:DataW.Trod enc P w 0 (fun _=>true) true t (.agg cs) d p)(hb:bk d<=N) :
  ∃x,Ba (m8 w) w FD (.agg (e x)) (.agg cs)/\ok x:=by
 obtain⟨fuel,k⟩:=k;obtain⟨x,r1,r2⟩:=h fuel cs.toList d p k hb;refine⟨x,.agg _ _ _ (by have:=r1.1;omega) (fun i y q=>r1.2.1 y aa0) (fun i av y q1 q2=>r1.2.2 i av y q1 B0),r2⟩
end
end Go.Eng
namespace Go.Eng
open Go.Proofs
abbrev dTI:TI:=fb
abbrev tF:TI:=⟨.func,1,8,.nilFunc,true⟩
abbrev tI:TI:=⟨.int .i64,1,8,.int .i64 0,true⟩
abbrev tP(n:Nat):TI:=⟨.ptr n,1,8,.pointer none,true⟩
abbrev tS(n:Nat):TI:=⟨.slice n,1,24,.slice none 0 0,true⟩
def oN{α:Type}(d:α):List α -> Nat -> α
 | [],_ => d
 |a::r,n => match n with |0 => a |n + 1 => oN d r n
abbrev tiN:TI:=fb
def AgM:List TI:=[⟨.other,1,0,(.tuple #[]),true⟩,tF,tI,tI,⟨.bool,1,1,(.bool .false),true⟩,⟨.int .u8,1,1,(.int .u8 0),true⟩,⟨.int .u8,1,1,(.int .u8 0),true⟩,⟨.struct [(2,0),(3,1),(4,2),(6,3)],4,24,(.agg #[.int .i64 0,.int .i64 0,.bool .false,.int .u8 0]),true⟩,⟨.struct [(2,0),(3,1),(4,2),(6,3)],4,24,(.agg #[.int .i64 0,.int .i64 0,.bool .false,.int .u8 0]),true⟩,⟨.string,1,16,(.string ⟨#[]⟩),true⟩,⟨.string,1,16,(.string ⟨#[]⟩),true⟩,⟨.string,1,16,(.string ⟨#[]⟩),true⟩,⟨.int .u64,1,8,(.int .u64 0),true⟩,⟨.struct [(9,0),(12,1)],2,24,(.agg #[.string ⟨#[]⟩,.int .u64 0]),false⟩,⟨.struct [(9,0),(12,1)],2,24,(.agg #[.string ⟨#[]⟩,.int .u64 0]),false⟩,⟨.ptr 451,1,8,(.pointer .none),true⟩]
def AgN:List TI:=[⟨.ptr 454,1,8,(.pointer .none),true⟩,⟨.ptr 461,1,8,(.pointer .none),true⟩,⟨.struct [(17,0)],1,8,(.agg #[.pointer .none]),false⟩,⟨.struct [(17,0)],1,8,(.agg #[.pointer .none]),false⟩,⟨.iface,1,16,.nilIface,true⟩,⟨.int .i32,1,4,(.int .i32 0),true⟩,⟨.slice 74,1,24,(.slice .none 0 0),true⟩,tF,tI,⟨.other,1,0,(.tuple #[.int .i64 0,.int .i64 0]),true⟩,tF,tF,tF,tF,⟨.slice 78,1,24,(.slice .none 0 0),true⟩,⟨.slice 182,1,24,(.slice .none 0 0),true⟩]
def AgO:List TI:=[⟨.struct [(30,0),(31,1)],2,48,(.agg #[.slice .none 0 0,.slice .none 0 0]),true⟩,⟨.struct [(30,0),(31,1)],2,48,(.agg #[.slice .none 0 0,.slice .none 0 0]),true⟩,⟨.slice 48,1,24,(.slice .none 0 0),true⟩,⟨.slice 72,1,24,(.slice .none 0 0),true⟩,⟨.struct [(9,0),(35,1)],2,40,(.agg #[.string ⟨#[]⟩,.slice .none 0 0]),true⟩,⟨.struct [(9,0),(35,1)],2,40,(.agg #[.string ⟨#[]⟩,.slice .none 0 0]),true⟩,tF,tF,tF,⟨.other,1,0,(.tuple #[.slice .none 0 0,.int .i64 0]),true⟩,tF,tF,tiN,tiN,⟨.struct [(3,0),(3,1),(3,2)],3,24,(.agg #[.int .i64 0,.int .i64 0,.int .i64 0]),true⟩,tiN]
def AgP:List TI:=[⟨.struct [(9,0),(46,1)],4,40,(.agg #[.string ⟨#[]⟩,.int .i64 0,.int .i64 0,.int .i64 0]),true⟩,tiN,⟨.slice 92,1,24,(.slice .none 0 0),true⟩,⟨.slice 92,1,24,(.slice .none 0 0),true⟩,⟨.slice 9,1,24,(.slice .none 0 0),true⟩,tiN,⟨.struct [(9,0),(9,1),(51,2),(52,3),(9,4)],5,96,(.agg #[.string ⟨#[]⟩,.string ⟨#[]⟩,.slice .none 0 0,.slice .none 0 0,.string ⟨#[]⟩]),true⟩,⟨.slice 60,1,24,(.slice .none 0 0),true⟩,tiN,tiN,⟨.slice 54,1,24,(.slice .none 0 0),true⟩,tiN,⟨.slice 95,1,24,(.slice .none 0 0),true⟩,tF,⟨.slice 68,1,24,(.slice .none 0 0),true⟩,tiN]
def AgQ:List TI:=[tF,tF,tiN,tiN,⟨.struct [(3,0),(46,1),(4,4)],5,40,(.agg #[.int .i64 0,.int .i64 0,.int .i64 0,.int .i64 0,.bool .false]),true⟩,tiN,tiN,tiN,⟨.struct [(52,0),(22,1)],2,48,(.agg #[.slice .none 0 0,.slice .none 0 0]),true⟩,tiN,⟨.struct [(3,0),(3,1)],2,16,(.agg #[.int .i64 0,.int .i64 0]),true⟩,tiN,tiN,tiN,⟨.struct [(9,0),(46,1),(60,4),(9,5),(9,6),(9,7),(4,8)],9,120,(.agg #[.string ⟨#[]⟩,.int .i64 0,.int .i64 0,.int .i64 0,.slice .none 0 0,.string ⟨#[]⟩,.string ⟨#[]⟩,.string ⟨#[]⟩,.bool .false]),true⟩,tiN]
def AgR:List TI:=[tiN,tiN,tiN,tF,tiN,tiN,tiN,tiN,tiN,tiN,tiN,tiN,⟨.struct [(3,0),(3,1)],2,16,(.agg #[.int .i64 0,.int .i64 0]),true⟩,tiN,tiN,⟨.struct [(9,0),(51,1)],2,40,(.agg #[.string ⟨#[]⟩,.slice .none 0 0]),true⟩]
def AgS:List TI:=[tiN,tiN,⟨.int .u64,1,8,(.int .u64 0),true⟩,⟨.int .u64,1,8,(.int .u64 0),true⟩,tiN,tiN,⟨.slice 52,1,24,(.slice .none 0 0),true⟩,tiN,tiN,tF,tiN,tiN,tiN,tiN,tiN,tiN]
def AgT:List TI:=[tiN,tiN,tiN,⟨.slice 118,1,24,(.slice .none 0 0),true⟩,tiN,tiN,⟨.struct [(3,0),(78,1)],10,128,(.agg #[.int .i64 0,.string ⟨#[]⟩,.int .i64 0,.int .i64 0,.int .i64 0,.slice .none 0 0,.string ⟨#[]⟩,.string ⟨#[]⟩,.string ⟨#[]⟩,.bool .false]),true⟩,⟨.slice 46,1,24,(.slice .none 0 0),true⟩,tiN,tiN,tiN,tiN,tiN,tiN,tiN,⟨.map 9 78,1,8,(.map .none),true⟩]
def AgU:List TI:=[tiN,tiN,⟨.ptr 136,1,8,(.pointer .none),true⟩,tiN,tiN,tiN,tiN,tiN,⟨.struct [(127,0),(127,1),(34,2),(34,3),(52,4)],5,88,(.agg #[.map .none,.map .none,.slice .none 0 0,.slice .none 0 0,.slice .none 0 0]),true⟩,tF,tiN,⟨.slice 337,1,24,(.slice .none 0 0),true⟩,⟨.slice 285,1,24,(.slice .none 0 0),true⟩,tiN,⟨.struct [(4,0),(34,1),(139,2),(140,3)],4,80,(.agg #[.bool .false,.slice .none 0 0,.slice .none 0 0,.slice .none 0 0]),true⟩,tiN]
def AgV:List TI:=[tiN,tiN,tiN,tF,⟨.map 48 78,1,8,(.map .none),true⟩,⟨.map 9 30,1,8,(.map .none),true⟩,tiN,⟨.struct [(148,0),(149,1)],2,16,(.agg #[.map .none,.map .none]),true⟩,tiN,tiN,tiN,tiN,tF,tiN,⟨.ptr 232,1,8,(.pointer .none),true⟩,tiN]
def AbP:List TI:=[tiN,tiN,tiN,tiN,⟨.slice 5,1,24,(.slice .none 0 0),true⟩,tiN,⟨.slice 240,1,24,(.slice .none 0 0),true⟩,tiN,⟨.struct [(52,0),(166,1)],2,48,(.agg #[.slice .none 0 0,.slice .none 0 0]),true⟩,tiN,tiN,tiN,tiN,tiN,tiN,tiN]
def AbQ:List TI:=[tiN,⟨.slice 469,1,24,(.slice .none 0 0),true⟩,⟨.slice 471,1,24,(.slice .none 0 0),true⟩,⟨.slice 473,1,24,(.slice .none 0 0),true⟩,⟨.slice 475,1,24,(.slice .none 0 0),true⟩,tiN,⟨.struct [(9,0),(177,1),(178,2),(179,3),(180,4)],5,112,(.agg #[.string ⟨#[]⟩,.slice .none 0 0,.slice .none 0 0,.slice .none 0 0,.slice .none 0 0]),true⟩,tiN,tiN,tF,⟨.ptr 95,1,8,(.pointer .none),true⟩,tiN,tiN,tiN,tiN,tF]
def AbR:List TI:=[tiN,tiN,tiN,tiN,tiN,tiN,tiN,tiN,tiN,tF,⟨.slice 206,1,24,(.slice .none 0 0),true⟩,tiN,tiN,tiN,⟨.struct [(9,0),(3,1),(3,2)],3,32,(.agg #[.string ⟨#[]⟩,.int .i64 0,.int .i64 0]),true⟩,tiN]
def AbS:List TI:=[tiN,⟨.map 9 4,1,8,(.map .none),true⟩,tiN,tF,⟨.ptr 223,1,8,(.pointer .none),true⟩,tiN,⟨.other,1,0,(.tuple #[.int .i64 0,.bool .false]),true⟩,tiN,⟨.map 9 220,1,8,(.map .none),true⟩,⟨.map 9 51,1,8,(.map .none),true⟩,⟨.slice 283,1,24,(.slice .none 0 0),true⟩,⟨.map 337 3,1,8,(.map .none),true⟩,⟨.slice 266,1,24,(.slice .none 0 0),true⟩,⟨.slice 140,1,24,(.slice .none 0 0),true⟩,tiN,⟨.struct [(60,0),(216,1),(217,2),(139,3),(218,4),(219,5),(4,6),(220,7),(34,8),(221,9)],10,176,(.agg #[.slice .none 0 0,.map .none,.map .none,.slice .none 0 0,.slice .none 0 0,.map .none,.bool .false,.slice .none 0 0,.slice .none 0 0,.slice .none 0 0]),true⟩]
def AbT:List TI:=[tiN,tiN,tiN,tiN,tiN,⟨.int .u32,1,4,(.int .u32 0),true⟩,⟨.array 8 229,8,32,(.agg (Array.replicate 8 (.int .u32 0))),true⟩,tiN,⟨.struct [(230,0),(9,8),(98,9)],10,56,(.agg #[.int .u32 0,.int .u32 0,.int .u32 0,.int .u32 0,.int .u32 0,.int .u32 0,.int .u32 0,.int .u32 0,.string ⟨#[]⟩,.int .u64 0]),true⟩,⟨.array 8 5,8,8,(.agg (Array.replicate 8 (.int .u8 0))),true⟩,tiN,⟨.slice 229,1,24,(.slice .none 0 0),true⟩,tiN,tiN,tiN,tiN]
def AbU:List TI:=[⟨.struct [(3,0),(3,1)],2,16,(.agg #[.int .i64 0,.int .i64 0]),true⟩,tiN,tiN,tiN,tiN,tiN,tiN,tiN,tiN,tiN,tiN,⟨.array 3 3,3,24,(.agg #[.int .i64 0,.int .i64 0,.int .i64 0]),true⟩,tiN,tiN,tiN,tiN]
def AbV:List TI:=[⟨.other,1,0,(.tuple #[.slice .none 0 0,.int .i64 0]),true⟩,tiN,tiN,⟨.map 9 3,1,8,(.map .none),true⟩,tiN,tiN,tiN,tiN,tiN,tiN,⟨.struct [(3,0),(78,1)],10,128,(.agg #[.int .i64 0,.string ⟨#[]⟩,.int .i64 0,.int .i64 0,.int .i64 0,.slice .none 0 0,.string ⟨#[]⟩,.string ⟨#[]⟩,.string ⟨#[]⟩,.bool .false]),true⟩,tiN,⟨.slice 274,1,24,(.slice .none 0 0),true⟩,tiN,tiN,⟨.slice 3,1,24,(.slice .none 0 0),true⟩]
def AbW:List TI:=[tiN,tiN,⟨.struct [(95,0),(9,2),(3,3),(3,4)],5,72,(.agg #[.string ⟨#[]⟩,.slice .none 0 0,.string ⟨#[]⟩,.int .i64 0,.int .i64 0]),true⟩,tF,tiN,tiN,tiN,tiN,tiN,tiN,⟨.slice 343,1,24,(.slice .none 0 0),true⟩,⟨.slice 343,1,24,(.slice .none 0 0),true⟩,tiN,⟨.struct [(9,0),(3,1),(3,2)],3,32,(.agg #[.string ⟨#[]⟩,.int .i64 0,.int .i64 0]),true⟩,tiN,tiN]
def AbX:List TI:=[tiN,tiN,tiN,tiN,⟨.array 64 229,64,256,(.agg (Array.replicate 64 (.int .u32 0))),true⟩,tiN,tiN,⟨.other,1,0,(.tuple #[.int .u64 0,.int .u64 0]),true⟩,tiN,⟨.ptr 299,1,8,(.pointer .none),true⟩,tiN,⟨.struct [(297,0),(164,1)],2,32,(.agg #[.pointer .none,.slice .none 0 0]),true⟩,tiN,tiN,⟨.iface,1,16,.nilIface,false⟩,⟨.other,1,0,(.tuple #[.int .i64 0,.nilIface]),true⟩]
def AbY:List TI:=[tiN,tiN,tiN,tiN,⟨.array 24 5,24,24,(.agg (Array.replicate 24 (.int .u8 0))),true⟩,tiN,tiN,⟨.other,1,0,(.tuple #[.slice .none 0 0,.string ⟨#[]⟩]),true⟩,tiN,tiN,tiN,tI,⟨.other,1,0,(.tuple #[.int .i64 0,.int .i64 0]),true⟩,tiN,tiN,tiN]
def AbZ:List TI:=[tiN,tiN,tiN,tiN,tF,tiN,tiN,tiN,tiN,tiN,tiN,tiN,tiN,tF,tiN,tiN]
def Ac0:List TI:=[tiN,⟨.struct [(3,0),(9,1),(3,2),(3,3),(3,4),(3,5)],6,56,(.agg #[.int .i64 0,.string ⟨#[]⟩,.int .i64 0,.int .i64 0,.int .i64 0,.int .i64 0]),true⟩,tiN,tiN,tiN,tiN,tiN,⟨.struct [(9,0),(4,1),(51,2)],3,48,(.agg #[.string ⟨#[]⟩,.bool .false,.slice .none 0 0]),true⟩,tF,tiN,tiN,tiN,⟨.ptr 5,1,8,(.pointer .none),true⟩,⟨.other,1,0,(.tuple #[.int .u32 0,.int .u32 0]),true⟩,tiN,⟨.other,1,0,(.tuple #[.int .u64 0,.int .u64 0]),true⟩]
def Ac1:List TI:=[tiN,tiN,tiN,⟨.array 20 98,20,160,(.agg (Array.replicate 20 (.int .u64 0))),true⟩,⟨.array 65 5,65,65,(.agg ((List.replicate 32 (.int .u8 0)).append (List.replicate 33 (.int .u8 0))).toArray),true⟩,⟨.int .u64,1,8,(.int .u64 0),true⟩,tiN,tiN,tiN,⟨.ptr 3,1,8,(.pointer .none),true⟩,tiN,tiN,tiN,tiN,tF,tiN]
def Ac2:List TI:=[tiN,tiN,⟨.other,1,0,(.tuple #[.string ⟨#[]⟩,.bool .false]),true⟩,tiN,tiN,tiN,tiN,tiN,tiN,tF,tiN,tiN,tiN,tiN,tiN,tiN]
def Ac3:List TI:=[tiN,tF,⟨.other,1,8,(.pointer .none),true⟩,tiN,tiN,⟨.ptr 357,1,8,(.pointer .none),true⟩,⟨.other,1,0,(.tuple #[.int .i64 0,.int .i64 0]),true⟩,tiN,tiN,tiN,tiN,tiN,tiN,tiN,tiN,tiN]
def Ac4:List TI:=[tiN,tiN,tiN,tiN,tiN,tiN,tiN,tiN,tiN,⟨.map 9 343,1,8,(.map .none),true⟩,tiN,tiN,tF,tiN,⟨.array 32 5,32,32,(.agg (Array.replicate 32 (.int .u8 0))),true⟩,⟨.array 64 5,64,64,(.agg (Array.replicate 64 (.int .u8 0))),true⟩]
def Ac5:List TI:=[tiN,tiN,tiN,tiN,⟨.slice 51,1,24,(.slice .none 0 0),true⟩,⟨.map 3 3,1,8,(.map .none),true⟩,tiN,tiN,tiN,⟨.other,1,0,(.tuple #[.int .i32 0,.int .i64 0]),true⟩,tiN,tiN,tiN,tiN,tiN,tiN]
def Ac6:List TI:=[tiN,tiN,tiN,tiN,tiN,tiN,tiN,tiN,tiN,tiN,⟨.array 256 5,256,256,(.agg (((List.replicate 64 (.int .u8 0)).append (List.replicate 64 (.int .u8 0))).append ((List.replicate 64 (.int .u8 0)).append (List.replicate 64 (.int .u8 0)))).toArray),true⟩,tiN,⟨.struct [(5,0),(5,1)],2,2,(.agg #[.int .u8 0,.int .u8 0]),true⟩,⟨.array 16 444,32,32,(.agg (Array.replicate 32 (.int .u8 0))),true⟩,tiN,tiN]
def Ac7:List TI:=[tiN,tiN,tiN,⟨.struct [(17,0),(17,1),(17,2),(9,3)],4,40,(.agg #[.pointer .none,.pointer .none,.pointer .none,.string ⟨#[]⟩]),false⟩,tiN,tiN,⟨.other,0,0,(.agg #[]),false⟩,⟨.int .u8,1,1,(.int .u8 0),true⟩,⟨.int .u8,1,1,(.int .u8 0),true⟩,tF,⟨.int .i32,1,4,(.int .i32 0),true⟩,⟨.int .i32,1,4,(.int .i32 0),true⟩,tiN,⟨.struct [(12,0),(12,1),(229,2),(455,3),(5,4),(5,5),(456,6),(457,7),(348,8),(458,9),(459,10)],11,48,(.agg #[.int .u64 0,.int .u64 0,.int .u32 0,.int .u8 0,.int .u8 0,.int .u8 0,.int .u8 0,.nilFunc,.pointer .none,.int .i32 0,.int .i32 0]),false⟩,tiN,⟨.slice 477,1,24,(.slice .none 0 0),true⟩]
def Ac8:List TI:=[⟨.slice 467,1,24,(.slice .none 0 0),true⟩,⟨.slice 479,1,24,(.slice .none 0 0),true⟩,tiN,⟨.struct [(3,0),(9,1),(9,2),(464,3),(465,4)],5,88,(.agg #[.int .i64 0,.string ⟨#[]⟩,.string ⟨#[]⟩,.slice .none 0 0,.slice .none 0 0]),true⟩,tiN,⟨.struct [(9,0),(463,1),(467,2),(467,7)],12,216,(.agg #[.string ⟨#[]⟩,.slice .none 0 0,.int .i64 0,.string ⟨#[]⟩,.string ⟨#[]⟩,.slice .none 0 0,.slice .none 0 0,.int .i64 0,.string ⟨#[]⟩,.string ⟨#[]⟩,.slice .none 0 0,.slice .none 0 0]),true⟩,tiN,⟨.struct [(9,0),(463,1),(467,2)],7,128,(.agg #[.string ⟨#[]⟩,.slice .none 0 0,.int .i64 0,.string ⟨#[]⟩,.string ⟨#[]⟩,.slice .none 0 0,.slice .none 0 0]),true⟩,tiN,⟨.struct [(9,0),(9,1),(9,2)],3,48,(.agg #[.string ⟨#[]⟩,.string ⟨#[]⟩,.string ⟨#[]⟩]),true⟩,tiN,⟨.struct [(9,0),(9,1)],2,32,(.agg #[.string ⟨#[]⟩,.string ⟨#[]⟩]),true⟩,tiN,⟨.struct [(9,0),(3,1),(467,2)],7,112,(.agg #[.string ⟨#[]⟩,.int .i64 0,.int .i64 0,.string ⟨#[]⟩,.string ⟨#[]⟩,.slice .none 0 0,.slice .none 0 0]),true⟩,tiN,⟨.struct [(9,0),(467,1),(4,6)],7,112,(.agg #[.string ⟨#[]⟩,.int .i64 0,.string ⟨#[]⟩,.string ⟨#[]⟩,.slice .none 0 0,.slice .none 0 0,.bool .false]),true⟩]
def tbl:List (List TI):=[AgM,AgN,AgO,AgP,AgQ,AgR,AgS,AgT,AgU,AgV,AbP,AbQ,AbR,AbS,AbT,AbU,AbV,AbW,AbX,AbY,AbZ,Ac0,Ac1,Ac2,Ac3,Ac4,Ac5,Ac6,Ac7,Ac8]
def tU:GK:=fun t => oN dTI (oN [] tbl (t / 16)) (t % 16)
def usedT:List Nat:=[0,1,2,3,4,5,6,7,8,9,10,11,12,13,14,15,16,17,18,19,20,21,22,23,24,25,26,27,28,29,30,31,32,33,34,35,36,37,38,39,40,41,42,43,46,48,50,51,52,54,55,58,60,61,62,64,65,68,72,74,78,83,92,95,98,99,102,105,115,118,119,127,130,136,137,139,140,142,147,148,149,151,156,158,164,166,168,177,178,179,180,182,185,186,191,201,202,206,209,211,212,214,216,217,218,219,220,221,223,229,230,232,233,235,240,251,256,259,266,268,271,274,275,282,283,285,292,295,297,299,302,303,308,311,315,316,324,333,337,343,344,348,349,351,355,356,357,361,366,370,377,385,386,389,390,409,412,414,415,420,421,425,442,444,445,451,454,455,456,457,458,459,461,463,464,465,467,469,471,473,475,477,479]
def restT:List Nat:=(List.range 480).filter fun t => !usedT.contains t
theorem pW:usedT.map tU = usedT.map (lk Tryz.prog):=by kernel_rfl
theorem tab_rest:restT.map tU = restT.map fun _ => dTI:=by kernel_rfl
theorem gJ{α:Type}(d:α):∀(l:List α) (n:Nat),l.length <= n -> oN d l n = d
 | [],_,_ => rfl
 |_::_,0,h => by simp at h
 |_::r,n + 1,h => gJ d r n (by simpa using h)
theorem Ct:Ca Tryz.prog tU:=by
 intro t
 by_cases h:t<480
 .by_cases u:t∈usedT
  .exact .inr (List.map_inj_left.1 pW t u)
  .exact .inl (List.map_inj_left.1 tab_rest t (CY.2 ⟨G3.2 h,by simpa using u⟩))
 .have h1:oN ([]:List TI) tbl (t / 16) = []:=gJ _ _ _ (by show 30 <= t / 16;omega)
  have h2:tU t = dTI:=by unfold tU;rw[h1];rfl
  exact .inl h2
end Go.Eng
namespace Go.Eng
variable {args:List AV}{f:Nat}(vals:List Value)
section
variable {P:Program}
theorem jh {fn : Func}{c : Code}(hf : P.funcs[f]? = some fn)(hn : (fn.name == "runtime.NumGoroutine") = false)(hb : fn.body = some c) : FL P f:=⟨fn, hf, hn, by simp_all⟩
theorem JN{res:AV}(v:Value)(hE:FL P f)(ha:args=vals.map .v)(sq:∀g w,Ba g w FD res v)(h:∀w,(∃m,w.cell? ⟨gB,0,none⟩=some (.int .i64 m))->Calls P f vals.toArray w fun e w'=>e=.returned v/\w'=w):IB P f args res:=by
 refine⟨hE,fun g w us hs hv hI=>?_⟩;have hu:us=vals.toArray:=by
  subst ha;rw[BO]at hs;refine Array.ext ch fun i h1 h2=>?_
  have:=hv i (.v (vals[i]' ch)) us[i] B0 B0
  grind [Ba.v_eq]
 subst hu;refine(h w hI.glob.1.2).mono ?_
 rintro e w' ⟨rfl,rfl⟩
 grind [Ba.up,Le.refl]
theorem pv{g:Gh}{w:World}:∀(vs:List Value),Ba g w FD (.tup (vs.map .v)) (.tuple vs.toArray):=fun vs=>
 .tup _ _ _ Cl fun i av x h1 h2=>by
  grind [Ba.v]
theorem kB(es:List Value)(T:TypeId)(hE:FL P f)(ha:args=vals.map .v)(h1:∀x∈es,x.oneCell'=true)(h:∀w,(∃m,w.cell? ⟨gB,0,none⟩=some (.int .i64 m))->Calls P f vals.toArray w fun e w'=>e=.returned (.slice (some ⟨w.heap.size,0,none⟩) es.length es.length)/\w'=w.alloc (.cells es.toArray T)) :
  IB P f args (.slice .none (es.map fun x=>[.v x])):=by
 refine⟨hE,fun g w us hs hv hI=>?_⟩;have hu:us=vals.toArray:=by
  subst ha;rw[BO]at hs;refine Array.ext ch fun i h1 h2=>?_
  have:=hv i (.v (vals[i]' ch)) us[i] B0 B0
  grind [Ba.v_eq]
 subst hu;refine(h w hI.glob.1.2).mono ?_
 rintro e w' ⟨rfl,rfl⟩
 have EO:(w.alloc (.cells es.toArray T)).heap[w.heap.size]?=some (.cells es.toArray T (0,0)):=GC w _ rfl;have Yr:∀b,b<w.heap.size->(w.alloc (.cells es.toArray T)).heap[b]?=w.heap[b]?:=fun b hb=>heap_alloc_old _ _ hb;have hK:EF g w ⟨g.ρ,g.ln,g.tk,g.own,g.more w.heap.size es.length⟩ (w.alloc (.cells es.toArray T)):=fun b o hb=>by
  have EU:=hI.slt b o hb;exact⟨.inl hb,by grind [World.cell?],fun es ck he=>(Yr b EU).trans he⟩
 refine⟨_,_,Ae,⟨g.ρ,g.ln,g.tk,g.own,g.more w.heap.size es.length⟩,rfl,⟨rfl,rfl⟩,?_,⟨rfl,rfl,rfl,?_,fun b hb _=>Yr b hb,fun b o hs=>?_,fun _=>trivial,fun _ _ _ h=>h.elim,fun _ _ h=>h.elim,fun b o hs=>?_,hI.glob.keep hK⟩,⟨.refl _ _,fun _ h=>h,hK⟩⟩
 .have hr:Ck ⟨g.ρ,g.ln,g.tk,g.own,g.more w.heap.size es.length⟩ (w.alloc (.cells es.toArray T)) FD (es.map fun x=>[AV.v x]).flatten (es.toArray.toList.take ((es.map fun x=>[AV.v x]).length*1)):=by
   have hfl:∀l:List Value,(l.map fun x=>[AV.v x]).flatten=l.map .v:=fun l=>by
    induction l<;>simp_all
   rw[hfl];simp only[BO,Nat.mul_one,Cf];refine⟨by simp,fun x hx=>h1 x ch,fun i av x q1 q2=>?_⟩
   grind [Ba.v]
  have:=Ba.slice_row (U:=AJ Ae) (cap:=es.length) (sz:=1) (es:=es.map fun x=>[AV.v x]) EO (fun cs hcs=>by
   grind) Cl hr (fun o ho=>.inr ⟨rfl,by simp_all⟩)
  simp_all
 .simp_all
 .rw[World.size_alloc];rcases hs with hs | ⟨rfl,_⟩
  .have:=hI.slt b o hs;omega
  .omega
 .rcases hs with hs | ⟨rfl,_⟩<;>simp_all
end
end Go.Eng
namespace Go.Eng
open Go.Sort
section
variable {P:Program}
theorem NV(F c:Array Value)(h:F.size<=c.size):(putCells id 0 F c).toList.take F.size=F.toList/\(putCells id 0 F c).size=c.size:=by
 have hs:(putCells id 0 F c).size=c.size:=by simp[putCells]
 refine⟨?_,hs⟩;apply Da
 grind [putCells]
theorem Ul(r:Nat)(o o' : HO):AO (Ak [(r,o)] Ae) r o'=Ak [(r,o')] Ae:=by
 grind [A5,Ak,BR,DK,Nat.beq_refl]
theorem Qz{f:Nat}{es:C0}{sz:Nat}{rest:List Value}{Q:C0->Prop}(hE:FL P f)
  (h0:es=[]->Q []/\∀w,Calls P f (#[.slice none 0 0]++rest.toArray) w fun e w'=>e=.returned (.tuple #[])/\w'=w)
  (h1:∀(g:Gh) (w:World) (b cap:Nat) (F:Array Value),Ck g w FD es.flatten F.toList->F.size=es.length*sz->Holds id w b 0 F->b<w.heap.size->Calls P f (#[.slice (some ⟨b,0,none⟩) es.length cap]++rest.toArray) w fun e w'=>
   e=.returned (.tuple #[])/\∃(F' : Array Value) (FR : C0) (n:Nat) (os:Array Obj),F'.size=F.size/\Q FR/\FR.length=es.length/\(∀cs∈FR,cs.length=sz) /\
    (∀(g:Gh) (w:World),Ck g w FD es.flatten F.toList->Ck g w FD FR.flatten F'.toList)/\w'=grow (putRow id (Sort.ahead w n) b 0 F') os) :
  AU P f (.msl 1000 es.length::rest.map .v) (Ak [(1000,.arr sz es)] Ae) fun r h'=>r=.tup []/\∃FR,Q FR/\h'=Ak [(1000,.arr sz FR)] Ae:=by
 refine⟨hE,fun g w us hs hv hI=>?_⟩;have ho:=hI.objs 1000;have he:Ak [(1000,HO.arr sz es)] Ae 1000=.arr sz es:=rfl;rw[he]at ho;obtain⟨t1,l1,al,a2⟩:=ho;simp only[Ap,BO]at hs
 -- the arguments
 have hu0:0<us.size:=ch
 have zA:=hv 0 (.msl 1000 es.length) us[0] rfl (B9 hu0);have hval:us[0]=g.ρ 1000:=by
  grind [cases Ba]
 have Mh:us=#[g.ρ 1000]++rest.toArray:=by
  refine Array.ext B0 fun i h1 h2=>?_;cases i with
  |zero=>simp_all
  |succ i=>
   have hi:i<rest.length:=ch
   have:=hv (i+1) (.v rest[i]) us[i+1] B0 (B9 h1)
   rw[this.v_eq];simp
 rw[Mh];rcases a2 with ⟨b1,b2,b3⟩ | ⟨b,cap,E,vs,b1,b2,b3,b4,b5,b6,b7⟩
 .subst b1;obtain⟨q,h0⟩:=h0 rfl;rw[b2];refine(h0 w).mono ?_
  rintro e w' ⟨rfl,rfl⟩
  grind [Ba.tup,Le.refl]
 .have hl:(Ak [(1000,HO.arr sz es)] Ae 1000).live:=trivial;have EU:=(hI.loc 1000 b hl b2).1;have Jk:es.length*sz<=vs.size:=by rw[b5];exact Bl _ b3
  have hF:((vs.toList.take (es.length*sz)).toArray).size=es.length*sz:=B0
  have hH:Holds id w b 0 (vs.toList.take (es.length*sz)).toArray:=fun j hj=>by
   grind [World.cell?,World.frozen?]
  rw[b1];refine(h1 g w b cap _ ch hF hH EU).mono ?_
  rintro e w' ⟨rfl,F',FR,n,os,f1,f2,f3,f4,f5,rfl⟩
  have hF' : F'.size=es.length*sz:=f1.trans hF;have xd:=NV F' vs ch;have uO : (grow (putRow id (Sort.ahead w n) b 0 F') os).heap[b]?=some (.cells (putCells id 0 F' vs) E (0,0)):=by
   rw[heap_grow_old _ _ B0];show(w.heap.modify b (onCells (putCells id 0 F')))[b]?=_;rw[Array.getElem?_modify,Ax rfl,b4];rfl
  have hob:∀k,k<w.heap.size->k≠b->(grow (putRow id (Sort.ahead w n) b 0 F') os).heap[k]?=w.heap[k]?:=fun k hk Ef=>by
   rw[heap_grow_old _ _ B0];simp[putRow,mapBlock,Array.getElem?_modify,Ne.symm Ef]
  have FE:w.heap.size<=(grow (putRow id (Sort.ahead w n) b 0 F') os).heap.size:=B0
  obtain⟨k1,k2⟩:=hI.upd 1000 (.arr sz FR) (g.ρ 1000) (g.ln 1000) (g.tk 1000) (g.own 1000) g.S (grow (putRow id (Sort.ahead w n) b 0 F') os) (some b) ⟨rfl,rfl,rfl,FE⟩
   (fun k hk Ef=>hob k hk (fun e=>Ef (by rw[e]))) (fun b' e=>by cases e;exact⟨hl,b2⟩) (fun _ _ h=>h) (fun _ _ h=>.inl h) (fun b' o e hs=>by cases e;exact absurd hs (b7 o))
   (fun b' _ e=>by rw[b2]at e;cases e;exact⟨Bm EU FE,.inl ⟨hl,b2⟩⟩) Cl (fun _=>⟨rfl,Ao _,fun _=>rfl,fun _=>rfl⟩) (fun hg hk=>by
    refine⟨by simp[Gh.upd,t1],by simp[Gh.upd,l1,f3],f4,.inr ⟨b,cap,E,_,by simp[Gh.upd,b1,f3],by simp[Gh.upd,b2],by omega,uO,by rw[xd.2,b5],?_,b7⟩⟩
    have:=f5 g w (by simpa using b6)
    rw[f3,<-hF',xd.1];exact this.mono hk (fun _ h=>h) (fun _ h=>h.elim))
  rw[Ul]at k1 k2;exact⟨_,.tup [],_,_,rfl,⟨rfl,FR,f2,rfl⟩,.tup _ _ _ rfl (fun i av x h=>by simp at h),k1,k2⟩
end
end Go.Eng
