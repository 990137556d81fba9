/- Lemmas for the claims of this seat, without a condition: part 16 (EngZP, EngZQ, EngZS, EngZT, EngZU, EngZV). -/
import Derived.Test.YtmcbkdbfaneofaaGreatDoorFA15
namespace Go.Eng
abbrev HR(fn:FuncId)(tm:Array Value)(ps:Array Tmp)(GD body:Code)(D:Nat)(s:LoopState):Loop :=
 { state:=s,pending:=none,fn:=fn,tmps:=tm,params:=ps,assign:=GD,body:=body,defers:=D }
def ka:List Nat→List AV→(Nat→AV)→Nat→AV
 |p::ps,v::vs,e=>ka ps vs (G4 e p v)
 |_,_,e=>e
section
variable {P:Program}{N:Nat}{w:World}{g:Gh}
theorem Xk{U:Nat→Prop}:∀{ps:List Nat} {args:List AV} {vals:List Value} {tm:Array Value} {env:Nat→AV},vals.length=args.length→args.length=ps.length→(∀p∈ps,p<tm.size) →
  (∀(i:Nat) (av:AV) (x:Value),args[i]?=some av→vals[i]?=some x→BJ g w U av x)→(∀i,BJ g w U (env i) (tm.getD i undef)) →
  ((ps.zip vals).foldl (fun t p=>t.setIfInBounds p.1 p.2) tm).size=tm.size∧∀i,BJ g w U (ka ps args env i) (((ps.zip vals).foldl (fun t p=>t.setIfInBounds p.1 p.2) tm).getD i undef)
 | [],args,vals,tm,env,_,h2,_,_,he=>by
  have:args=[]:=AC h2
  subst this;exact⟨rfl,he⟩
 |p::ps,[],vals,tm,env,_,h2,_,_,_=>by cases h2
 |p::ps,a::args,[],tm,env,h1,_,_,_,_=>by cases h1
 |p::ps,a::args,v::vals,tm,env,h1,h2,h3,h4,he=>by
  have hp:=h3 p (Ab ..)
  obtain⟨q1,q2⟩:=Xk (ps:=ps) (args:=args) (vals:=vals) (tm:=tm.setIfInBounds p v) (env:=G4 env p a) (by simpa using h1) (by simpa using h2) (fun q hq=>by simpa using h3 q (Af _ hq))
   (fun i av x e1 e2=>h4 (i+1) av x (by simpa using e1) (by simpa using e2)) (fun i=>by
    by_cases e:i=p
    ·subst e;have e1:G4 env i a i=a:=by simp[G4]
     have e2:(tm.setIfInBounds i v).getD i undef=v:=by simp[Array.getD_eq_getD_getElem?,hp]
     rw[e1,e2];exact h4 0 a v rfl rfl
    ·have e1:G4 env p a i=env i:=by simp only[G4,CM e,Er]
     have e2:(tm.setIfInBounds p v).getD i undef=tm.getD i undef:=by
      simp[Array.getD_eq_getD_getElem?,Array.getElem?_setIfInBounds_ne (Ne.symm e)]
     rw[e1,e2];exact he i)
  exact⟨by simpa using q1,q2⟩
def WO(P:Program)(Y:Gh→World→Prop)(σ:IU)(f:Nat)(args:List AV)(h0:Nat→HO)(Q:AV→(Nat→HO)→Prop):Prop :=
 F2 P f∧∀(g:Gh) (w:World) (vals:Array Value),vals.size=args.length→(∀(i:Nat) (av:AV) (x:Value),args[i]?=some av→vals[i]?=some x→BJ g w (AR h0) av x) →
  DM w g h0 h0 g w→(∀h' g' w',DM w g h0 h' g' w'→Le h0 g w h' g' w'→Y (Dy σ g') w') →
  Calls P f vals w fun e w'=>∃v r h' g',e=.returned v∧Q r h'∧BJ g' w' (AR h') r v∧DM w g h0 h' g' w'∧Le h0 g w h' g' w'
theorem gv{Y:Gh→World→Prop}{l:Nat}{f:Nat}{fn:Func}{c:Code}{args:List AV}{H0:List (Nat×HO)}{Q:AV→(Nat→HO)→Prop}(cx:Cx)(σ:IU)(hP:cx.P=P)(hT:CB P cx.T)(hm:P.follows .mixedOrders=true)(hx:cx.ext=true)(hf:P.funcs[f]?=some fn)
  (hn : (fn.name == "runtime.NumGoroutine") = false) (hb : fn.body = some c) (hN : args.length ≤ fn.ntmps) (hc : Ew fn.ntmps c = true) (hσ : (GI σ && Ir σ H0) = true)
  (hy:cx.yp=fun l' σ' g w=>l'=l→σ'=σ→Y g w)
  (hk:Rf cx c (Xg cx fn.results.toList σ Q) ⟨Oq args,Aj H0 Aa⟩):WO P Y σ f args (Aj H0 Aa) Q :=
 ⟨⟨fn,hf,hn,by simp[hb]⟩,fun g w vals hs hv hI hp=>Xv cx σ hP hT hm hx hf hn hb hN hc hσ hk hs hv hI fun l' σ' h' g' w' _ q1 q2=>by
  rw[hy];intro _ e;subst e;exact hp h' g' w' q1 q2⟩
end
def jL(cx:Cx):Nat→Code→(Ex→St→Prop)→(Code→Code→St→Prop)→St→Prop
 |0,.seq (.seq a b) d,Q,K,st=>Rf cx a (fun e Ed=>match e with |.normal=>K b d Ed |e=>Q e Ed) st
 |0,.seq b d,_,K,st=>K b d st
 |n+1,.seq a b,Q,K,st=>Rf cx a (fun e Ed=>match e with |.normal=>jL cx n b Q K Ed |e=>Q e Ed) st
 |_,_,_,_,_=>False
section
variable {P:Program}{N:Nat}{ds:List Deferred}{w0:World}{g0:Gh}{h0:Nat→HO}{st:St}{g:Gh}{a:Act}{w:World}
theorem jM{cx:Cx}(hP:cx.P=P)(hT:CB P cx.T)(hm:P.follows .mixedOrders=true)(hE:Lp cx h0)(hY:∀l σ h g w,Eo σ=true→DM w0 g0 h0 h g w→Le h0 g0 w0 h g w→cx.yp l σ (Dy σ g) w)
  {Qa:Ex→St→Prop} {K:Code→Code→St→Prop} {Q:Exit→Act→World→Prop} (hQ:∀e st g a w,e≠.normal→Qa e st→SR N ds w0 g0 h0 st g a w→Q e.real a w)
  (hK:∀b d st g a w,K b d st→SR N ds w0 g0 h0 st g a w→b.wpIn (JD none) 0 P (Exit.then (d.wpIn (JD none) 0 P Q) Q) a w) :
  ∀(n:Nat) (c:Code),Ew N c=true→∀{st:St} {g:Gh} {a:Act} {w:World},SR N ds w0 g0 h0 st g a w→jL cx n c Qa K st→c.wpIn (JD none) 0 P Q a w:=by
 intro n
 induction n with
 |zero =>
  intro c hc st g a w hS hk;cases c with
  |seq y d =>
   simp only[Ew,Ag]at hc;cases y with
   |seq x b =>
    have hk:Rf cx x (fun e Ed=>match e with | .normal=>K b d Ed | e=>Qa e Ed) st:=hk;simp only[Ew,Ag]at hc;refine wpIn_seq (wpIn_seq (Nw hP hT hm hE hY none x hc.1.1 (Qa:=fun e Ed=>match e with | .normal=>K b d Ed | e=>Qa e Ed) (fun e st g a w q hS=>?_) hS hk));cases e with
    |normal=>exact hK b d _ _ _ _ q hS
    |exit id=>exact hQ (.exit id) _ _ _ _ (fun e=>by cases e) q hS
    |ret=>exact hQ .ret _ _ _ _ (fun e=>by cases e) q hS
   |_=>exact wpIn_seq (hK _ d _ _ _ _ hk hS)
  |_=>exact hk.elim
 |succ n ih =>
  intro c hc st g a w hS hk;cases c with
  |seq x y =>
   simp only[Ew,Ag]at hc;refine wpIn_seq (Nw hP hT hm hE hY none x hc.1 (Qa:=fun e Ed=>match e with | .normal=>jL cx n y Qa K Ed | e=>Qa e Ed) (fun e st g a w q hS=>?_) hS hk);cases e with
   |normal=>exact ih y hc.2 hS q
   |exit id=>exact hQ (.exit id) _ _ _ _ (fun e=>by cases e) q hS
   |ret=>exact hQ .ret _ _ _ _ (fun e=>by cases e) q hS
  |_=>exact hk.elim
end
section
variable {P:Program}{N:Nat}{ds:List Deferred}{w0:World}{g0:Gh}{h0:Nat→HO}{st:St}{g:Gh}{a:Act}{w:World}
theorem SR.rebase{w1:World}{g1:Gh}{h1:Nat→HO}(hS:SR N ds w0 g0 h0 st g a w)(hI:DM w1 g1 h1 st.h g w)(hL:Le h1 g1 w1 st.h g w):SR N ds w1 g1 h1 st g a w:=⟨hI,hL,hS.dfs,hS.size,hS.slots⟩
theorem aU{cx:Cx}(hT:CB P cx.T){H0:List (Nat×HO)}{σ:IU}(hσ:GI σ=true)(mu:Ir σ H0=true){fn:Func}{Q:AV→(Nat→HO)→Prop}(hS:SR N ds w0 g0 (Aj H0 Aa) st g a w)(hk:di cx st fn.results.toList σ Q) :
  ∃v,(results fn a.tmps).run P w=.ok v w∧∃r h' g',Q r h'∧BJ g' w (AR h') r v∧DM w0 g0 (Aj H0 Aa) h' g' w∧Le (Aj H0 Aa) g0 w0 h' g' w:=by
 obtain⟨g2,i1,i2⟩:=ME cx.pl.fin hS.inv;have SH : SR N ds w0 g0 (Aj H0 Aa) ⟨st.t,OH st.h cx.pl.fin⟩ g2 a w:=⟨i1,hS.le.trans i2,hS.dfs,hS.size,fun i=>(hS.slots i).le i2⟩;obtain⟨l,vs,h1,h2,h3,h4,h5⟩:=RH hT SH _ hk;obtain⟨hR,j1,j2⟩:=Ou hσ mu i1 SH.le;have CP:(results fn a.tmps).run P w=.ok (if h:vs.toArray.size=1 then vs.toArray[0]else .tuple vs.toArray) w:=by
  rw[NW,show fn.results=fn.results.toList.toArray by simp,List.mapM_toArray];simp only[Sem.run_bind,Sem.run_map,h2,Result.andThen_ok,Sem.run_pure]
 match l,vs,h1,h3,h5,CP with
 | [v],[x],h1,h3,h5,CP=>exact⟨x,by simpa using CP,_,_,_,h1,(h5 0 v x rfl rfl).ren hR,j1,j2⟩
 | [],vs,h1,h3,h5,CP =>
  have:vs=[]:=AC h3
  subst this;exact⟨.tuple #[],by simpa using CP,_,_,_,h1,BJ.ren hR (.tup _ [] _ rfl fun i av x q=>by simp at q),j1,j2⟩
 |v::v' :: l,vs,h1,h3,h5,CP =>
  refine⟨.tuple vs.toArray,?_,_,_,_,h1,BJ.ren hR (.tup _ _ _ (by simpa using h3) fun i av x q1 q2=>h5 i av x q1 (by simpa using q2)),j1,j2⟩;rw[CP]
  have:vs.toArray.size≠1:=by simp[h3]
  simp only[this,dif_neg,not_false_eq_true]
theorem oN{fn:Func}{lQ s:Nat}{ps:Array Tmp}{GD body rest:Code}(cx:Cx)(hP:cx.P=P)(hT:CB P cx.T)(hm:P.follows .mixedOrders=true)(hx:cx.ext=true){σ:IU}{H0 Hn:List (Nat×HO)}(hσ:(GI σ&&Ir σ H0)=true)(yF:Ir σ Hn=true)
  {env:Nat→AV} {gf:Nat} {caps:List AV} (hF:env s=.clo gf caps) {Qv:AV→(Nat→HO)→Prop}
  (zO:∀(l D:Nat) (f' : FuncId) (tm:Array Value),tm.size=N→WO P (fun g w=>w.heap[l]?=some (.loop (HR f' tm ps GD body D .ready))∧∀i,BJ g w (AR (Aj H0 Aa)) (env i) (tm.getD i undef)) σ gf
   (.v (.func (.yield l) #[] #[])::caps) (Aj H0 Aa) fun _ h'=>h'=Aj Hn Aa)
  (hcr:Ew N rest=true) (uR:Og [] body=false) (rk:Rf cx rest (Xg cx fn.results.toList σ Qv) ⟨env,Aj Hn Aa⟩) (hY:∀l σ g w,cx.yp l σ g w)
  {a:Act} (ha:a.defers=[]) (hN:a.tmps.size=N) (hI:DM w g (Aj H0 Aa) (Aj H0 Aa) g w) (NG:∀i,BJ g w (AR (Aj H0 Aa)) (env i) (a.tmps.getD i undef))
  {R:Ending→World→Prop} (hR:∀v r h' g' w',Qv r h'→BJ g' w' (AR h') r v→DM w g (Aj H0 Aa) h' g' w'→Le (Aj H0 Aa) g w h' g' w'→R (.returned v) w') :
  (Code.block lQ (.rangeFunc (.tmp s) ps GD body)).wpIn (JD none) 0 P (Exit.then (rest.wpIn (JD none) 0 P (bodyPostM (JD none) 0 P fn R)) (bodyPostM (JD none) 0 P fn R)) a w:=by
 simp only[Ag]at hσ;have hdl:∀f' tm D s,VV (.loop (HR f' tm ps GD body D s))=true:=fun _ _ _ _=>by show(!Og [] body)=true;rw[uR];rfl
 refine wpIn_block (wpIn_rangeFunc fun f' _=>?_);have hs:=NG s;rw[hF]at hs;have md:a.eval (.tmp s)=a.tmps.getD s undef:=rfl;generalize hfv:a.tmps.getD s undef=fv at hs md;cases hs with
 |clo _ _ _ lb EK OJ =>
 obtain⟨i0,s0⟩:=hI.allocS (n0:=w.heap.size) (x:=w.heap.size) (.deferred (some [])) (Ak _);obtain⟨i1,s1⟩:=i0.allocS (n0:=w.heap.size) (x:=w.heap.size) (.loop (HR f' a.tmps ps GD body w.heap.size .ready)) (by rw[World.size_alloc];omega);generalize hW:(w.alloc (.deferred (some []))).alloc (.loop (HR f' a.tmps ps GD body w.heap.size .ready))=W1 at i1 s1;have AaF:W1.heap.size=w.heap.size+2:=by rw[←hW,World.size_alloc,World.size_alloc]
 have hl:W1.heap[w.heap.size+1]?=some (.loop (HR f' a.tmps ps GD body w.heap.size .ready)):=by
  rw[←hW]
  have:=World.alloc_heap_new (w.alloc (.deferred (some []))) (.loop (HR f' a.tmps ps GD body w.heap.size .ready))
  rwa [World.size_alloc]at this
 have hD:W1.heap[w.heap.size]?=some (.deferred (some [])):=by
  rw[←hW,heap_alloc_old _ _ (by rw[World.size_alloc];omega)];exact World.alloc_heap_new w _
 have OK:∀b ob,W1.heap[b]?=some ob→VV ob=true→∀r,((Aj H0 Aa) r).live→g.own r≠some b:=fun b ob hb hd r hr e=>OY (i1.objs r) hr e hb hd;have S1:=s0.trans s1;have hit:=zO (w.heap.size+1) w.heap.size f' a.tmps hN
 refine⟨w.heap.size+1,[{ target:=.collected w.heap.size,args:=#[] }],W1,{ target:=.fn (.func gf) lb,args:=#[.func (.yield (w.heap.size+1)) #[] #[]] },W1,gf,
  #[.func (.yield (w.heap.size+1)) #[] #[]]++lb,W1,?_,?_,fun _ _=>trivial,?_,fun e=>(by cases e),?_⟩
 ·rw[←hW];exact run_enterLoop_outer _ _ _ _ _
 ·simp only[resolve,md];simp[go_sem]
 ·simp only[invoke];rw[GB hit.1]
 refine callsIn_wide.2 ((hit.2 g W1 _ (by simp[EK];omega) (fun i av x e1 e2=>?_) i1 (fun h' g' w' q1 q2=>?_)).mono ?_)
 ·cases i with
  |zero =>
   simp only[A9,Bm]at e1;rw[HP]at e2
   have:x=.func (.yield (w.heap.size+1)) #[] #[]:=(BP e2).symm
   subst e1;subst this;exact .v _ _
  |succ i =>
   have e2:lb[i]?=some x:=by rw[←e2,HP];simp
   exact(OJ i av x (by simpa using e1) e2).le S1.le
 ·obtain⟨_,_,j2⟩:=Ou hσ.1 hσ.2 q1 q2;refine⟨(q1.frame _ (by omega) (OK _ _ hl (hdl _ _ _ _))).trans hl,fun i=>?_⟩;exact((NG i).le S1.le).mono j2.keeps (fun _ h=>h) j2.gh
 rintro e w2 ⟨v,r,h',g2,rfl,rfl,_,q3,q4⟩
 have cw:w2.heap[w.heap.size+1]?=some (.loop (HR f' a.tmps ps GD body w.heap.size .ready)):=(q3.frame _ (by omega) (OK _ _ hl (hdl _ _ _ _))).trans hl;have zI:w2.heap[w.heap.size]?=some (.deferred (some [])):=(q3.frame _ (by omega) (OK _ _ hD rfl)).trans hD;refine⟨none,_,run_endLoop cw (fun e=>by cases e),?_⟩;obtain⟨i4,s4⟩:=q3.base.put (n0:=w.heap.size) (x:=w.heap.size) (o':=.loop { HR f' a.tmps ps GD body w.heap.size .ready with state:=.exhausted }) cw (hdl _ _ _ _) (hdl f' a.tmps w.heap.size .exhausted) (.inl (by omega));have S4:=(S1.trans (aa.of_inv q3 q4 (by omega))).trans s4;generalize hW4:w2.putObj (w.heap.size+1) (.loop { HR f' a.tmps ps GD body w.heap.size .ready with state:=.exhausted })=w4 at i4 s4 S4;have uE:w4.heap[w.heap.size]?=some (.deferred (some [])):=by rw[←hW4,World.putObj_heap_other (by omega)];exact zI
 have hE:Lp cx (Aj Hn Aa):=by unfold Lp;rw[hx];exact fun i hi=>⟨(Gj yF i hi).1,(Gj yF i hi).2.1⟩
 have zW:SR N [{ target:=.collected w.heap.size,args:=#[] }] w4 g2 (Aj Hn Aa) ⟨env,Aj Hn Aa⟩ g2 { a with defers:=[{ target:=.collected w.heap.size,args:=#[] }]++a.defers } w4 :=
  ⟨i4,.refl _ _ _,by simp[ha],hN,fun i=>(NG i).le S4.le⟩
 refine Nw hP hT hm hE (fun l σ _ _ w _ _ _=>hY l σ _ w) none rest hcr (fun e xu g5 a5 w5 hq l7=>?_) zW rk;have fin:di cx xu fn.results.toList σ Qv→LeavesInM (JD none) 0 P fn a5.tmps R a5.defers .returning w5:=by
  intro hk;have xO:w5.heap[w.heap.size]?=some (.deferred (some [])):=(l7.inv.frame _ (Bz.1 uE).1 (fun r hr e=>OY (i4.objs r) hr e uE rfl)).trans uE;rw[l7.dfs];refine⟨by simp,.inl ⟨w.heap.size,_,rfl,run_takeDeferred xO,?_⟩⟩;obtain⟨i6,s6⟩:=l7.inv.base.put (n0:=w.heap.size) (x:=w.heap.size) (o':=.deferred none) xO rfl rfl (.inr rfl);have zX:SR N [{ target:=.collected w.heap.size,args:=#[] }] (w5.putObj w.heap.size (.deferred none)) g5 xu.h xu g5 a5 (w5.putObj w.heap.size (.deferred none)):=⟨i6,.refl _ _ _,l7.dfs,l7.size,fun i=>(l7.slots i).le s6.le⟩;have S6:=(S4.trans (aa.of_inv l7.inv l7.le (AU (Ak _) S4.size))).trans s6;obtain⟨v,k2,r,h7,g7,k1,k5,k3,k4⟩:=aU (H0:=H0) hT hσ.1 hσ.2 (SR.rebase zX (i6.of_seg S6 fun h=>absurd h (Nat.lt_irrefl _)) S6.le) hk;exact⟨v,k2,hR v r h7 g7 _ k1 k5 k3 k4⟩
 cases e with
 |normal=>exact fin hq
 |ret=>exact fin hq
 |exit id=>exact hq.elim
end
section
variable {P:Program}{N:Nat}{w:World}{g:Gh}
theorem dM(o k r:Nat){H:List (Nat×HO)}(cx:Cx)(hP:cx.P=P)(hT:CB P cx.T)(hm:P.follows .mixedOrders=true)(hx:cx.ext=true){σ:IU}(hσ:(GI σ&&Ir σ H)=true){fn:FuncId}{tm:Array Value}{ps:Array Tmp}{GD body:Code}{D l:Nat}
  {env:Nat→AV} {args:List AV} {U:Nat→Prop} {Q:AV→(Nat→HO)→Prop} (vF:args.length=ps.toList.length) (hN:tm.size=N) (hpN:(ps.toList.all fun p=>Nat.blt p N)=true) (hca:Ew N GD=true) (uU:Ew N body=true)
  (hU:∀i,U i→AR (Aj H Aa) i)
  (hk:Rf cx GD (fun e st=>match e with | .normal=>Rf cx body (fun e st=>match e with | .normal=>tu st.h o k r fun h'=>Q (.v (.bool true)) (FB σ (OH h' cx.pl.fin)) | _=>False) st | _=>False) ⟨ka ps.toList args env,Aj H Aa⟩)
  (hY:∀l σ g w,cx.yp l σ g w:=by exact fun _ _ _ _=>trivial) (uR:Og [] body=false:=by kernel_rfl) :
  IL P (fun g w=>w.heap[l]?=some (.loop (HR fn tm ps GD body D .ready))∧∀i,BJ g w U (env i) (tm.getD i undef)) l args (Aj H Aa) Q:=by
 simp only[Ag]at hσ;intro g w vals hs hv hI ⟨hl,NG⟩;have DL:l<w.heap.size:=(Bz.1 hl).1;have hdl:∀s,VV (.loop (HR fn tm ps GD body D s))=true:=fun s=>by show(!Og [] body)=true;rw[uR];rfl
 have hE:Lp cx (Aj H Aa):=by unfold Lp;rw[hx];exact fun i hi=>⟨(Gj hσ.2 i hi).1,(Gj hσ.2 i hi).2.1⟩
 have OK:∀r,((Aj H Aa) r).live→g.own r≠some l:=fun r hr e=>OY (hI.objs r) hr e hl (hdl _);have me:∀(t0:Array Value),(ps.zip vals).foldl (fun tmps (p:Nat×Value)=>tmps.setIfInBounds p.1 p.2) t0=(ps.toList.zip vals.toList).foldl (fun t p=>t.setIfInBounds p.1 p.2) t0:=fun t0=>by
  rw[←Array.foldl_toList,Array.toList_zip]
 have hry:=run_yield (P:=P) (args:=vals) hl (by simp only[hs,vF,B5]);refine⟨fn,_,GD,body,hry,roundIn_of_wpIn trivial ?_⟩;obtain⟨z1,z2⟩:=Xk (U:=AR (Aj H Aa)) (ps:=ps.toList) (args:=args) (vals:=vals.toList) (tm:=tm) (env:=env) (by simpa using hs) vF (fun p hp=>by
  have:=(Bs.1 hpN) p hp
  rw[hN];simpa using this) (fun i av x e1 e2=>hv i av x e1 (by simpa using e2)) (fun i=>(NG i).mono (.refl _ _) hU (.refl _ _))
 have zU:SR N [] w g (Aj H Aa) ⟨ka ps.toList args env,Aj H Aa⟩ g { tmps:=(ps.zip vals).foldl (fun tmps (p:Nat×Value)=>tmps.setIfInBounds p.1 p.2) tm,defers:=[] } w:=by
  refine⟨hI,.refl _ _ _,rfl,?_,fun i=>?_⟩
  ·rw[me];exact z1.trans hN
  ·rw[me];exact z2 i
 refine Nw hP hT hm hE (fun l σ _ _ w _ _ _=>hY l σ _ w) (some l) GD hca (fun e st1 g1 a1 w1 hq km=>?_) zU hk;cases e with
 |exit _=>exact hq.elim
 |ret=>exact hq.elim
 |normal =>
  have sQ:w1.heap[l]?=some (.loop (HR fn tm ps GD body D .ready)):=(km.inv.frame l DL OK).trans hl;refine⟨_,run_beginRound sQ rfl,?_⟩;obtain⟨iS,sS⟩:=hI.put (n0:=w.heap.size) (x:=l) (o':=.loop (HR fn tm ps GD body D .busy)) hl (hdl _) (hdl _) (.inr rfl);have ve:(w.putObj l (.loop (HR fn tm ps GD body D .busy))).heap[l]?=some (.loop (HR fn tm ps GD body D .busy)):=World.putObj_heap_same DL;have kE:(w.putObj l (.loop (HR fn tm ps GD body D .busy))).heap.size=w.heap.size:=by simp[World.putObj]
  obtain⟨_,sB⟩:=iS.dullS (w':=w) (n0:=w.heap.size) (x:=l) ⟨rfl,rfl,rfl⟩ (by rw[kE];exact Ak _) (fun b _=>by
   by_cases e:b=l
   ·subst e;exact .inr ⟨_,_,ve,hl,hdl _,hdl _⟩
   ·exact .inl (World.putObj_heap_other e).symm) (fun b _ DE=>(World.putObj_heap_other DE).symm)
  obtain⟨i2,s2⟩:=km.inv.base.put (n0:=w.heap.size) (x:=l) (o':=.loop (HR fn tm ps GD body D .busy)) sQ (hdl _) (hdl _) (.inr rfl);have S2:=(sB.trans (aa.of_inv km.inv km.le (Ak _))).trans s2;have cw:(w1.putObj l (.loop (HR fn tm ps GD body D .busy))).heap[l]?=some (.loop (HR fn tm ps GD body D .busy)):=World.putObj_heap_same (Bz.1 sQ).1;have zM:=i2.of_seg (by rw[kE];exact S2) (fun _=>cw.trans ve.symm);have zV:SR N [] (w.putObj l (.loop (HR fn tm ps GD body D .busy))) g (Aj H Aa) st1 g1 a1 (w1.putObj l (.loop (HR fn tm ps GD body D .busy))):=⟨zM,S2.le,km.dfs,km.size,fun i=>(km.slots i).le s2.le⟩;refine Nw hP hT hm hE (fun l σ _ _ w _ _ _=>hY l σ _ w) (some l) body uU (fun e st3 g3 a3 w3 hq qv=>?_) zV hq;cases e with
  |exit _=>exact hq.elim
  |ret=>exact hq.elim
  |normal =>
   obtain⟨h3,g3',qv,hq⟩:=iN qv hq;have sR:w3.heap[l]?=some (.loop (HR fn tm ps GD body D .busy)):=(qv.inv.frame l (by rw[kE];exact DL) OK).trans ve;refine⟨.bool true,w3.putObj l (.loop (HR fn tm ps GD body D .ready)),run_endRound none sR,?_⟩;obtain⟨gf,yG,if2⟩:=ME cx.pl.fin qv.inv;obtain⟨i4,s4⟩:=yG.base.put (n0:=w.heap.size) (x:=l) (o':=.loop (HR fn tm ps GD body D .ready)) sR (hdl _) (hdl _) (.inr rfl);have S4:=(sS.trans (aa.of_inv yG (qv.le.trans if2) (by rw[kE];exact Ak _))).trans s4;have hl4:(w3.putObj l (.loop (HR fn tm ps GD body D .ready))).heap[l]?=some (.loop (HR fn tm ps GD body D .ready)):=World.putObj_heap_same (Bz.1 sR).1;have zN:=i4.of_seg S4 (fun _=>hl4.trans hl.symm);obtain⟨_,j1,j2⟩:=Ou hσ.1 hσ.2 zN S4.le;exact⟨.bool true,.v (.bool true),_,_,rfl,hq,.v _ _,j1,j2⟩
end
def pA(h:Nat→HO)(o k r sz:Nat)(K:(Nat→HO)→Prop):Prop :=
 match h o with
 |.cells cs=>match I1 cs k with
  |.v (.slice none 0 0)=>match h r with
   |.free=>K (AW (AW h r (.var sz 0 0)) o (.cells (ED cs k (.slice (.ver r sz 0) []))))
   |_=>False
  |_=>False
 |_=>False
section
variable {P:Program}{N:Nat}{ds:List Deferred}{w0:World}{g0:Gh}{h0:Nat→HO}{st:St}{g:Gh}{a:Act}{w:World}
theorem oA(hS:SR N ds w0 g0 h0 st g a w){o k r sz:Nat}{K:(Nat→HO)→Prop}(hk:pA st.h o k r sz K):∃h' g',SR N ds w0 g0 h0 ⟨st.t,h'⟩ g' a w∧K h':=by
 unfold pA at hk;split at hk
 ·rename_i cs e0;split at hk
  ·rename_i e1;split at hk
   ·rename_i hf;have ju:o≠r:=fun e=>by rw[e,hf]at e0;cases e0
    have XD:=I7 cs k _ e1 (by simp)
    obtain⟨m1,m2⟩:=hS.inv.upd r (.var sz 0 0) (.slice none 0 0) 0 true none g.S w none ⟨rfl,rfl,rfl,Ak _⟩ (fun _ _ _=>rfl) (fun b e=>by cases e) (fun _ _ h=>h) (fun _ _ h=>.inl h) (fun b o e=>by cases e) (fun b hh e=>by first | (cases e;done) | (exact absurd hh.2 (by simp))) (by simp)
     (fun hu=>absurd hf hu) (fun _ _=>by
      obtain⟨u1,u2,u3,u4⟩:=BB g r (.slice none 0 0) 0 true none g.S;exact⟨u3,u2,none,0,u1,.inl ⟨rfl,u4⟩⟩)
    generalize Uh:g.upd r (.slice none 0 0) 0 true none g.S=g1 at m1 m2;have gr:g1.tk r=true∧g1.ln r=0∧g1.ρ r=.slice none 0 0:=by rw[←Uh];simp[Gh.upd]
    have nu : (AW st.h r (.var sz 0 0)) o=.cells cs:=by rw[BZ _ _ _ _ ju,e0]
    obtain⟨g3,p1,p2⟩:=Oh m1 nu XD (new:=.slice (.ver r sz 0) []) (fun y hy=>by
     cases hy
     exact .ver _ r sz 0 [] _ (.snil _ _ _) (fun c hc=>by cases hc) (by unfold AR;rw[Bd];simp) gr.1 (AL _) (fun _=>gr.2.2.symm))
    exact⟨_,g3,⟨p1,hS.le.trans (m2.trans p2),hS.dfs,hS.size,fun i=>(hS.slots i).le (m2.trans p2)⟩,hk⟩
   ·exact hk.elim
  ·exact hk.elim
 ·exact hk.elim
def tH(o k r sz:Nat)(bY:Cx)(P:Program)(N:Nat)(fn:Func)(σ:IU)(Q:AV→(Nat→HO)→Prop)(b rest:Code)(st:St):Prop :=
 pA st.h o k r sz fun h1 =>
  ∃(σF σr:IU) (H0 Hn:List (Nat×HO)) (lQ s:Nat) (ps:Array Tmp) (GD body:Code) (gf:Nat) (caps:List AV),
  b=.block lQ (.rangeFunc (.tmp s) ps GD body)∧(Eo σF&&DH h1 0 0&&Do σF 0 0)=true∧FB σF h1=Aj H0 Aa∧(GI σr&&Ir σr H0)=true∧Ir σr Hn=true ∧
  ren (Cv σF) h1 (st.t s)=.clo gf caps ∧
  (∀(l D:Nat) (f' : FuncId) (tm:Array Value),tm.size=N→WO P (fun g w=>w.heap[l]?=some (.loop (HR f' tm ps GD body D .ready))∧∀i,BJ g w (AR (Aj H0 Aa)) (ren (Cv σF) h1 (st.t i)) (tm.getD i undef)) σr gf
   (.v (.func (.yield l) #[] #[])::caps) (Aj H0 Aa) fun _ h'=>h'=Aj Hn Aa) ∧
  Ew N rest=true∧Og [] body=false∧Rf bY rest (Xg bY fn.results.toList σr fun r h'=>Q (ren (Cv σ) (D8 σF 0 0 h1 h') (ren (E6 σF 0 0) h' r)) (FB σ (D8 σF 0 0 h1 h')))
   ⟨fun i=>ren (Cv σF) h1 (st.t i),Aj Hn Aa⟩
theorem bF (o k r sz : Nat) {f : Nat} {fn : Func} {c : Code} {args : List AV} {H : List (Nat × HO)} {Q : AV → (Nat → HO) → Prop} (cx bY : Cx) (σ : IU) (hP : cx.P = P) (hT : CB P cx.T) (zR : bY.P = P) (zY : CB P bY.T) (hm : P.follows .mixedOrders = true) (hx : cx.ext = true) (pt : bY.ext = true) (hf : P.funcs[f]? = some fn) (hn : (fn.name == "runtime.NumGoroutine") = false)
  (hb:fn.body=some c) (hN:args.length≤fn.ntmps) (hc:Ew fn.ntmps c=true) (hσ:(GI σ&&Ir σ H)=true) (n:Nat)
  (hk:jL cx n c (Xg cx fn.results.toList σ fun r h'=>∃r',Hq r r'∧Q r' h') (tH o k r sz bY P fn.ntmps fn σ fun r h'=>∃r',Hq r r'∧Q r' h') ⟨Oq args,Aj H Aa⟩)
  (hY:∀l σ g w,cx.yp l σ g w:=by exact fun _ _ _ _=>trivial) (z6:∀l σ g w,bY.yp l σ g w:=by exact fun _ _ _ _=>trivial):Be P f args (Aj H Aa) Q:=by
 refine Be.mono (Q:=fun r h'=>∃r',Hq r r'∧Q r' h') ?_ fun _ _ ⟨r',s,q⟩=>⟨r',s,q⟩;simp only[Ag]at hσ;refine⟨⟨fn,hf,hn,by simp[hb]⟩,fun g w vals hs hv hI=>callsIn_wide.1 (callsIn_of_wp_marks (F:=Fence.wide) (n:=0) hf hb trivial ?_ rfl)⟩;have hE:Lp cx (Aj H Aa):=by unfold Lp;rw[hx];exact fun i hi=>⟨(Gj hσ.2 i hi).1,(Gj hσ.2 i hi).2.1⟩
 have hS:SR fn.ntmps [] w g (Aj H Aa) ⟨Oq args,Aj H Aa⟩ g { tmps:=vals++Array.replicate (fn.ntmps-vals.size) undef,defers:=[] } w:=by
  refine⟨hI,.refl _ _ _,rfl,by simp[hs];omega,fun i=>?_⟩
  have:=Ot (n:=fn.ntmps-vals.size) (args:=args) (vals:=vals.toList) (by simpa using hs) (fun i av x q1 q2=>hv i av x q1 (by simpa using q2)) i
  rw[Cw,←A2];rw[Ck]at this;simpa using this
 refine jM hP hT hm hE (fun l σ _ _ w _ _ _=>hY l σ _ w) (fun e st g' a w' DE hk hS=>?_) (fun b rest st g' a w' hk hS=>?_) n c hc hS hk
 ·have out:di cx st fn.results.toList σ (fun r h'=>∃r',Hq r r'∧Q r' h')→LeavesInM (JD none) 0 P fn a.tmps (fun e w'=>∃v r h' g',e=Ending.returned v∧(∃r',Hq r r'∧Q r' h')∧BJ g' w' (AR h') r v∧DM w g (Aj H Aa) h' g' w'∧Le (Aj H Aa) g w h' g' w') a.defers .returning w':=by
   intro hk;obtain⟨v,q2,r,h',g2,q1,q3,q4,q5⟩:=aU hT hσ.1 hσ.2 hS hk;rw[hS.dfs];exact⟨v,q2,v,r,h',g2,rfl,q1,q3,q4,q5⟩
  cases e with
  |normal=>exact absurd rfl DE
  |ret=>exact out hk
  |exit id=>exact hk.elim
 ·obtain⟨h1,g',hS,hk⟩:=oA hS hk;obtain⟨σF,σr,H0,Hn,lQ,s,ps,GD,body,gf,caps,rfl,k1,k2,k3,k4,k5,k6,k7,k9,k8⟩:=hk;have hσF:Eo σF=true:=by simp only[Ag]at k1;exact k1.1.1
  obtain⟨uJ,xQ⟩:=V7 hS.inv hσF;rw[k2]at xQ;have NG:∀i,BJ (Dy σF g') w' (AR (Aj H0 Aa)) (ren (Cv σF) h1 (st.t i)) (a.tmps.getD i undef):=fun i=>by
   have:=(hS.slots i).ren uJ
   rwa [k2]at this
  refine Mx (Q:=fun r h'=>∃r',Hq (ren (Cv σ) (D8 σF 0 0 h1 h') (ren (E6 σF 0 0) h' r)) r'∧Q r' (FB σ (D8 σF 0 0 h1 h'))) (C:=fun R'=>(∀e bw,R' e bw→(∃v r h' g',e=Ending.returned v∧(∃r',Hq r r'∧Q r' h')∧BJ g' bw (AR h') r v∧DM w g (Aj H Aa) h' g' bw∧Le (Aj H Aa) g w h' g' bw)) →
   (Code.block lQ (.rangeFunc (.tmp s) ps GD body)).wpIn (JD none) 0 P (Exit.then (rest.wpIn (JD none) 0 P (bodyPostM (JD none) 0 P fn (fun e bw=>∃v r h' g',e=Ending.returned v∧(∃r',Hq r r'∧Q r' h')∧BJ g' bw (AR h') r v∧DM w g (Aj H Aa) h' g' bw∧Le (Aj H Aa) g w h' g' bw))) (bodyPostM (JD none) 0 P fn (fun e bw=>∃v r h' g',e=Ending.returned v∧(∃r',Hq r r'∧Q r' h')∧BJ g' bw (AR h') r v∧DM w g (Aj H Aa) h' g' bw∧Le (Aj H Aa) g w h' g' bw))) a w')
   (fun h k h2=>h fun e w r=>h2 _ _ (k _ _ r)) hS.inv (d:=0) (nn:=0) k1 (fun _ ml=>?_) (fun v r h' g2 w2 q1 q2 q3 q4=>?_) (fun _ _ h=>h)
  ·rw[k2]at ml;exact oN bY zR zY hm pt k3 k4 k5 k6 k7 k9 k8 z6 hS.dfs hS.size xQ NG fun v r h' g5 w5 q1 q2 q3 q4=>ml _ _ ⟨v,r,h',g5,rfl,q1,q2,q3,q4⟩
  ·obtain⟨hR,j1,j2⟩:=Ou hσ.1 hσ.2 q2 (hS.le.trans q3);exact⟨v,_,_,_,rfl,q1,q4.ren hR,j1,j2⟩
end
section
variable {P:Program}{N:Nat}{w:World}{g:Gh}
end
end Go.Eng
namespace Go.Eng
open Go.Sort
section
variable {P:Program}
end
end Go.Eng
