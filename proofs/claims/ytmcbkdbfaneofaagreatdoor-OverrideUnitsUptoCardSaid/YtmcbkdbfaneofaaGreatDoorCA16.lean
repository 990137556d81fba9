/- Lemmas for the claims of this seat, without a condition: part 16 (EngZP, EngZQ, EngZS, EngZT, EngZU, EngZV). -/
import Derived.Test.YtmcbkdbfaneofaaGreatDoorCA15
namespace Go.Eng
abbrev HG(fn:FuncId)(tm:Array Value)(ps:Array Tmp)(Gu body:Code)(D:Nat)(s:LoopState):Loop :=
 { state:=s,pending:=none,fn:=fn,tmps:=tm,params:=ps,assign:=Gu,body:=body,defers:=D }
def jk:List Nat→List AV→(Nat→AV)→Nat→AV
 |p::ps,v::vs,e=>jk ps vs (GU e p v)
 |_,_,e=>e
section
variable {P:Program}{N:Nat}{w:World}{g:Gh}
theorem W9{U:Nat→Prop}:∀{ps:List Nat} {args:List AV} {vals:List Value} {tm:Array Value} {env:Nat→AV},vals.length=args.length→args.length=ps.length→(∀p∈ps,p<tm.size) →
  (∀(i:Nat) (av:AV) (x:Value),args[i]?=some av→vals[i]?=some x→BG g w U av x)→(∀i,BG g w U (env i) (tm.getD i undef)) →
  ((ps.zip vals).foldl (fun t p=>t.setIfInBounds p.1 p.2) tm).size=tm.size∧∀i,BG g w U (jk ps args env i) (((ps.zip vals).foldl (fun t p=>t.setIfInBounds p.1 p.2) tm).getD i undef)
 | [],args,vals,tm,env,_,h2,_,_,he=>by
  have:args=[]:=AB h2
  subst this;exact⟨rfl,he⟩
 |p::ps,[],vals,tm,env,_,h2,_,_,_=>by cases h2
 |p::ps,a::args,[],tm,env,h1,_,_,_,_=>by cases h1
 |p::ps,a::args,v::vals,tm,env,h1,h2,h3,h4,he=>by
  have hp:=h3 p (Aa ..)
  obtain⟨q1,q2⟩:=W9 (ps:=ps) (args:=args) (vals:=vals) (tm:=tm.setIfInBounds p v) (env:=GU env p a) (by simpa using h1) (by simpa using h2) (fun q hq=>by simpa using h3 q (Af _ hq))
   (fun i av x e1 e2=>h4 (i+1) av x (by simpa using e1) (by simpa using e2)) (fun i=>by
    by_cases e:i=p
    ·subst e;have e1:GU env i a i=a:=by simp[GU]
     have e2:(tm.setIfInBounds i v).getD i undef=v:=by simp[Array.getD_eq_getD_getElem?,hp]
     rw[e1,e2];exact h4 0 a v rfl rfl
    ·have e1:GU env p a i=env i:=by simp only[GU,CH e,Eh]
     have e2:(tm.setIfInBounds p v).getD i undef=tm.getD i undef:=by
      simp[Array.getD_eq_getD_getElem?,Array.getElem?_setIfInBounds_ne (Ne.symm e)]
     rw[e1,e2];exact he i)
  exact⟨by simpa using q1,q2⟩
def WE(P:Program)(Y:Gh→World→Prop)(σ:IK)(f:Nat)(args:List AV)(h0:Nat→HO)(Q:AV→(Nat→HO)→Prop):Prop :=
 FS P f∧∀(g:Gh) (w:World) (vals:Array Value),vals.size=args.length→(∀(i:Nat) (av:AV) (x:Value),args[i]?=some av→vals[i]?=some x→BG g w (AR h0) av x) →
  DG w g h0 h0 g w→(∀h' g' w',DG w g h0 h' g' w'→Le h0 g w h' g' w'→Y (Dv σ g') w') →
  Calls P f vals w fun e w'=>∃v r h' g',e=.returned v∧Q r h'∧BG g' w' (AR h') r v∧DG w g h0 h' g' w'∧Le h0 g w h' g' w'
theorem fE{Y:Gh→World→Prop}{l:Nat}{f:Nat}{fn:Func}{c:Code}{args:List AV}{H0:List (Nat×HO)}{Q:AV→(Nat→HO)→Prop}(cx:Cx)(σ:IK)(hP:cx.P=P)(hT:Cw P cx.T)(hm:P.follows .mixedOrders=true)(hx:cx.ext=true)(hf:P.funcs[f]?=some fn)
  (hn : (fn.name == "runtime.NumGoroutine") = false) (hb : fn.body = some c) (hN : args.length ≤ fn.ntmps) (hc : En fn.ntmps c = true) (hσ : (Gz σ && Ih σ H0) = true)
  (hy:cx.yp=fun l' σ' g w=>l'=l→σ'=σ→Y g w)
  (hk:QV cx c (W6 cx fn.results.toList σ Q) ⟨Of args,Ah H0 Ab⟩):WE P Y σ f args (Ah H0 Ab) Q :=
 ⟨⟨fn,hf,hn,by simp[hb]⟩,fun g w vals hs hv hI hp=>Xk cx σ hP hT hm hx hf hn hb hN hc hσ hk hs hv hI fun l' σ' h' g' w' _ q1 q2=>by
  rw[hy];intro _ e;subst e;exact hp h' g' w' q1 q2⟩
end
def iR(cx:Cx):Nat→Code→(Ex→St→Prop)→(Code→Code→St→Prop)→St→Prop
 |0,.seq (.seq a b) d,Q,K,st=>QV cx a (fun e D2=>match e with |.normal=>K b d D2 |e=>Q e D2) st
 |0,.seq b d,_,K,st=>K b d st
 |n+1,.seq a b,Q,K,st=>QV cx a (fun e D2=>match e with |.normal=>iR cx n b Q K D2 |e=>Q e D2) st
 |_,_,_,_,_=>False
section
variable {P:Program}{N:Nat}{ds:List Deferred}{w0:World}{g0:Gh}{h0:Nat→HO}{st:St}{g:Gh}{a:Act}{w:World}
theorem iT{cx:Cx}(hP:cx.P=P)(hT:Cw P cx.T)(hm:P.follows .mixedOrders=true)(hE:La cx h0)(hY:∀l σ h g w,Ef σ=true→DG w0 g0 h0 h g w→Le h0 g0 w0 h g w→cx.yp l σ (Dv σ g) w)
  {Qa:Ex→St→Prop} {K:Code→Code→St→Prop} {Q:Exit→Act→World→Prop} (hQ:∀e st g a w,e≠.normal→Qa e st→SR N ds w0 g0 h0 st g a w→Q e.real a w)
  (hK:∀b d st g a w,K b d st→SR N ds w0 g0 h0 st g a w→b.wpIn (Ju none) 0 P (Exit.then (d.wpIn (Ju none) 0 P Q) Q) a w) :
  ∀(n:Nat) (c:Code),En N c=true→∀{st:St} {g:Gh} {a:Act} {w:World},SR N ds w0 g0 h0 st g a w→iR cx n c Qa K st→c.wpIn (Ju none) 0 P Q a w:=by
 intro n
 induction n with
 |zero =>
  intro c hc st g a w hS hk;cases c with
  |seq y d =>
   simp only[En,Ag]at hc;cases y with
   |seq x b =>
    have hk:QV cx x (fun e D2=>match e with | .normal=>K b d D2 | e=>Qa e D2) st:=hk;simp only[En,Ag]at hc;refine wpIn_seq (wpIn_seq (Ni hP hT hm hE hY none x hc.1.1 (Qa:=fun e D2=>match e with | .normal=>K b d D2 | e=>Qa e D2) (fun e st g a w q hS=>?_) hS hk));cases e with
    |normal=>exact hK b d _ _ _ _ q hS
    |exit id=>exact hQ (.exit id) _ _ _ _ (fun e=>by cases e) q hS
    |ret=>exact hQ .ret _ _ _ _ (fun e=>by cases e) q hS
   |_=>exact wpIn_seq (hK _ d _ _ _ _ hk hS)
  |_=>exact hk.elim
 |succ n ih =>
  intro c hc st g a w hS hk;cases c with
  |seq x y =>
   simp only[En,Ag]at hc;refine wpIn_seq (Ni hP hT hm hE hY none x hc.1 (Qa:=fun e D2=>match e with | .normal=>iR cx n y Qa K D2 | e=>Qa e D2) (fun e st g a w q hS=>?_) hS hk);cases e with
   |normal=>exact ih y hc.2 hS q
   |exit id=>exact hQ (.exit id) _ _ _ _ (fun e=>by cases e) q hS
   |ret=>exact hQ .ret _ _ _ _ (fun e=>by cases e) q hS
  |_=>exact hk.elim
end
section
variable {P:Program}{N:Nat}{ds:List Deferred}{w0:World}{g0:Gh}{h0:Nat→HO}{st:St}{g:Gh}{a:Act}{w:World}
theorem SR.rebase{w1:World}{g1:Gh}{h1:Nat→HO}(hS:SR N ds w0 g0 h0 st g a w)(hI:DG w1 g1 h1 st.h g w)(hL:Le h1 g1 w1 st.h g w):SR N ds w1 g1 h1 st g a w:=⟨hI,hL,hS.dfs,hS.size,hS.slots⟩
theorem ay{cx:Cx}(hT:Cw P cx.T){H0:List (Nat×HO)}{σ:IK}(hσ:Gz σ=true)(lx:Ih σ H0=true){fn:Func}{Q:AV→(Nat→HO)→Prop}(hS:SR N ds w0 g0 (Ah H0 Ab) st g a w)(hk:cD cx st fn.results.toList σ Q) :
  ∃v,(results fn a.tmps).run P w=.ok v w∧∃r h' g',Q r h'∧BG g' w (AR h') r v∧DG w0 g0 (Ah H0 Ab) h' g' w∧Le (Ah H0 Ab) g0 w0 h' g' w:=by
 obtain⟨g2,i1,i2⟩:=Mr cx.pl.fin hS.inv;have Ss : SR N ds w0 g0 (Ah H0 Ab) ⟨st.t,Ox st.h cx.pl.fin⟩ g2 a w:=⟨i1,hS.le.trans i2,hS.dfs,hS.size,fun i=>(hS.slots i).le i2⟩;obtain⟨l,vs,h1,h2,h3,h4,h5⟩:=Rw hT Ss _ hk;obtain⟨hR,j1,j2⟩:=Oi hσ lx i1 Ss.le;have CM:(results fn a.tmps).run P w=.ok (if h:vs.toArray.size=1 then vs.toArray[0]else .tuple vs.toArray) w:=by
  rw[NN,show fn.results=fn.results.toList.toArray by simp,List.mapM_toArray];simp only[Sem.run_bind,Sem.run_map,h2,Result.andThen_ok,Sem.run_pure]
 match l,vs,h1,h3,h5,CM with
 | [v],[x],h1,h3,h5,CM=>exact⟨x,by simpa using CM,_,_,_,h1,(h5 0 v x rfl rfl).ren hR,j1,j2⟩
 | [],vs,h1,h3,h5,CM =>
  have:vs=[]:=AB h3
  subst this;exact⟨.tuple #[],by simpa using CM,_,_,_,h1,BG.ren hR (.tup _ [] _ rfl fun i av x q=>by simp at q),j1,j2⟩
 |v::v' :: l,vs,h1,h3,h5,CM =>
  refine⟨.tuple vs.toArray,?_,_,_,_,h1,BG.ren hR (.tup _ _ _ (by simpa using h3) fun i av x q1 q2=>h5 i av x q1 (by simpa using q2)),j1,j2⟩;rw[CM]
  have:vs.toArray.size≠1:=by simp[h3]
  simp only[this,dif_neg,not_false_eq_true]
theorem nE{fn:Func}{kR s:Nat}{ps:Array Tmp}{Gu body rest:Code}(cx:Cx)(hP:cx.P=P)(hT:Cw P cx.T)(hm:P.follows .mixedOrders=true)(hx:cx.ext=true){σ:IK}{H0 Hn:List (Nat×HO)}(hσ:(Gz σ&&Ih σ H0)=true)(xt:Ih σ Hn=true)
  {env:Nat→AV} {gf:Nat} {caps:List AV} (hF:env s=.clo gf caps) {Qv:AV→(Nat→HO)→Prop}
  (yF:∀(l D:Nat) (f' : FuncId) (tm:Array Value),tm.size=N→WE P (fun g w=>w.heap[l]?=some (.loop (HG f' tm ps Gu body D .ready))∧∀i,BG g w (AR (Ah H0 Ab)) (env i) (tm.getD i undef)) σ gf
   (.v (.func (.yield l) #[] #[])::caps) (Ah H0 Ab) fun _ h'=>h'=Ah Hn Ab)
  (hcr:En N rest=true) (tH:N7 [] body=false) (qm:QV cx rest (W6 cx fn.results.toList σ Qv) ⟨env,Ah Hn Ab⟩) (hY:∀l σ g w,cx.yp l σ g w)
  {a:Act} (ha:a.defers=[]) (hN:a.tmps.size=N) (hI:DG w g (Ah H0 Ab) (Ah H0 Ab) g w) (Nv:∀i,BG g w (AR (Ah H0 Ab)) (env i) (a.tmps.getD i undef))
  {R:Ending→World→Prop} (hR:∀v r h' g' w',Qv r h'→BG g' w' (AR h') r v→DG w g (Ah H0 Ab) h' g' w'→Le (Ah H0 Ab) g w h' g' w'→R (.returned v) w') :
  (Code.block kR (.rangeFunc (.tmp s) ps Gu body)).wpIn (Ju none) 0 P (Exit.then (rest.wpIn (Ju none) 0 P (bodyPostM (Ju none) 0 P fn R)) (bodyPostM (Ju none) 0 P fn R)) a w:=by
 simp only[Ag]at hσ;have hdl:∀f' tm D s,VO (.loop (HG f' tm ps Gu body D s))=true:=fun _ _ _ _=>by show(!N7 [] body)=true;rw[tH];rfl
 refine wpIn_block (wpIn_rangeFunc fun f' _=>?_);have hs:=Nv s;rw[hF]at hs;have lc:a.eval (.tmp s)=a.tmps.getD s undef:=rfl;generalize hfv:a.tmps.getD s undef=fv at hs lc;cases hs with
 |clo _ _ _ lb EB Oz =>
 obtain⟨i0,s0⟩:=hI.allocS (n0:=w.heap.size) (x:=w.heap.size) (.deferred (some [])) (Aj _);obtain⟨i1,s1⟩:=i0.allocS (n0:=w.heap.size) (x:=w.heap.size) (.loop (HG f' a.tmps ps Gu body w.heap.size .ready)) (by rw[World.size_alloc];omega);generalize hW:(w.alloc (.deferred (some []))).alloc (.loop (HG f' a.tmps ps Gu body w.heap.size .ready))=W1 at i1 s1;have zG:W1.heap.size=w.heap.size+2:=by rw[←hW,World.size_alloc,World.size_alloc]
 have hl:W1.heap[w.heap.size+1]?=some (.loop (HG f' a.tmps ps Gu body w.heap.size .ready)):=by
  rw[←hW]
  have:=World.alloc_heap_new (w.alloc (.deferred (some []))) (.loop (HG f' a.tmps ps Gu body w.heap.size .ready))
  rwa [World.size_alloc]at this
 have hD:W1.heap[w.heap.size]?=some (.deferred (some [])):=by
  rw[←hW,heap_alloc_old _ _ (by rw[World.size_alloc];omega)];exact World.alloc_heap_new w _
 have Ra:∀b ob,W1.heap[b]?=some ob→VO ob=true→∀r,((Ah H0 Ab) r).live→g.own r≠some b:=fun b ob hb hd r hr e=>ON (i1.objs r) hr e hb hd;have S1:=s0.trans s1;have hit:=yF (w.heap.size+1) w.heap.size f' a.tmps hN
 refine⟨w.heap.size+1,[{ target:=.collected w.heap.size,args:=#[] }],W1,{ target:=.fn (.func gf) lb,args:=#[.func (.yield (w.heap.size+1)) #[] #[]] },W1,gf,
  #[.func (.yield (w.heap.size+1)) #[] #[]]++lb,W1,?_,?_,fun _ _=>trivial,?_,fun e=>(by cases e),?_⟩
 ·rw[←hW];exact run_enterLoop_outer _ _ _ _ _
 ·simp only[resolve,lc];simp[go_sem]
 ·simp only[invoke];rw[Gs hit.1]
 refine callsIn_wide.2 ((hit.2 g W1 _ (by simp[EB];omega) (fun i av x e1 e2=>?_) i1 (fun h' g' w' q1 q2=>?_)).mono ?_)
 ·cases i with
  |zero =>
   simp only[A7,Bm]at e1;rw[HE]at e2
   have:x=.func (.yield (w.heap.size+1)) #[] #[]:=(BL e2).symm
   subst e1;subst this;exact .v _ _
  |succ i =>
   have e2:lb[i]?=some x:=by rw[←e2,HE];simp
   exact(Oz i av x (by simpa using e1) e2).le S1.le
 ·obtain⟨_,_,j2⟩:=Oi hσ.1 hσ.2 q1 q2;refine⟨(q1.frame _ (by omega) (Ra _ _ hl (hdl _ _ _ _))).trans hl,fun i=>?_⟩;exact((Nv i).le S1.le).mono j2.keeps (fun _ h=>h) j2.gh
 rintro e w2 ⟨v,r,h',g2,rfl,rfl,_,q3,q4⟩
 have bO:w2.heap[w.heap.size+1]?=some (.loop (HG f' a.tmps ps Gu body w.heap.size .ready)):=(q3.frame _ (by omega) (Ra _ _ hl (hdl _ _ _ _))).trans hl;have yz:w2.heap[w.heap.size]?=some (.deferred (some [])):=(q3.frame _ (by omega) (Ra _ _ hD rfl)).trans hD;refine⟨none,_,run_endLoop bO (fun e=>by cases e),?_⟩;obtain⟨i4,s4⟩:=q3.base.put (n0:=w.heap.size) (x:=w.heap.size) (o':=.loop { HG f' a.tmps ps Gu body w.heap.size .ready with state:=.exhausted }) bO (hdl _ _ _ _) (hdl f' a.tmps w.heap.size .exhausted) (.inl (by omega));have S4:=(S1.trans (ZE.of_inv q3 q4 (by omega))).trans s4;generalize hW4:w2.putObj (w.heap.size+1) (.loop { HG f' a.tmps ps Gu body w.heap.size .ready with state:=.exhausted })=w4 at i4 s4 S4;have tp:w4.heap[w.heap.size]?=some (.deferred (some [])):=by rw[←hW4,World.putObj_heap_other (by omega)];exact yz
 have hE:La cx (Ah Hn Ab):=by unfold La;rw[hx];exact fun i hi=>⟨(F6 xt i hi).1,(F6 xt i hi).2.1⟩
 have yM:SR N [{ target:=.collected w.heap.size,args:=#[] }] w4 g2 (Ah Hn Ab) ⟨env,Ah Hn Ab⟩ g2 { a with defers:=[{ target:=.collected w.heap.size,args:=#[] }]++a.defers } w4 :=
  ⟨i4,.refl _ _ _,by simp[ha],hN,fun i=>(Nv i).le S4.le⟩
 refine Ni hP hT hm hE (fun l σ _ _ w _ _ _=>hY l σ _ w) none rest hcr (fun e wi g5 a5 w5 hq kX=>?_) yM qm;have fin:cD cx wi fn.results.toList σ Qv→LeavesInM (Ju none) 0 P fn a5.tmps R a5.defers .returning w5:=by
  intro hk;have wF:w5.heap[w.heap.size]?=some (.deferred (some [])):=(kX.inv.frame _ (Bw.1 tp).1 (fun r hr e=>ON (i4.objs r) hr e tp rfl)).trans tp;rw[kX.dfs];refine⟨by simp,.inl ⟨w.heap.size,_,rfl,run_takeDeferred wF,?_⟩⟩;obtain⟨i6,s6⟩:=kX.inv.base.put (n0:=w.heap.size) (x:=w.heap.size) (o':=.deferred none) wF rfl rfl (.inr rfl);have yN:SR N [{ target:=.collected w.heap.size,args:=#[] }] (w5.putObj w.heap.size (.deferred none)) g5 wi.h wi g5 a5 (w5.putObj w.heap.size (.deferred none)):=⟨i6,.refl _ _ _,kX.dfs,kX.size,fun i=>(kX.slots i).le s6.le⟩;have S6:=(S4.trans (ZE.of_inv kX.inv kX.le (A3 (Aj _) S4.size))).trans s6;obtain⟨v,k2,r,h7,g7,k1,k5,k3,k4⟩:=ay (H0:=H0) hT hσ.1 hσ.2 (SR.rebase yN (i6.of_seg S6 fun h=>absurd h (Nat.lt_irrefl _)) S6.le) hk;exact⟨v,k2,hR v r h7 g7 _ k1 k5 k3 k4⟩
 cases e with
 |normal=>exact fin hq
 |ret=>exact fin hq
 |exit id=>exact hq.elim
end
section
variable {P:Program}{N:Nat}{w:World}{g:Gh}
theorem df(o k r:Nat){H:List (Nat×HO)}(cx:Cx)(hP:cx.P=P)(hT:Cw P cx.T)(hm:P.follows .mixedOrders=true)(hx:cx.ext=true){σ:IK}(hσ:(Gz σ&&Ih σ H)=true){fn:FuncId}{tm:Array Value}{ps:Array Tmp}{Gu body:Code}{D l:Nat}
  {env:Nat→AV} {args:List AV} {U:Nat→Prop} {Q:AV→(Nat→HO)→Prop} (um:args.length=ps.toList.length) (hN:tm.size=N) (zy:(ps.toList.all fun p=>Nat.blt p N)=true) (yX:En N Gu=true) (tL:En N body=true)
  (hU:∀i,U i→AR (Ah H Ab) i)
  (hk:QV cx Gu (fun e st=>match e with | .normal=>QV cx body (fun e st=>match e with | .normal=>sd st.h o k r fun h'=>Q (.v (.bool true)) (Fr σ (Ox h' cx.pl.fin)) | _=>False) st | _=>False) ⟨jk ps.toList args env,Ah H Ab⟩)
  (hY:∀l σ g w,cx.yp l σ g w:=by exact fun _ _ _ _=>trivial) (tH:N7 [] body=false:=by kernel_rfl) :
  IC P (fun g w=>w.heap[l]?=some (.loop (HG fn tm ps Gu body D .ready))∧∀i,BG g w U (env i) (tm.getD i undef)) l args (Ah H Ab) Q:=by
 simp only[Ag]at hσ;intro g w vals hs hv hI ⟨hl,Nv⟩;have DF:l<w.heap.size:=(Bw.1 hl).1;have hdl:∀s,VO (.loop (HG fn tm ps Gu body D s))=true:=fun s=>by show(!N7 [] body)=true;rw[tH];rfl
 have hE:La cx (Ah H Ab):=by unfold La;rw[hx];exact fun i hi=>⟨(F6 hσ.2 i hi).1,(F6 hσ.2 i hi).2.1⟩
 have Ra:∀r,((Ah H Ab) r).live→g.own r≠some l:=fun r hr e=>ON (hI.objs r) hr e hl (hdl _);have ld:∀(t0:Array Value),(ps.zip vals).foldl (fun tmps (p:Nat×Value)=>tmps.setIfInBounds p.1 p.2) t0=(ps.toList.zip vals.toList).foldl (fun t p=>t.setIfInBounds p.1 p.2) t0:=fun t0=>by
  rw[←Array.foldl_toList,Array.toList_zip]
 have zD:=run_yield (P:=P) (args:=vals) hl (by simp only[hs,um,B3]);refine⟨fn,_,Gu,body,zD,roundIn_of_wpIn trivial ?_⟩;obtain⟨z1,z2⟩:=W9 (U:=AR (Ah H Ab)) (ps:=ps.toList) (args:=args) (vals:=vals.toList) (tm:=tm) (env:=env) (by simpa using hs) um (fun p hp=>by
  have:=(Bp.1 zy) p hp
  rw[hN];simpa using this) (fun i av x e1 e2=>hv i av x e1 (by simpa using e2)) (fun i=>(Nv i).mono (.refl _ _) hU (.refl _ _))
 have yK:SR N [] w g (Ah H Ab) ⟨jk ps.toList args env,Ah H Ab⟩ g { tmps:=(ps.zip vals).foldl (fun tmps (p:Nat×Value)=>tmps.setIfInBounds p.1 p.2) tm,defers:=[] } w:=by
  refine⟨hI,.refl _ _ _,rfl,?_,fun i=>?_⟩
  ·rw[ld];exact z1.trans hN
  ·rw[ld];exact z2 i
 refine Ni hP hT hm hE (fun l σ _ _ w _ _ _=>hY l σ _ w) (some l) Gu yX (fun e st1 g1 a1 w1 hq jv=>?_) yK hk;cases e with
 |exit _=>exact hq.elim
 |ret=>exact hq.elim
 |normal =>
  have rL:w1.heap[l]?=some (.loop (HG fn tm ps Gu body D .ready)):=(jv.inv.frame l DF Ra).trans hl;refine⟨_,run_beginRound rL rfl,?_⟩;obtain⟨iS,sS⟩:=hI.put (n0:=w.heap.size) (x:=l) (o':=.loop (HG fn tm ps Gu body D .busy)) hl (hdl _) (hdl _) (.inr rfl);have tY:(w.putObj l (.loop (HG fn tm ps Gu body D .busy))).heap[l]?=some (.loop (HG fn tm ps Gu body D .busy)):=World.putObj_heap_same DF;have jG:(w.putObj l (.loop (HG fn tm ps Gu body D .busy))).heap.size=w.heap.size:=by simp[World.putObj]
  obtain⟨_,sB⟩:=iS.dullS (w':=w) (n0:=w.heap.size) (x:=l) ⟨rfl,rfl,rfl⟩ (by rw[jG];exact Aj _) (fun b _=>by
   by_cases e:b=l
   ·subst e;exact .inr ⟨_,_,tY,hl,hdl _,hdl _⟩
   ·exact .inl (World.putObj_heap_other e).symm) (fun b _ Dz=>(World.putObj_heap_other Dz).symm)
  obtain⟨i2,s2⟩:=jv.inv.base.put (n0:=w.heap.size) (x:=l) (o':=.loop (HG fn tm ps Gu body D .busy)) rL (hdl _) (hdl _) (.inr rfl);have S2:=(sB.trans (ZE.of_inv jv.inv jv.le (Aj _))).trans s2;have bO:(w1.putObj l (.loop (HG fn tm ps Gu body D .busy))).heap[l]?=some (.loop (HG fn tm ps Gu body D .busy)):=World.putObj_heap_same (Bw.1 rL).1;have yD:=i2.of_seg (by rw[jG];exact S2) (fun _=>bO.trans tY.symm);have yL:SR N [] (w.putObj l (.loop (HG fn tm ps Gu body D .busy))) g (Ah H Ab) st1 g1 a1 (w1.putObj l (.loop (HG fn tm ps Gu body D .busy))):=⟨yD,S2.le,jv.dfs,jv.size,fun i=>(jv.slots i).le s2.le⟩;refine Ni hP hT hm hE (fun l σ _ _ w _ _ _=>hY l σ _ w) (some l) body tL (fun e st3 g3 a3 w3 hq pB=>?_) yL hq;cases e with
  |exit _=>exact hq.elim
  |ret=>exact hq.elim
  |normal =>
   obtain⟨h3,g3',pB,hq⟩:=gT pB hq;have rM:w3.heap[l]?=some (.loop (HG fn tm ps Gu body D .busy)):=(pB.inv.frame l (by rw[jG];exact DF) Ra).trans tY;refine⟨.bool true,w3.putObj l (.loop (HG fn tm ps Gu body D .ready)),run_endRound none rM,?_⟩;obtain⟨gf,xu,zQ⟩:=Mr cx.pl.fin pB.inv;obtain⟨i4,s4⟩:=xu.base.put (n0:=w.heap.size) (x:=l) (o':=.loop (HG fn tm ps Gu body D .ready)) rM (hdl _) (hdl _) (.inr rfl);have S4:=(sS.trans (ZE.of_inv xu (pB.le.trans zQ) (by rw[jG];exact Aj _))).trans s4;have zl:(w3.putObj l (.loop (HG fn tm ps Gu body D .ready))).heap[l]?=some (.loop (HG fn tm ps Gu body D .ready)):=World.putObj_heap_same (Bw.1 rM).1;have yE:=i4.of_seg S4 (fun _=>zl.trans hl.symm);obtain⟨_,j1,j2⟩:=Oi hσ.1 hσ.2 yE S4.le;exact⟨.bool true,.v (.bool true),_,_,rfl,hq,.v _ _,j1,j2⟩
end
def oA(h:Nat→HO)(o k r sz:Nat)(K:(Nat→HO)→Prop):Prop :=
 match h o with
 |.cells cs=>match IU cs k with
  |.v (.slice none 0 0)=>match h r with
   |.free=>K (AU (AU h r (.var sz 0 0)) o (.cells (Et cs k (.slice (.ver r sz 0) []))))
   |_=>False
  |_=>False
 |_=>False
section
variable {P:Program}{N:Nat}{ds:List Deferred}{w0:World}{g0:Gh}{h0:Nat→HO}{st:St}{g:Gh}{a:Act}{w:World}
theorem nq(hS:SR N ds w0 g0 h0 st g a w){o k r sz:Nat}{K:(Nat→HO)→Prop}(hk:oA st.h o k r sz K):∃h' g',SR N ds w0 g0 h0 ⟨st.t,h'⟩ g' a w∧K h':=by
 unfold oA at hk;split at hk
 ·rename_i cs e0;split at hk
  ·rename_i e1;split at hk
   ·rename_i hf;have iD:o≠r:=fun e=>by rw[e,hf]at e0;cases e0
    have Xr:=I0 cs k _ e1 (by simp)
    obtain⟨m1,m2⟩:=hS.inv.upd r (.var sz 0 0) (.slice none 0 0) 0 true none g.S w none ⟨rfl,rfl,rfl,Aj _⟩ (fun _ _ _=>rfl) (fun b e=>by cases e) (fun _ _ h=>h) (fun _ _ h=>.inl h) (fun b o e=>by cases e) (fun b hh e=>by first | (cases e;done) | (exact absurd hh.2 (by simp))) (by simp)
     (fun hu=>absurd hf hu) (fun _ _=>by
      obtain⟨u1,u2,u3,u4⟩:=Bz g r (.slice none 0 0) 0 true none g.S;exact⟨u3,u2,none,0,u1,.inl ⟨rfl,u4⟩⟩)
    generalize T4:g.upd r (.slice none 0 0) 0 true none g.S=g1 at m1 m2;have gr:g1.tk r=true∧g1.ln r=0∧g1.ρ r=.slice none 0 0:=by rw[←T4];simp[Gh.upd]
    have mr : (AU st.h r (.var sz 0 0)) o=.cells cs:=by rw[BX _ _ _ _ iD,e0]
    obtain⟨g3,p1,p2⟩:=N8 m1 mr Xr (new:=.slice (.ver r sz 0) []) (fun y hy=>by
     cases hy
     exact .ver _ r sz 0 [] _ (.snil _ _ _) (fun c hc=>by cases hc) (by unfold AR;rw[Bc];simp) gr.1 (AN _) (fun _=>gr.2.2.symm))
    exact⟨_,g3,⟨p1,hS.le.trans (m2.trans p2),hS.dfs,hS.size,fun i=>(hS.slots i).le (m2.trans p2)⟩,hk⟩
   ·exact hk.elim
  ·exact hk.elim
 ·exact hk.elim
def sr(o k r sz:Nat)(bw:Cx)(P:Program)(N:Nat)(fn:Func)(σ:IK)(Q:AV→(Nat→HO)→Prop)(b rest:Code)(st:St):Prop :=
 oA st.h o k r sz fun h1 =>
  ∃(σF σr:IK) (H0 Hn:List (Nat×HO)) (kR s:Nat) (ps:Array Tmp) (Gu body:Code) (gf:Nat) (caps:List AV),
  b=.block kR (.rangeFunc (.tmp s) ps Gu body)∧(Ef σF&&DC h1 0 0&&Dk σF 0 0)=true∧Fr σF h1=Ah H0 Ab∧(Gz σr&&Ih σr H0)=true∧Ih σr Hn=true ∧
  ren (Ct σF) h1 (st.t s)=.clo gf caps ∧
  (∀(l D:Nat) (f' : FuncId) (tm:Array Value),tm.size=N→WE P (fun g w=>w.heap[l]?=some (.loop (HG f' tm ps Gu body D .ready))∧∀i,BG g w (AR (Ah H0 Ab)) (ren (Ct σF) h1 (st.t i)) (tm.getD i undef)) σr gf
   (.v (.func (.yield l) #[] #[])::caps) (Ah H0 Ab) fun _ h'=>h'=Ah Hn Ab) ∧
  En N rest=true∧N7 [] body=false∧QV bw rest (W6 bw fn.results.toList σr fun r h'=>Q (ren (Ct σ) (DZ σF 0 0 h1 h') (ren (EX σF 0 0) h' r)) (Fr σ (DZ σF 0 0 h1 h')))
   ⟨fun i=>ren (Ct σF) h1 (st.t i),Ah Hn Ab⟩
theorem aW (o k r sz : Nat) {f : Nat} {fn : Func} {c : Code} {args : List AV} {H : List (Nat × HO)} {Q : AV → (Nat → HO) → Prop} (cx bw : Cx) (σ : IK) (hP : cx.P = P) (hT : Cw P cx.T) (yI : bw.P = P) (yO : Cw P bw.T) (hm : P.follows .mixedOrders = true) (hx : cx.ext = true) (ot : bw.ext = true) (hf : P.funcs[f]? = some fn) (hn : (fn.name == "runtime.NumGoroutine") = false)
  (hb:fn.body=some c) (hN:args.length≤fn.ntmps) (hc:En fn.ntmps c=true) (hσ:(Gz σ&&Ih σ H)=true) (n:Nat)
  (hk:iR cx n c (W6 cx fn.results.toList σ fun r h'=>∃r',Ha r r'∧Q r' h') (sr o k r sz bw P fn.ntmps fn σ fun r h'=>∃r',Ha r r'∧Q r' h') ⟨Of args,Ah H Ab⟩)
  (hY:∀l σ g w,cx.yp l σ g w:=by exact fun _ _ _ _=>trivial) (yQ:∀l σ g w,bw.yp l σ g w:=by exact fun _ _ _ _=>trivial):Bd P f args (Ah H Ab) Q:=by
 refine Bd.mono (Q:=fun r h'=>∃r',Ha r r'∧Q r' h') ?_ fun _ _ ⟨r',s,q⟩=>⟨r',s,q⟩;simp only[Ag]at hσ;refine⟨⟨fn,hf,hn,by simp[hb]⟩,fun g w vals hs hv hI=>callsIn_wide.1 (callsIn_of_wp_marks (F:=Fence.wide) (n:=0) hf hb trivial ?_ rfl)⟩;have hE:La cx (Ah H Ab):=by unfold La;rw[hx];exact fun i hi=>⟨(F6 hσ.2 i hi).1,(F6 hσ.2 i hi).2.1⟩
 have hS:SR fn.ntmps [] w g (Ah H Ab) ⟨Of args,Ah H Ab⟩ g { tmps:=vals++Array.replicate (fn.ntmps-vals.size) undef,defers:=[] } w:=by
  refine⟨hI,.refl _ _ _,rfl,by simp[hs];omega,fun i=>?_⟩
  have:=Og (n:=fn.ntmps-vals.size) (args:=args) (vals:=vals.toList) (by simpa using hs) (fun i av x q1 q2=>hv i av x q1 (by simpa using q2)) i
  rw[Cu,←A1];rw[Ci]at this;simpa using this
 refine iT hP hT hm hE (fun l σ _ _ w _ _ _=>hY l σ _ w) (fun e st g' a w' Dz hk hS=>?_) (fun b rest st g' a w' hk hS=>?_) n c hc hS hk
 ·have out:cD cx st fn.results.toList σ (fun r h'=>∃r',Ha r r'∧Q r' h')→LeavesInM (Ju none) 0 P fn a.tmps (fun e w'=>∃v r h' g',e=Ending.returned v∧(∃r',Ha r r'∧Q r' h')∧BG g' w' (AR h') r v∧DG w g (Ah H Ab) h' g' w'∧Le (Ah H Ab) g w h' g' w') a.defers .returning w':=by
   intro hk;obtain⟨v,q2,r,h',g2,q1,q3,q4,q5⟩:=ay hT hσ.1 hσ.2 hS hk;rw[hS.dfs];exact⟨v,q2,v,r,h',g2,rfl,q1,q3,q4,q5⟩
  cases e with
  |normal=>exact absurd rfl Dz
  |ret=>exact out hk
  |exit id=>exact hk.elim
 ·obtain⟨h1,g',hS,hk⟩:=nq hS hk;obtain⟨σF,σr,H0,Hn,kR,s,ps,Gu,body,gf,caps,rfl,k1,k2,k3,k4,k5,k6,k7,k9,k8⟩:=hk;have zP:Ef σF=true:=by simp only[Ag]at k1;exact k1.1.1
  obtain⟨tw,wH⟩:=VZ hS.inv zP;rw[k2]at wH;have Nv:∀i,BG (Dv σF g') w' (AR (Ah H0 Ab)) (ren (Ct σF) h1 (st.t i)) (a.tmps.getD i undef):=fun i=>by
   have:=(hS.slots i).ren tw
   rwa [k2]at this
  refine Ml (Q:=fun r h'=>∃r',Ha (ren (Ct σ) (DZ σF 0 0 h1 h') (ren (EX σF 0 0) h' r)) r'∧Q r' (Fr σ (DZ σF 0 0 h1 h'))) (C:=fun R'=>(∀e aQ,R' e aQ→(∃v r h' g',e=Ending.returned v∧(∃r',Ha r r'∧Q r' h')∧BG g' aQ (AR h') r v∧DG w g (Ah H Ab) h' g' aQ∧Le (Ah H Ab) g w h' g' aQ)) →
   (Code.block kR (.rangeFunc (.tmp s) ps Gu body)).wpIn (Ju none) 0 P (Exit.then (rest.wpIn (Ju none) 0 P (bodyPostM (Ju none) 0 P fn (fun e aQ=>∃v r h' g',e=Ending.returned v∧(∃r',Ha r r'∧Q r' h')∧BG g' aQ (AR h') r v∧DG w g (Ah H Ab) h' g' aQ∧Le (Ah H Ab) g w h' g' aQ))) (bodyPostM (Ju none) 0 P fn (fun e aQ=>∃v r h' g',e=Ending.returned v∧(∃r',Ha r r'∧Q r' h')∧BG g' aQ (AR h') r v∧DG w g (Ah H Ab) h' g' aQ∧Le (Ah H Ab) g w h' g' aQ))) a w')
   (fun h k h2=>h fun e w r=>h2 _ _ (k _ _ r)) hS.inv (d:=0) (nn:=0) k1 (fun _ ll=>?_) (fun v r h' g2 w2 q1 q2 q3 q4=>?_) (fun _ _ h=>h)
  ·rw[k2]at ll;exact nE bw yI yO hm ot k3 k4 k5 k6 k7 k9 k8 yQ hS.dfs hS.size wH Nv fun v r h' g5 w5 q1 q2 q3 q4=>ll _ _ ⟨v,r,h',g5,rfl,q1,q2,q3,q4⟩
  ·obtain⟨hR,j1,j2⟩:=Oi hσ.1 hσ.2 q2 (hS.le.trans q3);exact⟨v,_,_,_,rfl,q1,q4.ren hR,j1,j2⟩
end
section
variable {P:Program}{N:Nat}{w:World}{g:Gh}
end
end Go.Eng
namespace Go.Eng
open Go.Sort
section
variable {P:Program}
end
end Go.Eng
