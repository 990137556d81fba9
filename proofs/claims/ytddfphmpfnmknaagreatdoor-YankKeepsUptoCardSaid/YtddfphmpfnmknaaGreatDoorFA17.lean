/- Lemmas for the claims of this seat, without a condition: part 17 (EngZP, EngZQ, EngZS, EngZT, EngZU, EngZV, EngZW, EngZX). -/
import Derived.Test.YtddfphmpfnmknaaGreatDoorFA16
namespace Go.Eng
abbrev HY(fn:FuncId)(tm:Array Value)(ps:Array Tmp)(GB body:Code)(D:Nat)(s:LoopState):Loop :=
 { state:=s,pending:=none,fn:=fn,tmps:=tm,params:=ps,assign:=GB,body:=body,defers:=D }
def jK:List Nat→List AV→(Nat→AV)→Nat→AV
 |p::ps,v::vs,e=>jK ps vs (G4 e p v)
 |_,_,e=>e
section
variable {P:Program}{N:Nat}{w:World}{g:Gh}
theorem Xo{U:Nat→Prop}:∀{ps:List Nat} {args:List AV} {vals:List Value} {tm:Array Value} {env:Nat→AV},vals.length=args.length→args.length=ps.length→(∀p∈ps,p<tm.size) →
  (∀(i:Nat) (av:AV) (x:Value),args[i]?=some av→vals[i]?=some x→BD g w U av x)→(∀i,BD g w U (env i) (tm.getD i undef)) →
  ((ps.zip vals).foldl (fun t p=>t.setIfInBounds p.1 p.2) tm).size=tm.size∧∀i,BD g w U (jK ps args env i) (((ps.zip vals).foldl (fun t p=>t.setIfInBounds p.1 p.2) tm).getD i undef)
 | [],args,vals,tm,env,_,h2,_,_,he=>by
  have:args=[]:=AN h2
  subst this;exact⟨rfl,he⟩
 |p::ps,[],vals,tm,env,_,h2,_,_,_=>by cases h2
 |p::ps,a::args,[],tm,env,h1,_,_,_,_=>by cases h1
 |p::ps,a::args,v::vals,tm,env,h1,h2,h3,h4,he=>by
  have hp:=h3 p (Aa ..)
  obtain⟨q1,q2⟩:=Xo (ps:=ps) (args:=args) (vals:=vals) (tm:=tm.setIfInBounds p v) (env:=G4 env p a) (by simpa using h1) (by simpa using h2) (fun q hq=>by simpa using h3 q (Ag _ hq))
   (fun i av x e1 e2=>h4 (i+1) av x (by simpa using e1) (by simpa using e2)) (fun i=>by
    by_cases e:i=p
    ·subst e;have e1:G4 env i a i=a:=by simp[G4]
     have e2:(tm.setIfInBounds i v).getD i undef=v:=by simp[Array.getD_eq_getD_getElem?,hp]
     rw[e1,e2];exact h4 0 a v rfl rfl
    ·have e1:G4 env p a i=env i:=by simp only[G4,Cz e,Ej]
     have e2:(tm.setIfInBounds p v).getD i undef=tm.getD i undef:=by
      simp[Array.getD_eq_getD_getElem?,Array.getElem?_setIfInBounds_ne (Ne.symm e)]
     rw[e1,e2];exact he i)
  exact⟨by simpa using q1,q2⟩
def WS(P:Program)(Y:Gh→World→Prop)(σ:IV)(f:Nat)(args:List AV)(h0:Nat→HO)(Q:AV→(Nat→HO)→Prop):Prop :=
 F1 P f∧∀(g:Gh) (w:World) (vals:Array Value),vals.size=args.length→(∀(i:Nat) (av:AV) (x:Value),args[i]?=some av→vals[i]?=some x→BD g w (AP h0) av x) →
  DB w g h0 h0 g w→(∀h' g' w',DB w g h0 h' g' w'→Le h0 g w h' g' w'→Y (Dq σ g') w') →
  Calls P f vals w fun e w'=>∃v r h' g',e=.returned v∧Q r h'∧BD g' w' (AP h') r v∧DB w g h0 h' g' w'∧Le h0 g w h' g' w'
theorem ge{Y:Gh→World→Prop}{l:Nat}{f:Nat}{fn:Func}{c:Code}{args:List AV}{H0:List (Nat×HO)}{Q:AV→(Nat→HO)→Prop}(cx:Cx)(σ:IV)(hP:cx.P=P)(hT:Cn P cx.T)(hm:P.follows .mixedOrders=true)(hx:cx.ext=true)(hf:P.funcs[f]?=some fn)
  (hn : (fn.name == "runtime.NumGoroutine") = false) (hb : fn.body = some c) (hN : args.length ≤ fn.ntmps) (hc : En fn.ntmps c = true) (hσ : (GH σ && Iq σ H0) = true)
  (hy:cx.yp=fun l' σ' g w=>l'=l→σ'=σ→Y g w)
  (hk:Rc cx c (Xl cx fn.results.toList σ Q) ⟨On args,Ai H0 Ab⟩):WS P Y σ f args (Ai H0 Ab) Q :=
 ⟨⟨fn,hf,hn,by simp[hb]⟩,fun g w vals hs hv hI hp=>XB cx σ hP hT hm hx hf hn hb hN hc hσ hk hs hv hI fun l' σ' h' g' w' _ q1 q2=>by
  rw[hy];intro _ e;subst e;exact hp h' g' w' q1 q2⟩
end
def jt(cx:Cx):Nat→Code→(Ex→St→Prop)→(Code→Code→St→Prop)→St→Prop
 |0,.seq (.seq a b) d,Q,K,st=>Rc cx a (fun e D7=>match e with |.normal=>K b d D7 |e=>Q e D7) st
 |0,.seq b d,_,K,st=>K b d st
 |n+1,.seq a b,Q,K,st=>Rc cx a (fun e D7=>match e with |.normal=>jt cx n b Q K D7 |e=>Q e D7) st
 |_,_,_,_,_=>False
section
variable {P:Program}{N:Nat}{ds:List Deferred}{w0:World}{g0:Gh}{h0:Nat→HO}{st:St}{g:Gh}{a:Act}{w:World}
theorem ju{cx:Cx}(hP:cx.P=P)(hT:Cn P cx.T)(hm:P.follows .mixedOrders=true)(hE:Lh cx h0)(hY:∀l σ h g w,Ei σ=true→DB w0 g0 h0 h g w→Le h0 g0 w0 h g w→cx.yp l σ (Dq σ g) w)
  {Qa:Ex→St→Prop} {K:Code→Code→St→Prop} {Q:Exit→Act→World→Prop} (hQ:∀e st g a w,e≠.normal→Qa e st→SR N ds w0 g0 h0 st g a w→Q e.real a w)
  (hK:∀b d st g a w,K b d st→SR N ds w0 g0 h0 st g a w→b.wpIn (JG none) 0 P (Exit.then (d.wpIn (JG none) 0 P Q) Q) a w) :
  ∀(n:Nat) (c:Code),En N c=true→∀{st:St} {g:Gh} {a:Act} {w:World},SR N ds w0 g0 h0 st g a w→jt cx n c Qa K st→c.wpIn (JG none) 0 P Q a w:=by
 intro n
 induction n with
 |zero =>
  intro c hc st g a w hS hk;cases c with
  |seq y d =>
   simp only[En,Af]at hc;cases y with
   |seq x b =>
    have hk:Rc cx x (fun e D7=>match e with | .normal=>K b d D7 | e=>Qa e D7) st:=hk;simp only[En,Af]at hc;refine wpIn_seq (wpIn_seq (Nl hP hT hm hE hY none x hc.1.1 (Qa:=fun e D7=>match e with | .normal=>K b d D7 | e=>Qa e D7) (fun e st g a w q hS=>?_) hS hk));cases e with
    |normal=>exact hK b d _ _ _ _ q hS
    |exit id=>exact hQ (.exit id) _ _ _ _ (fun e=>by cases e) q hS
    |ret=>exact hQ .ret _ _ _ _ (fun e=>by cases e) q hS
   |_=>exact wpIn_seq (hK _ d _ _ _ _ hk hS)
  |_=>exact hk.elim
 |succ n ih =>
  intro c hc st g a w hS hk;cases c with
  |seq x y =>
   simp only[En,Af]at hc;refine wpIn_seq (Nl hP hT hm hE hY none x hc.1 (Qa:=fun e D7=>match e with | .normal=>jt cx n y Qa K D7 | e=>Qa e D7) (fun e st g a w q hS=>?_) hS hk);cases e with
   |normal=>exact ih y hc.2 hS q
   |exit id=>exact hQ (.exit id) _ _ _ _ (fun e=>by cases e) q hS
   |ret=>exact hQ .ret _ _ _ _ (fun e=>by cases e) q hS
  |_=>exact hk.elim
end
section
variable {P:Program}{N:Nat}{ds:List Deferred}{w0:World}{g0:Gh}{h0:Nat→HO}{st:St}{g:Gh}{a:Act}{w:World}
theorem SR.rebase{w1:World}{g1:Gh}{h1:Nat→HO}(hS:SR N ds w0 g0 h0 st g a w)(hI:DB w1 g1 h1 st.h g w)(hL:Le h1 g1 w1 st.h g w):SR N ds w1 g1 h1 st g a w:=⟨hI,hL,hS.dfs,hS.size,hS.slots⟩
theorem aP{cx:Cx}(hT:Cn P cx.T){H0:List (Nat×HO)}{σ:IV}(hσ:GH σ=true)(ma:Iq σ H0=true){fn:Func}{Q:AV→(Nat→HO)→Prop}(hS:SR N ds w0 g0 (Ai H0 Ab) st g a w)(hk:cX cx st fn.results.toList σ Q) :
  ∃v,(results fn a.tmps).run P w=.ok v w∧∃r h' g',Q r h'∧BD g' w (AP h') r v∧DB w0 g0 (Ai H0 Ab) h' g' w∧Le (Ai H0 Ab) g0 w0 h' g' w:=by
 obtain⟨g2,i1,i2⟩:=Mu cx.pl.fin hS.inv;have SD : SR N ds w0 g0 (Ai H0 Ab) ⟨st.t,OF st.h cx.pl.fin⟩ g2 a w:=⟨i1,hS.le.trans i2,hS.dfs,hS.size,fun i=>(hS.slots i).le i2⟩;obtain⟨l,vs,h1,h2,h3,h4,h5⟩:=RD hT SD _ hk;obtain⟨hR,j1,j2⟩:=Oq hσ ma i1 SD.le;have CD:(results fn a.tmps).run P w=.ok (if h:vs.toArray.size=1 then vs.toArray[0]else .tuple vs.toArray) w:=by
  rw[NQ,show fn.results=fn.results.toList.toArray by simp,List.mapM_toArray];simp only[Sem.run_bind,Sem.run_map,h2,Result.andThen_ok,Sem.run_pure]
 match l,vs,h1,h3,h5,CD with
 | [v],[x],h1,h3,h5,CD=>exact⟨x,by simpa using CD,_,_,_,h1,(h5 0 v x rfl rfl).ren hR,j1,j2⟩
 | [],vs,h1,h3,h5,CD =>
  have:vs=[]:=AN h3
  subst this;exact⟨.tuple #[],by simpa using CD,_,_,_,h1,BD.ren hR (.tup _ [] _ rfl fun i av x q=>by simp at q),j1,j2⟩
 |v::v' :: l,vs,h1,h3,h5,CD =>
  refine⟨.tuple vs.toArray,?_,_,_,_,h1,BD.ren hR (.tup _ _ _ (by simpa using h3) fun i av x q1 q2=>h5 i av x q1 (by simpa using q2)),j1,j2⟩;rw[CD]
  have:vs.toArray.size≠1:=by simp[h3]
  simp only[this,dif_neg,not_false_eq_true]
theorem oA{fn:Func}{lG s:Nat}{ps:Array Tmp}{GB body rest:Code}(cx:Cx)(hP:cx.P=P)(hT:Cn P cx.T)(hm:P.follows .mixedOrders=true)(hx:cx.ext=true){σ:IV}{H0 Hn:List (Nat×HO)}(hσ:(GH σ&&Iq σ H0)=true)(yy:Iq σ Hn=true)
  {env:Nat→AV} {gf:Nat} {caps:List AV} (hF:env s=.clo gf caps) {Qv:AV→(Nat→HO)→Prop}
  (zD:∀(l D:Nat) (f' : FuncId) (tm:Array Value),tm.size=N→WS P (fun g w=>w.heap[l]?=some (.loop (HY f' tm ps GB body D .ready))∧∀i,BD g w (AP (Ai H0 Ab)) (env i) (tm.getD i undef)) σ gf
   (.v (.func (.yield l) #[] #[])::caps) (Ai H0 Ab) fun _ h'=>h'=Ai Hn Ab)
  (hcr:En N rest=true) (uO:Oc [] body=false) (q9:Rc cx rest (Xl cx fn.results.toList σ Qv) ⟨env,Ai Hn Ab⟩) (hY:∀l σ g w,cx.yp l σ g w)
  {a:Act} (ha:a.defers=[]) (hN:a.tmps.size=N) (hI:DB w g (Ai H0 Ab) (Ai H0 Ab) g w) (NC:∀i,BD g w (AP (Ai H0 Ab)) (env i) (a.tmps.getD i undef))
  {R:Ending→World→Prop} (hR:∀v r h' g' w',Qv r h'→BD g' w' (AP h') r v→DB w g (Ai H0 Ab) h' g' w'→Le (Ai H0 Ab) g w h' g' w'→R (.returned v) w') :
  (Code.block lG (.rangeFunc (.tmp s) ps GB body)).wpIn (JG none) 0 P (Exit.then (rest.wpIn (JG none) 0 P (bodyPostM (JG none) 0 P fn R)) (bodyPostM (JG none) 0 P fn R)) a w:=by
 simp only[Af]at hσ;have hdl:∀f' tm D s,VU (.loop (HY f' tm ps GB body D s))=true:=fun _ _ _ _=>by show(!Oc [] body)=true;rw[uO];rfl
 refine wpIn_block (wpIn_rangeFunc fun f' _=>?_);have hs:=NC s;rw[hF]at hs;have lP:a.eval (.tmp s)=a.tmps.getD s undef:=rfl;generalize hfv:a.tmps.getD s undef=fv at hs lP;cases hs with
 |clo _ _ _ lb Ew OH =>
 obtain⟨i0,s0⟩:=hI.allocS (n0:=w.heap.size) (x:=w.heap.size) (.deferred (some [])) (Al _);obtain⟨i1,s1⟩:=i0.allocS (n0:=w.heap.size) (x:=w.heap.size) (.loop (HY f' a.tmps ps GB body w.heap.size .ready)) (by rw[World.size_alloc];omega);generalize hW:(w.alloc (.deferred (some []))).alloc (.loop (HY f' a.tmps ps GB body w.heap.size .ready))=W1 at i1 s1;have Aaq:W1.heap.size=w.heap.size+2:=by rw[←hW,World.size_alloc,World.size_alloc]
 have hl:W1.heap[w.heap.size+1]?=some (.loop (HY f' a.tmps ps GB body w.heap.size .ready)):=by
  rw[←hW]
  have:=World.alloc_heap_new (w.alloc (.deferred (some []))) (.loop (HY f' a.tmps ps GB body w.heap.size .ready))
  rwa [World.size_alloc]at this
 have hD:W1.heap[w.heap.size]?=some (.deferred (some [])):=by
  rw[←hW,heap_alloc_old _ _ (by rw[World.size_alloc];omega)];exact World.alloc_heap_new w _
 have Ri:∀b ob,W1.heap[b]?=some ob→VU ob=true→∀r,((Ai H0 Ab) r).live→g.own r≠some b:=fun b ob hb hd r hr e=>OU (i1.objs r) hr e hb hd;have S1:=s0.trans s1;have hit:=zD (w.heap.size+1) w.heap.size f' a.tmps hN
 refine⟨w.heap.size+1,[{ target:=.collected w.heap.size,args:=#[] }],W1,{ target:=.fn (.func gf) lb,args:=#[.func (.yield (w.heap.size+1)) #[] #[]] },W1,gf,
  #[.func (.yield (w.heap.size+1)) #[] #[]]++lb,W1,?_,?_,fun _ _=>trivial,?_,fun e=>(by cases e),?_⟩
 ·rw[←hW];exact run_enterLoop_outer _ _ _ _ _
 ·simp only[resolve,lP];simp[go_sem]
 ·simp only[invoke];rw[Gy hit.1]
 refine callsIn_wide.2 ((hit.2 g W1 _ (by simp[Ew];omega) (fun i av x e1 e2=>?_) i1 (fun h' g' w' q1 q2=>?_)).mono ?_)
 ·cases i with
  |zero =>
   simp only[A7,Bi]at e1;rw[HU]at e2
   have:x=.func (.yield (w.heap.size+1)) #[] #[]:=(Ct e2).symm
   subst e1;subst this;exact .v _ _
  |succ i =>
   have e2:lb[i]?=some x:=by rw[←e2,HU];simp
   exact(OH i av x (by simpa using e1) e2).le S1.le
 ·obtain⟨_,_,j2⟩:=Oq hσ.1 hσ.2 q1 q2;refine⟨(q1.frame _ (by omega) (Ri _ _ hl (hdl _ _ _ _))).trans hl,fun i=>?_⟩;exact((NC i).le S1.le).mono j2.keeps (fun _ h=>h) j2.gh
 rintro e w2 ⟨v,r,h',g2,rfl,rfl,_,q3,q4⟩
 have ci:w2.heap[w.heap.size+1]?=some (.loop (HY f' a.tmps ps GB body w.heap.size .ready)):=(q3.frame _ (by omega) (Ri _ _ hl (hdl _ _ _ _))).trans hl;have zw:w2.heap[w.heap.size]?=some (.deferred (some [])):=(q3.frame _ (by omega) (Ri _ _ hD rfl)).trans hD;refine⟨none,_,run_endLoop ci (fun e=>by cases e),?_⟩;obtain⟨i4,s4⟩:=q3.base.put (n0:=w.heap.size) (x:=w.heap.size) (o':=.loop { HY f' a.tmps ps GB body w.heap.size .ready with state:=.exhausted }) ci (hdl _ _ _ _) (hdl f' a.tmps w.heap.size .exhausted) (.inl (by omega));have S4:=(S1.trans (ZU.of_inv q3 q4 (by omega))).trans s4;generalize hW4:w2.putObj (w.heap.size+1) (.loop { HY f' a.tmps ps GB body w.heap.size .ready with state:=.exhausted })=w4 at i4 s4 S4;have ux:w4.heap[w.heap.size]?=some (.deferred (some [])):=by rw[←hW4,World.putObj_heap_other (by omega)];exact zw
 have hE:Lh cx (Ai Hn Ab):=by unfold Lh;rw[hx];exact fun i hi=>⟨(Gj yy i hi).1,(Gj yy i hi).2.1⟩
 have zJ:SR N [{ target:=.collected w.heap.size,args:=#[] }] w4 g2 (Ai Hn Ab) ⟨env,Ai Hn Ab⟩ g2 { a with defers:=[{ target:=.collected w.heap.size,args:=#[] }]++a.defers } w4 :=
  ⟨i4,.refl _ _ _,by simp[ha],hN,fun i=>(NC i).le S4.le⟩
 refine Nl hP hT hm hE (fun l σ _ _ w _ _ _=>hY l σ _ w) none rest hcr (fun e xd g5 a5 w5 hq lL=>?_) zJ q9;have fin:cX cx xd fn.results.toList σ Qv→LeavesInM (JG none) 0 P fn a5.tmps R a5.defers .returning w5:=by
  intro hk;have xI:w5.heap[w.heap.size]?=some (.deferred (some [])):=(lL.inv.frame _ (Bl.1 ux).1 (fun r hr e=>OU (i4.objs r) hr e ux rfl)).trans ux;rw[lL.dfs];refine⟨by simp,.inl ⟨w.heap.size,_,rfl,run_takeDeferred xI,?_⟩⟩;obtain⟨i6,s6⟩:=lL.inv.base.put (n0:=w.heap.size) (x:=w.heap.size) (o':=.deferred none) xI rfl rfl (.inr rfl);have zK:SR N [{ target:=.collected w.heap.size,args:=#[] }] (w5.putObj w.heap.size (.deferred none)) g5 xd.h xd g5 a5 (w5.putObj w.heap.size (.deferred none)):=⟨i6,.refl _ _ _,lL.dfs,lL.size,fun i=>(lL.slots i).le s6.le⟩;have S6:=(S4.trans (ZU.of_inv lL.inv lL.le (Br (Al _) S4.size))).trans s6;obtain⟨v,k2,r,h7,g7,k1,k5,k3,k4⟩:=aP (H0:=H0) hT hσ.1 hσ.2 (SR.rebase zK (i6.of_seg S6 fun h=>absurd h (Nat.lt_irrefl _)) S6.le) hk;exact⟨v,k2,hR v r h7 g7 _ k1 k5 k3 k4⟩
 cases e with
 |normal=>exact fin hq
 |ret=>exact fin hq
 |exit id=>exact hq.elim
end
section
variable {P:Program}{N:Nat}{w:World}{g:Gh}
theorem dF(o k r:Nat){H:List (Nat×HO)}(cx:Cx)(hP:cx.P=P)(hT:Cn P cx.T)(hm:P.follows .mixedOrders=true)(hx:cx.ext=true){σ:IV}(hσ:(GH σ&&Iq σ H)=true){fn:FuncId}{tm:Array Value}{ps:Array Tmp}{GB body:Code}{D l:Nat}
  {env:Nat→AV} {args:List AV} {U:Nat→Prop} {Q:AV→(Nat→HO)→Prop} (vE:args.length=ps.toList.length) (hN:tm.size=N) (hpN:(ps.toList.all fun p=>Nat.blt p N)=true) (zR:En N GB=true) (uS:En N body=true)
  (hU:∀i,U i→AP (Ai H Ab) i)
  (hk:Rc cx GB (fun e st=>match e with | .normal=>Rc cx body (fun e st=>match e with | .normal=>td st.h o k r fun h'=>Q (.v (.bool true)) (Fz σ (OF h' cx.pl.fin)) | _=>False) st | _=>False) ⟨jK ps.toList args env,Ai H Ab⟩)
  (hY:∀l σ g w,cx.yp l σ g w:=by exact fun _ _ _ _=>trivial) (uO:Oc [] body=false:=by kernel_rfl) :
  IM P (fun g w=>w.heap[l]?=some (.loop (HY fn tm ps GB body D .ready))∧∀i,BD g w U (env i) (tm.getD i undef)) l args (Ai H Ab) Q:=by
 simp only[Af]at hσ;intro g w vals hs hv hI ⟨hl,NC⟩;have DA:l<w.heap.size:=(Bl.1 hl).1;have hdl:∀s,VU (.loop (HY fn tm ps GB body D s))=true:=fun s=>by show(!Oc [] body)=true;rw[uO];rfl
 have hE:Lh cx (Ai H Ab):=by unfold Lh;rw[hx];exact fun i hi=>⟨(Gj hσ.2 i hi).1,(Gj hσ.2 i hi).2.1⟩
 have Ri:∀r,((Ai H Ab) r).live→g.own r≠some l:=fun r hr e=>OU (hI.objs r) hr e hl (hdl _);have lQ:∀(t0:Array Value),(ps.zip vals).foldl (fun tmps (p:Nat×Value)=>tmps.setIfInBounds p.1 p.2) t0=(ps.toList.zip vals.toList).foldl (fun t p=>t.setIfInBounds p.1 p.2) t0:=fun t0=>by
  rw[←Array.foldl_toList,Array.toList_zip]
 have hry:=run_yield (P:=P) (args:=vals) hl (by simp only[hs,vE,BY]);refine⟨fn,_,GB,body,hry,roundIn_of_wpIn trivial ?_⟩;obtain⟨z1,z2⟩:=Xo (U:=AP (Ai H Ab)) (ps:=ps.toList) (args:=args) (vals:=vals.toList) (tm:=tm) (env:=env) (by simpa using hs) vE (fun p hp=>by
  have:=(Bp.1 hpN) p hp
  rw[hN];simpa using this) (fun i av x e1 e2=>hv i av x e1 (by simpa using e2)) (fun i=>(NC i).mono (.refl _ _) hU (.refl _ _))
 have zI:SR N [] w g (Ai H Ab) ⟨jK ps.toList args env,Ai H Ab⟩ g { tmps:=(ps.zip vals).foldl (fun tmps (p:Nat×Value)=>tmps.setIfInBounds p.1 p.2) tm,defers:=[] } w:=by
  refine⟨hI,.refl _ _ _,rfl,?_,fun i=>?_⟩
  ·rw[lQ];exact z1.trans hN
  ·rw[lQ];exact z2 i
 refine Nl hP hT hm hE (fun l σ _ _ w _ _ _=>hY l σ _ w) (some l) GB zR (fun e st1 g1 a1 w1 hq fI=>?_) zI hk;cases e with
 |exit _=>exact hq.elim
 |ret=>exact hq.elim
 |normal =>
  have sO:w1.heap[l]?=some (.loop (HY fn tm ps GB body D .ready)):=(fI.inv.frame l DA Ri).trans hl;refine⟨_,run_beginRound sO rfl,?_⟩;obtain⟨iS,sS⟩:=hI.put (n0:=w.heap.size) (x:=l) (o':=.loop (HY fn tm ps GB body D .busy)) hl (hdl _) (hdl _) (.inr rfl);have vf:(w.putObj l (.loop (HY fn tm ps GB body D .busy))).heap[l]?=some (.loop (HY fn tm ps GB body D .busy)):=World.putObj_heap_same DA;have kl:(w.putObj l (.loop (HY fn tm ps GB body D .busy))).heap.size=w.heap.size:=by simp[World.putObj]
  obtain⟨_,sB⟩:=iS.dullS (w':=w) (n0:=w.heap.size) (x:=l) ⟨rfl,rfl,rfl⟩ (by rw[kl];exact Al _) (fun b _=>by
   by_cases e:b=l
   ·subst e;exact .inr ⟨_,_,vf,hl,hdl _,hdl _⟩
   ·exact .inl (World.putObj_heap_other e).symm) (fun b _ Dt=>(World.putObj_heap_other Dt).symm)
  obtain⟨i2,s2⟩:=fI.inv.base.put (n0:=w.heap.size) (x:=l) (o':=.loop (HY fn tm ps GB body D .busy)) sO (hdl _) (hdl _) (.inr rfl);have S2:=(sB.trans (ZU.of_inv fI.inv fI.le (Al _))).trans s2;have ci:(w1.putObj l (.loop (HY fn tm ps GB body D .busy))).heap[l]?=some (.loop (HY fn tm ps GB body D .busy)):=World.putObj_heap_same (Bl.1 sO).1;have zB:=i2.of_seg (by rw[kl];exact S2) (fun _=>ci.trans vf.symm);have uE:SR N [] (w.putObj l (.loop (HY fn tm ps GB body D .busy))) g (Ai H Ab) st1 g1 a1 (w1.putObj l (.loop (HY fn tm ps GB body D .busy))):=⟨zB,S2.le,fI.dfs,fI.size,fun i=>(fI.slots i).le s2.le⟩;refine Nl hP hT hm hE (fun l σ _ _ w _ _ _=>hY l σ _ w) (some l) body uS (fun e st3 g3 a3 w3 hq qj=>?_) uE hq;cases e with
  |exit _=>exact hq.elim
  |ret=>exact hq.elim
  |normal =>
   obtain⟨h3,g3',qj,hq⟩:=iu qj hq;have sP:w3.heap[l]?=some (.loop (HY fn tm ps GB body D .busy)):=(qj.inv.frame l (by rw[kl];exact DA) Ri).trans vf;refine⟨.bool true,w3.putObj l (.loop (HY fn tm ps GB body D .ready)),run_endRound none sP,?_⟩;obtain⟨gf,yz,if2⟩:=Mu cx.pl.fin qj.inv;obtain⟨i4,s4⟩:=yz.base.put (n0:=w.heap.size) (x:=l) (o':=.loop (HY fn tm ps GB body D .ready)) sP (hdl _) (hdl _) (.inr rfl);have S4:=(sS.trans (ZU.of_inv yz (qj.le.trans if2) (by rw[kl];exact Al _))).trans s4;have hl4:(w3.putObj l (.loop (HY fn tm ps GB body D .ready))).heap[l]?=some (.loop (HY fn tm ps GB body D .ready)):=World.putObj_heap_same (Bl.1 sP).1;have zC:=i4.of_seg S4 (fun _=>hl4.trans hl.symm);obtain⟨_,j1,j2⟩:=Oq hσ.1 hσ.2 zC S4.le;exact⟨.bool true,.v (.bool true),_,_,rfl,hq,.v _ _,j1,j2⟩
end
def po(h:Nat→HO)(o k r sz:Nat)(K:(Nat→HO)→Prop):Prop :=
 match h o with
 |.cells cs=>match I3 cs k with
  |.v (.slice none 0 0)=>match h r with
   |.free=>K (AT (AT h r (.var sz 0 0)) o (.cells (Ev cs k (.slice (.ver r sz 0) []))))
   |_=>False
  |_=>False
 |_=>False
section
variable {P:Program}{N:Nat}{ds:List Deferred}{w0:World}{g0:Gh}{h0:Nat→HO}{st:St}{g:Gh}{a:Act}{w:World}
theorem og(hS:SR N ds w0 g0 h0 st g a w){o k r sz:Nat}{K:(Nat→HO)→Prop}(hk:po st.h o k r sz K):∃h' g',SR N ds w0 g0 h0 ⟨st.t,h'⟩ g' a w∧K h':=by
 unfold po at hk;split at hk
 ·rename_i cs e0;split at hk
  ·rename_i e1;split at hk
   ·rename_i hf;have jf:o≠r:=fun e=>by rw[e,hf]at e0;cases e0
    have PF:=I9 cs k _ e1 (by simp)
    obtain⟨m1,m2⟩:=hS.inv.upd r (.var sz 0 0) (.slice none 0 0) 0 true none g.S w none ⟨rfl,rfl,rfl,Al _⟩ (fun _ _ _=>rfl) (fun b e=>by cases e) (fun _ _ h=>h) (fun _ _ h=>.inl h) (fun b o e=>by cases e) (fun b hh e=>by first | (cases e;done) | (exact absurd hh.2 (by simp))) (by simp)
     (fun hu=>absurd hf hu) (fun _ _=>by
      obtain⟨u1,u2,u3,u4⟩:=Bw g r (.slice none 0 0) 0 true none g.S;exact⟨u3,u2,none,0,u1,.inl ⟨rfl,u4⟩⟩)
    generalize Ug:g.upd r (.slice none 0 0) 0 true none g.S=g1 at m1 m2;have gr:g1.tk r=true∧g1.ln r=0∧g1.ρ r=.slice none 0 0:=by rw[←Ug];simp[Gh.upd]
    have ne : (AT st.h r (.var sz 0 0)) o=.cells cs:=by rw[BV _ _ _ _ jf,e0]
    obtain⟨g3,p1,p2⟩:=Od m1 ne PF (new:=.slice (.ver r sz 0) []) (fun y hy=>by
     cases hy
     exact .ver _ r sz 0 [] _ (.snil _ _ _) (fun c hc=>by cases hc) (by unfold AP;rw[Ba];simp) gr.1 (AJ _) (fun _=>gr.2.2.symm))
    exact⟨_,g3,⟨p1,hS.le.trans (m2.trans p2),hS.dfs,hS.size,fun i=>(hS.slots i).le (m2.trans p2)⟩,hk⟩
   ·exact hk.elim
  ·exact hk.elim
 ·exact hk.elim
def tt(o k r sz:Nat)(bQ:Cx)(P:Program)(N:Nat)(fn:Func)(σ:IV)(Q:AV→(Nat→HO)→Prop)(b rest:Code)(st:St):Prop :=
 po st.h o k r sz fun h1 =>
  ∃(σF σr:IV) (H0 Hn:List (Nat×HO)) (lG s:Nat) (ps:Array Tmp) (GB body:Code) (gf:Nat) (caps:List AV),
  b=.block lG (.rangeFunc (.tmp s) ps GB body)∧(Ei σF&&Dx h1 0 0&&Dh σF 0 0)=true∧Fz σF h1=Ai H0 Ab∧(GH σr&&Iq σr H0)=true∧Iq σr Hn=true ∧
  ren (Cf σF) h1 (st.t s)=.clo gf caps ∧
  (∀(l D:Nat) (f' : FuncId) (tm:Array Value),tm.size=N→WS P (fun g w=>w.heap[l]?=some (.loop (HY f' tm ps GB body D .ready))∧∀i,BD g w (AP (Ai H0 Ab)) (ren (Cf σF) h1 (st.t i)) (tm.getD i undef)) σr gf
   (.v (.func (.yield l) #[] #[])::caps) (Ai H0 Ab) fun _ h'=>h'=Ai Hn Ab) ∧
  En N rest=true∧Oc [] body=false∧Rc bQ rest (Xl bQ fn.results.toList σr fun r h'=>Q (ren (Cf σ) (D4 σF 0 0 h1 h') (ren (E3 σF 0 0) h' r)) (Fz σ (D4 σF 0 0 h1 h')))
   ⟨fun i=>ren (Cf σF) h1 (st.t i),Ai Hn Ab⟩
theorem bu (o k r sz : Nat) {f : Nat} {fn : Func} {c : Code} {args : List AV} {H : List (Nat × HO)} {Q : AV → (Nat → HO) → Prop} (cx bQ : Cx) (σ : IV) (hP : cx.P = P) (hT : Cn P cx.T) (zG : bQ.P = P) (zL : Cn P bQ.T) (hm : P.follows .mixedOrders = true) (hx : cx.ext = true) (pj : bQ.ext = true) (hf : P.funcs[f]? = some fn) (hn : (fn.name == "runtime.NumGoroutine") = false)
  (hb:fn.body=some c) (hN:args.length≤fn.ntmps) (hc:En fn.ntmps c=true) (hσ:(GH σ&&Iq σ H)=true) (n:Nat)
  (hk:jt cx n c (Xl cx fn.results.toList σ fun r h'=>∃r',Hk r r'∧Q r' h') (tt o k r sz bQ P fn.ntmps fn σ fun r h'=>∃r',Hk r r'∧Q r' h') ⟨On args,Ai H Ab⟩)
  (hY:∀l σ g w,cx.yp l σ g w:=by exact fun _ _ _ _=>trivial) (zN:∀l σ g w,bQ.yp l σ g w:=by exact fun _ _ _ _=>trivial):A3 P f args (Ai H Ab) Q:=by
 refine A3.mono (Q:=fun r h'=>∃r',Hk r r'∧Q r' h') ?_ fun _ _ ⟨r',s,q⟩=>⟨r',s,q⟩;simp only[Af]at hσ;refine⟨⟨fn,hf,hn,by simp[hb]⟩,fun g w vals hs hv hI=>callsIn_wide.1 (callsIn_of_wp_marks (F:=Fence.wide) (n:=0) hf hb trivial ?_ rfl)⟩;have hE:Lh cx (Ai H Ab):=by unfold Lh;rw[hx];exact fun i hi=>⟨(Gj hσ.2 i hi).1,(Gj hσ.2 i hi).2.1⟩
 have hS:SR fn.ntmps [] w g (Ai H Ab) ⟨On args,Ai H Ab⟩ g { tmps:=vals++Array.replicate (fn.ntmps-vals.size) undef,defers:=[] } w:=by
  refine⟨hI,.refl _ _ _,rfl,by simp[hs];omega,fun i=>?_⟩
  have:=Oo (n:=fn.ntmps-vals.size) (args:=args) (vals:=vals.toList) (by simpa using hs) (fun i av x q1 q2=>hv i av x q1 (by simpa using q2)) i
  rw[Cg,←A0];rw[BT]at this;simpa using this
 refine ju hP hT hm hE (fun l σ _ _ w _ _ _=>hY l σ _ w) (fun e st g' a w' Dt hk hS=>?_) (fun b rest st g' a w' hk hS=>?_) n c hc hS hk
 ·have out:cX cx st fn.results.toList σ (fun r h'=>∃r',Hk r r'∧Q r' h')→LeavesInM (JG none) 0 P fn a.tmps (fun e w'=>∃v r h' g',e=Ending.returned v∧(∃r',Hk r r'∧Q r' h')∧BD g' w' (AP h') r v∧DB w g (Ai H Ab) h' g' w'∧Le (Ai H Ab) g w h' g' w') a.defers .returning w':=by
   intro hk;obtain⟨v,q2,r,h',g2,q1,q3,q4,q5⟩:=aP hT hσ.1 hσ.2 hS hk;rw[hS.dfs];exact⟨v,q2,v,r,h',g2,rfl,q1,q3,q4,q5⟩
  cases e with
  |normal=>exact absurd rfl Dt
  |ret=>exact out hk
  |exit id=>exact hk.elim
 ·obtain⟨h1,g',hS,hk⟩:=og hS hk;obtain⟨σF,σr,H0,Hn,lG,s,ps,GB,body,gf,caps,rfl,k1,k2,k3,k4,k5,k6,k7,k9,k8⟩:=hk;have hσF:Ei σF=true:=by simp only[Af]at k1;exact k1.1.1
  obtain⟨uD,sF⟩:=Wf hS.inv hσF;rw[k2]at sF;have NC:∀i,BD (Dq σF g') w' (AP (Ai H0 Ab)) (ren (Cf σF) h1 (st.t i)) (a.tmps.getD i undef):=fun i=>by
   have:=(hS.slots i).ren uD
   rwa [k2]at this
  refine Mq (Q:=fun r h'=>∃r',Hk (ren (Cf σ) (D4 σF 0 0 h1 h') (ren (E3 σF 0 0) h' r)) r'∧Q r' (Fz σ (D4 σF 0 0 h1 h'))) (C:=fun R'=>(∀e bo,R' e bo→(∃v r h' g',e=Ending.returned v∧(∃r',Hk r r'∧Q r' h')∧BD g' bo (AP h') r v∧DB w g (Ai H Ab) h' g' bo∧Le (Ai H Ab) g w h' g' bo)) →
   (Code.block lG (.rangeFunc (.tmp s) ps GB body)).wpIn (JG none) 0 P (Exit.then (rest.wpIn (JG none) 0 P (bodyPostM (JG none) 0 P fn (fun e bo=>∃v r h' g',e=Ending.returned v∧(∃r',Hk r r'∧Q r' h')∧BD g' bo (AP h') r v∧DB w g (Ai H Ab) h' g' bo∧Le (Ai H Ab) g w h' g' bo))) (bodyPostM (JG none) 0 P fn (fun e bo=>∃v r h' g',e=Ending.returned v∧(∃r',Hk r r'∧Q r' h')∧BD g' bo (AP h') r v∧DB w g (Ai H Ab) h' g' bo∧Le (Ai H Ab) g w h' g' bo))) a w')
   (fun h k h2=>h fun e w r=>h2 _ _ (k _ _ r)) hS.inv (d:=0) (nn:=0) k1 (fun _ lW=>?_) (fun v r h' g2 w2 q1 q2 q3 q4=>?_) (fun _ _ h=>h)
  ·rw[k2]at lW;exact oA bQ zG zL hm pj k3 k4 k5 k6 k7 k9 k8 zN hS.dfs hS.size sF NC fun v r h' g5 w5 q1 q2 q3 q4=>lW _ _ ⟨v,r,h',g5,rfl,q1,q2,q3,q4⟩
  ·obtain⟨hR,j1,j2⟩:=Oq hσ.1 hσ.2 q2 (hS.le.trans q3);exact⟨v,_,_,_,rfl,q1,q4.ren hR,j1,j2⟩
end
end Go.Eng
namespace Go.Eng
open Go.Sort
end Go.Eng
namespace Go.Eng
end Go.Eng
namespace Go.Eng
open Go.Proofs
variable {P:Program}
theorem Jc.lend{f:Nat}{sz:Nat}{es:List (List AV)}{vs:List Value}{x:Value}(hp:Jc P f [.agg (.slice .none es::vs.map .v)] (.v x)) :
  A3 P f [.agg (.msl 1000 es.length::vs.map .v)] (Ai [(1000,.arr sz es)] Ab) fun r h'=>r=.v x∧h'=Ai [(1000,.arr sz es)] Ab:=by
 refine⟨hp.1,fun g w us hs hv hI=>?_⟩;have ho:D6 g w (AP (Ai [(1000,.arr sz es)] Ab)) 1000 (.arr sz es):=hI.objs 1000;have hl:∀r,(Ai [(1000,HO.arr sz es)] Ab r).live→r=1000:=fun r hr=>by
  unfold Ai at hr;cases e:Nat.beq r 1000 with
  |true=>exact AH e
  |false=>rw[e]at hr;exact hr.elim
 obtain⟨t,hln,Ew,qw⟩:=ho
 match us,hs with
 | ⟨[u]⟩,_ =>
 have h0:=hv 0 _ u rfl rfl;generalize hU:AP (Ai [(1000,HO.arr sz es)] Ab)=U at h0;generalize hc:AV.msl 1000 es.length::vs.map AV.v=cs at h0;cases h0 with
 |agg _ _ us h1 h2 h3 =>
  subst hc;have Kd:0<us.size:=by rw[h1];simp
  have hm:=h3 0 _ us[0] rfl (Bj Kd);generalize hy:us[0]=y at hm;cases hm with
  |msl _ _ _ a cap q1 q2 q3 q4 q5 =>
   have hρ:=q5 hln.symm
   -- the ghost in which the array is stable
   obtain⟨S1,fI,uE,hR⟩:∃S1:Nat→Nat→Prop,(∀b o,g.S b o→S1 b o)∧(∀b o,S1 b o→b<w.heap.size)∧BD { g with S:=S1 } w Fi (.slice .none es) (.slice a es.length cap):=by
    rcases qw with ⟨e1,e2,e3⟩ | ⟨b,KO,E,xs,e1,e2,e3,e4,e5,e6,e7⟩
    ·subst e1;exact⟨g.S,fun _ _ h=>h,hI.slt,.snil _ _ _⟩
    ·rw[e1]at hρ;cases hρ;have hK:EA g w { g with S:=fun c o=>g.S c o∨c=b } w:=fun c o h=>⟨.inl h,rfl,fun _ _ h=>h⟩
     refine⟨fun c o=>g.S c o∨c=b,fun _ _ h=>.inl h,fun c o h=>h.elim (hI.slt c o) fun h=>?_,?_⟩
     ·subst h;exact(Bl.1 e4).1
     ·exact BD.slice_row e4 Ew e3 (e6.mono hK (fun _ h=>h) (fun _ h=>h.elim)) fun o _=>.inr rfl
   have hK:EA g w { g with S:=S1 } w:=fun c o h=>⟨fI _ _ h,rfl,fun _ _ h=>h⟩;have hA:BD { g with S:=S1 } w (AP Ab) (.agg (.slice .none es::vs.map .v)) (.agg us):=by
    refine .agg _ _ _ (by rw[h1];rfl) h2 fun i av z k1 k2=>?_
    match i,k1 with
    |0,k1 =>
     have:us[0]?=some us[0]:=Bj Kd
     rw[this]at k2;cases k2;cases k1;rw[hy];exact hR.up _
    |i+1,k1 =>
     have k3:=h3 (i+1) av z k1 k2
     have:∃q,av=.v q:=by
      have yA : (vs.map AV.v)[i]?=some av:=k1;rw[AG,AW]at yA;exact yA.imp fun _ h=>h.2.symm
     obtain⟨q,rfl⟩:=this;rw[k3.v_eq];exact .v _ _
   have sF:DB w { g with S:=S1 } Ab Ab { g with S:=S1 } w :=
    ⟨rfl,rfl,rfl,Al _,fun _ _ _=>rfl,uE,fun _=>trivial,fun _ _ _ h=>h.elim,fun _ _ h=>h.elim,fun _ _ h=>.inl h,hI.glob.keep hK⟩
   refine(hp.2 { g with S:=S1 } w ⟨[Value.agg us]⟩ rfl (fun i av z k1 k2=>by
    match i,k1,k2 with
    |0,k1,k2=>cases k1;cases k2;exact hA) sF).mono ?_
   rintro e w' ⟨v,r,h',g',rfl,⟨rfl,rfl⟩,p1,p2,p3⟩
   have dN:∀b,b<w.heap.size→w'.heap[b]?=w.heap[b]?:=fun b hb=>p2.frame b hb fun _ h=>h.elim;have uA:EA g w g w':=fun b o hS=>by
    have:=dN b (hI.slt b o hS)
    exact⟨hS,by simp[World.cell?,this],fun es ck h=>this.trans h⟩
   refine⟨v,.v x,_,g,rfl,⟨rfl,rfl⟩,by rw[p1.v_eq];exact .v _ _,?_,⟨.refl _ _,fun _ h=>h,uA⟩⟩;refine⟨p2.os,p2.tape,p2.output,p2.size,fun b hb _=>dN b hb,fun b o h=>Bu (hI.slt b o h) p2.size,fun r=>?_,hI.inj,fun r b h1 h2=>?_,fun _ _ h=>.inl h,hI.glob.keep uA⟩
   ·exact(hI.objs r).same uA (fun _ h=>h) (.refl _ _) rfl rfl rfl rfl fun b xQ SI=>⟨dN b (hI.loc r b xQ SI).1,fun _ h=>h⟩
   ·exact⟨Bu (hI.loc r b h1 h2).1 p2.size,.inr ⟨r,h1,h2⟩⟩
end Go.Eng
