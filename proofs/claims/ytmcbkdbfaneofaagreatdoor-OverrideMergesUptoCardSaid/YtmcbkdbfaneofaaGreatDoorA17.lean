/- Lemmas for the claims of this seat, without a condition: part 17 (EngZP, EngZQ, EngZS, EngZT, EngZU, EngZV). -/
import Derived.Test.YtmcbkdbfaneofaaGreatDoorA16
namespace Go.Eng
abbrev Im(fn:FuncId)(tm:Array Value)(ps:Array Tmp)(GZ body:Code)(D:Nat)(s:LoopState):Loop :=
 { state:=s,pending:=none,fn:=fn,tmps:=tm,params:=ps,assign:=GZ,body:=body,defers:=D }
def kZ:List Nat→List AV→(Nat→AV)→Nat→AV
 |p::ps,v::vs,e=>kZ ps vs (Hu e p v)
 |_,_,e=>e
section
variable {P:Program}{N:Nat}{w:World}{g:Gh}
theorem X1{U:Nat→Prop}:∀{ps:List Nat} {args:List AV} {vals:List Value} {tm:Array Value} {env:Nat→AV},vals.length=args.length→args.length=ps.length→(∀p∈ps,p<tm.size) →
  (∀(i:Nat) (av:AV) (x:Value),args[i]?=some av→vals[i]?=some x→BS g w U av x)→(∀i,BS g w U (env i) (tm.getD i undef)) →
  ((ps.zip vals).foldl (fun t p=>t.setIfInBounds p.1 p.2) tm).size=tm.size∧∀i,BS g w U (kZ ps args env i) (((ps.zip vals).foldl (fun t p=>t.setIfInBounds p.1 p.2) tm).getD i undef)
 | [],args,vals,tm,env,_,h2,_,_,he=>by
  have:args=[]:=Az h2
  subst this;exact⟨rfl,he⟩
 |p::ps,[],vals,tm,env,_,h2,_,_,_=>by cases h2
 |p::ps,a::args,[],tm,env,h1,_,_,_,_=>by cases h1
 |p::ps,a::args,v::vals,tm,env,h1,h2,h3,h4,he=>by
  have hp:=h3 p (Ac ..)
  obtain⟨q1,q2⟩:=X1 (ps:=ps) (args:=args) (vals:=vals) (tm:=tm.setIfInBounds p v) (env:=Hu env p a) (by simpa using h1) (by simpa using h2) (fun q hq=>by simpa using h3 q (Af _ hq))
   (fun i av x e1 e2=>h4 (i+1) av x (by simpa using e1) (by simpa using e2)) (fun i=>by
    by_cases e:i=p
    ·subst e;have e1:Hu env i a i=a:=by simp[Hu]
     have e2:(tm.setIfInBounds i v).getD i undef=v:=by simp[Array.getD_eq_getD_getElem?,hp]
     rw[e1,e2];exact h4 0 a v rfl rfl
    ·have e1:Hu env p a i=env i:=by simp only[Hu,CV e,Ez]
     have e2:(tm.setIfInBounds p v).getD i undef=tm.getD i undef:=by
      simp[Array.getD_eq_getD_getElem?,Array.getElem?_setIfInBounds_ne (Ne.symm e)]
     rw[e1,e2];exact he i)
  exact⟨by simpa using q1,q2⟩
def XA(P:Program)(Y:Gh→World→Prop)(σ:Ji)(f:Nat)(args:List AV)(h0:Nat→HO)(Q:AV→(Nat→HO)→Prop):Prop :=
 Gs P f∧∀(g:Gh) (w:World) (vals:Array Value),vals.size=args.length→(∀(i:Nat) (av:AV) (x:Value),args[i]?=some av→vals[i]?=some x→BS g w (AU h0) av x) →
  DQ w g h0 h0 g w→(∀h' g' w',DQ w g h0 h' g' w'→Le h0 g w h' g' w'→Y (DG σ g') w') →
  Calls P f vals w fun e w'=>∃v r h' g',e=.returned v∧Q r h'∧BS g' w' (AU h') r v∧DQ w g h0 h' g' w'∧Le h0 g w h' g' w'
theorem iz{Y:Gh→World→Prop}{l:Nat}{f:Nat}{fn:Func}{c:Code}{args:List AV}{H0:List (Nat×HO)}{Q:AV→(Nat→HO)→Prop}(cx:Cx)(σ:Ji)(hP:cx.P=P)(hT:CH P cx.T)(hm:P.follows .mixedOrders=true)(hx:cx.ext=true)(hf:P.funcs[f]?=some fn)
  (hn : (fn.name == "runtime.NumGoroutine") = false) (hb : fn.body = some c) (hN : args.length ≤ fn.ntmps) (hc : EH fn.ntmps c = true) (hσ : (G5 σ && IR σ H0) = true)
  (hy:cx.yp=fun l' σ' g w=>l'=l→σ'=σ→Y g w)
  (hk:RV cx c (XY cx fn.results.toList σ Q) ⟨O0 args,Aq H0 Aa⟩):XA P Y σ f args (Aq H0 Aa) Q :=
 ⟨⟨fn,hf,hn,by simp[hb]⟩,fun g w vals hs hv hI hp=>Yb cx σ hP hT hm hx hf hn hb hN hc hσ hk hs hv hI fun l' σ' h' g' w' _ q1 q2=>by
  rw[hy];intro _ e;subst e;exact hp h' g' w' q1 q2⟩
end
def kG(cx:Cx):Nat→Code→(Ex→St→Prop)→(Code→Code→St→Prop)→St→Prop
 |0,.seq (.seq a b) d,Q,K,st=>RV cx a (fun e Ej=>match e with |.normal=>K b d Ej |e=>Q e Ej) st
 |0,.seq b d,_,K,st=>K b d st
 |n+1,.seq a b,Q,K,st=>RV cx a (fun e Ej=>match e with |.normal=>kG cx n b Q K Ej |e=>Q e Ej) st
 |_,_,_,_,_=>False
section
variable {P:Program}{N:Nat}{ds:List Deferred}{w0:World}{g0:Gh}{h0:Nat→HO}{st:St}{g:Gh}{a:Act}{w:World}
theorem kH{cx:Cx}(hP:cx.P=P)(hT:CH P cx.T)(hm:P.follows .mixedOrders=true)(hE:LK cx h0)(hY:∀l σ h g w,Ey σ=true→DQ w0 g0 h0 h g w→Le h0 g0 w0 h g w→cx.yp l σ (DG σ g) w)
  {Qa:Ex→St→Prop} {K:Code→Code→St→Prop} {Q:Exit→Act→World→Prop} (hQ:∀e st g a w,e≠.normal→Qa e st→SR N ds w0 g0 h0 st g a w→Q e.real a w)
  (hK:∀b d st g a w,K b d st→SR N ds w0 g0 h0 st g a w→b.wpIn (J8 none) 0 P (Exit.then (d.wpIn (J8 none) 0 P Q) Q) a w) :
  ∀(n:Nat) (c:Code),EH N c=true→∀{st:St} {g:Gh} {a:Act} {w:World},SR N ds w0 g0 h0 st g a w→kG cx n c Qa K st→c.wpIn (J8 none) 0 P Q a w:=by
 intro n
 induction n with
 |zero =>
  intro c hc st g a w hS hk;cases c with
  |seq y d =>
   simp only[EH,Ah]at hc;cases y with
   |seq x b =>
    have hk:RV cx x (fun e Ej=>match e with | .normal=>K b d Ej | e=>Qa e Ej) st:=hk;simp only[EH,Ah]at hc;refine wpIn_seq (wpIn_seq (NX hP hT hm hE hY none x hc.1.1 (Qa:=fun e Ej=>match e with | .normal=>K b d Ej | e=>Qa e Ej) (fun e st g a w q hS=>?_) hS hk));cases e with
    |normal=>exact hK b d _ _ _ _ q hS
    |exit id=>exact hQ (.exit id) _ _ _ _ (fun e=>by cases e) q hS
    |ret=>exact hQ .ret _ _ _ _ (fun e=>by cases e) q hS
   |_=>exact wpIn_seq (hK _ d _ _ _ _ hk hS)
  |_=>exact hk.elim
 |succ n ih =>
  intro c hc st g a w hS hk;cases c with
  |seq x y =>
   simp only[EH,Ah]at hc;refine wpIn_seq (NX hP hT hm hE hY none x hc.1 (Qa:=fun e Ej=>match e with | .normal=>kG cx n y Qa K Ej | e=>Qa e Ej) (fun e st g a w q hS=>?_) hS hk);cases e with
   |normal=>exact ih y hc.2 hS q
   |exit id=>exact hQ (.exit id) _ _ _ _ (fun e=>by cases e) q hS
   |ret=>exact hQ .ret _ _ _ _ (fun e=>by cases e) q hS
  |_=>exact hk.elim
end
section
variable {P:Program}{N:Nat}{ds:List Deferred}{w0:World}{g0:Gh}{h0:Nat→HO}{st:St}{g:Gh}{a:Act}{w:World}
theorem SR.rebase{w1:World}{g1:Gh}{h1:Nat→HO}(hS:SR N ds w0 g0 h0 st g a w)(hI:DQ w1 g1 h1 st.h g w)(hL:Le h1 g1 w1 st.h g w):SR N ds w1 g1 h1 st g a w:=⟨hI,hL,hS.dfs,hS.size,hS.slots⟩
theorem bS{cx:Cx}(hT:CH P cx.T){H0:List (Nat×HO)}{σ:Ji}(hσ:G5 σ=true)(nC:IR σ H0=true){fn:Func}{Q:AV→(Nat→HO)→Prop}(hS:SR N ds w0 g0 (Aq H0 Aa) st g a w)(hk:dY cx st fn.results.toList σ Q) :
  ∃v,(results fn a.tmps).run P w=.ok v w∧∃r h' g',Q r h'∧BS g' w (AU h') r v∧DQ w0 g0 (Aq H0 Aa) h' g' w∧Le (Aq H0 Aa) g0 w0 h' g' w:=by
 obtain⟨g2,i1,i2⟩:=M2 cx.pl.fin hS.inv;have TA : SR N ds w0 g0 (Aq H0 Aa) ⟨st.t,Po st.h cx.pl.fin⟩ g2 a w:=⟨i1,hS.le.trans i2,hS.dfs,hS.size,fun i=>(hS.slots i).le i2⟩;obtain⟨l,vs,h1,h2,h3,h4,h5⟩:=SB hT TA _ hk;obtain⟨hR,j1,j2⟩:=Pc hσ nC i1 TA.le;have CZ:(results fn a.tmps).run P w=.ok (if h:vs.toArray.size=1 then vs.toArray[0]else .tuple vs.toArray) w:=by
  rw[Ov,show fn.results=fn.results.toList.toArray by simp,List.mapM_toArray];simp only[Sem.run_bind,Sem.run_map,h2,Result.andThen_ok,Sem.run_pure]
 match l,vs,h1,h3,h5,CZ with
 | [v],[x],h1,h3,h5,CZ=>exact⟨x,by simpa using CZ,_,_,_,h1,(h5 0 v x rfl rfl).ren hR,j1,j2⟩
 | [],vs,h1,h3,h5,CZ =>
  have:vs=[]:=Az h3
  subst this;exact⟨.tuple #[],by simpa using CZ,_,_,_,h1,BS.ren hR (.tup _ [] _ rfl fun i av x q=>by simp at q),j1,j2⟩
 |v::v' :: l,vs,h1,h3,h5,CZ =>
  refine⟨.tuple vs.toArray,?_,_,_,_,h1,BS.ren hR (.tup _ _ _ (by simpa using h3) fun i av x q1 q2=>h5 i av x q1 (by simpa using q2)),j1,j2⟩;rw[CZ]
  have:vs.toArray.size≠1:=by simp[h3]
  simp only[this,dif_neg,not_false_eq_true]
theorem pV{fn:Func}{mX s:Nat}{ps:Array Tmp}{GZ body rest:Code}(cx:Cx)(hP:cx.P=P)(hT:CH P cx.T)(hm:P.follows .mixedOrders=true)(hx:cx.ext=true){σ:Ji}{H0 Hn:List (Nat×HO)}(hσ:(G5 σ&&IR σ H0)=true)(hσn:IR σ Hn=true)
  {env:Nat→AV} {gf:Nat} {caps:List AV} (hF:env s=.clo gf caps) {Qv:AV→(Nat→HO)→Prop}
  (hIT:∀(l D:Nat) (f' : FuncId) (tm:Array Value),tm.size=N→XA P (fun g w=>w.heap[l]?=some (.loop (Im f' tm ps GZ body D .ready))∧∀i,BS g w (AU (Aq H0 Aa)) (env i) (tm.getD i undef)) σ gf
   (.v (.func (.yield l) #[] #[])::caps) (Aq H0 Aa) fun _ h'=>h'=Aq Hn Aa)
  (hcr:EH N rest=true) (wM:OT [] body=false) (sM:RV cx rest (XY cx fn.results.toList σ Qv) ⟨env,Aq Hn Aa⟩) (hY:∀l σ g w,cx.yp l σ g w)
  {a:Act} (ha:a.defers=[]) (hN:a.tmps.size=N) (hI:DQ w g (Aq H0 Aa) (Aq H0 Aa) g w) (Oa:∀i,BS g w (AU (Aq H0 Aa)) (env i) (a.tmps.getD i undef))
  {R:Ending→World→Prop} (hR:∀v r h' g' w',Qv r h'→BS g' w' (AU h') r v→DQ w g (Aq H0 Aa) h' g' w'→Le (Aq H0 Aa) g w h' g' w'→R (.returned v) w') :
  (Code.block mX (.rangeFunc (.tmp s) ps GZ body)).wpIn (J8 none) 0 P (Exit.then (rest.wpIn (J8 none) 0 P (bodyPostM (J8 none) 0 P fn R)) (bodyPostM (J8 none) 0 P fn R)) a w:=by
 simp only[Ah]at hσ;have hdl:∀f' tm D s,WI (.loop (Im f' tm ps GZ body D s))=true:=fun _ _ _ _=>by show(!OT [] body)=true;rw[wM];rfl
 refine wpIn_block (wpIn_rangeFunc fun f' _=>?_);have hs:=Oa s;rw[hF]at hs;have ng:a.eval (.tmp s)=a.tmps.getD s undef:=rfl;generalize hfv:a.tmps.getD s undef=fv at hs ng;cases hs with
 |clo _ _ _ lb Ek Pr =>
 obtain⟨i0,s0⟩:=hI.allocS (n0:=w.heap.size) (x:=w.heap.size) (.deferred (some [])) (Al _);obtain⟨i1,s1⟩:=i0.allocS (n0:=w.heap.size) (x:=w.heap.size) (.loop (Im f' a.tmps ps GZ body w.heap.size .ready)) (by rw[World.size_alloc];omega);generalize hW:(w.alloc (.deferred (some []))).alloc (.loop (Im f' a.tmps ps GZ body w.heap.size .ready))=W1 at i1 s1;have Ac8:W1.heap.size=w.heap.size+2:=by rw[←hW,World.size_alloc,World.size_alloc]
 have hl:W1.heap[w.heap.size+1]?=some (.loop (Im f' a.tmps ps GZ body w.heap.size .ready)):=by
  rw[←hW]
  have:=World.alloc_heap_new (w.alloc (.deferred (some []))) (.loop (Im f' a.tmps ps GZ body w.heap.size .ready))
  rwa [World.size_alloc]at this
 have hD:W1.heap[w.heap.size]?=some (.deferred (some [])):=by
  rw[←hW,heap_alloc_old _ _ (by rw[World.size_alloc];omega)];exact World.alloc_heap_new w _
 have Sc:∀b ob,W1.heap[b]?=some ob→WI ob=true→∀r,((Aq H0 Aa) r).live→g.own r≠some b:=fun b ob hb hd r hr e=>PF (i1.objs r) hr e hb hd;have S1:=s0.trans s1;have hit:=hIT (w.heap.size+1) w.heap.size f' a.tmps hN
 refine⟨w.heap.size+1,[{ target:=.collected w.heap.size,args:=#[] }],W1,{ target:=.fn (.func gf) lb,args:=#[.func (.yield (w.heap.size+1)) #[] #[]] },W1,gf,
  #[.func (.yield (w.heap.size+1)) #[] #[]]++lb,W1,?_,?_,fun _ _=>trivial,?_,fun e=>(by cases e),?_⟩
 ·rw[←hW];exact run_enterLoop_outer _ _ _ _ _
 ·simp only[resolve,ng];simp[go_sem]
 ·simp only[invoke];rw[GX hit.1]
 refine callsIn_wide.2 ((hit.2 g W1 _ (by simp[Ek];omega) (fun i av x e1 e2=>?_) i1 (fun h' g' w' q1 q2=>?_)).mono ?_)
 ·cases i with
  |zero =>
   simp only[Bd,Bx]at e1;rw[Ij]at e2
   have:x=.func (.yield (w.heap.size+1)) #[] #[]:=(BA e2).symm
   subst e1;subst this;exact .v _ _
  |succ i =>
   have e2:lb[i]?=some x:=by rw[←e2,Ij];simp
   exact(Pr i av x (by simpa using e1) e2).le S1.le
 ·obtain⟨_,_,j2⟩:=Pc hσ.1 hσ.2 q1 q2;refine⟨(q1.frame _ (by omega) (Sc _ _ hl (hdl _ _ _ _))).trans hl,fun i=>?_⟩;exact((Oa i).le S1.le).mono j2.keeps (fun _ h=>h) j2.gh
 rintro e w2 ⟨v,r,h',g2,rfl,rfl,_,q3,q4⟩
 have dj:w2.heap[w.heap.size+1]?=some (.loop (Im f' a.tmps ps GZ body w.heap.size .ready)):=(q3.frame _ (by omega) (Sc _ _ hl (hdl _ _ _ _))).trans hl;have hD2:w2.heap[w.heap.size]?=some (.deferred (some [])):=(q3.frame _ (by omega) (Sc _ _ hD rfl)).trans hD;refine⟨none,_,run_endLoop dj (fun e=>by cases e),?_⟩;obtain⟨i4,s4⟩:=q3.base.put (n0:=w.heap.size) (x:=w.heap.size) (o':=.loop { Im f' a.tmps ps GZ body w.heap.size .ready with state:=.exhausted }) dj (hdl _ _ _ _) (hdl f' a.tmps w.heap.size .exhausted) (.inl (by omega));have S4:=(S1.trans (aW.of_inv q3 q4 (by omega))).trans s4;generalize hW4:w2.putObj (w.heap.size+1) (.loop { Im f' a.tmps ps GZ body w.heap.size .ready with state:=.exhausted })=w4 at i4 s4 S4;have wz:w4.heap[w.heap.size]?=some (.deferred (some [])):=by rw[←hW4,World.putObj_heap_other (by omega)];exact hD2
 have hE:LK cx (Aq Hn Aa):=by unfold LK;rw[hx];exact fun i hi=>⟨(GH hσn i hi).1,(GH hσn i hi).2.1⟩
 have hS4:SR N [{ target:=.collected w.heap.size,args:=#[] }] w4 g2 (Aq Hn Aa) ⟨env,Aq Hn Aa⟩ g2 { a with defers:=[{ target:=.collected w.heap.size,args:=#[] }]++a.defers } w4 :=
  ⟨i4,.refl _ _ _,by simp[ha],hN,fun i=>(Oa i).le S4.le⟩
 refine NX hP hT hm hE (fun l σ _ _ w _ _ _=>hY l σ _ w) none rest hcr (fun e yX g5 a5 w5 hq m9=>?_) hS4 sM;have fin:dY cx yX fn.results.toList σ Qv→LeavesInM (J8 none) 0 P fn a5.tmps R a5.defers .returning w5:=by
  intro hk;have zo:w5.heap[w.heap.size]?=some (.deferred (some [])):=(m9.inv.frame _ (BI.1 wz).1 (fun r hr e=>PF (i4.objs r) hr e wz rfl)).trans wz;rw[m9.dfs];refine⟨by simp,.inl ⟨w.heap.size,_,rfl,run_takeDeferred zo,?_⟩⟩;obtain⟨i6,s6⟩:=m9.inv.base.put (n0:=w.heap.size) (x:=w.heap.size) (o':=.deferred none) zo rfl rfl (.inr rfl);have hS6:SR N [{ target:=.collected w.heap.size,args:=#[] }] (w5.putObj w.heap.size (.deferred none)) g5 yX.h yX g5 a5 (w5.putObj w.heap.size (.deferred none)):=⟨i6,.refl _ _ _,m9.dfs,m9.size,fun i=>(m9.slots i).le s6.le⟩;have S6:=(S4.trans (aW.of_inv m9.inv m9.le (A3 (Al _) S4.size))).trans s6;obtain⟨v,k2,r,h7,g7,k1,k5,k3,k4⟩:=bS (H0:=H0) hT hσ.1 hσ.2 (SR.rebase hS6 (i6.of_seg S6 fun h=>absurd h (Nat.lt_irrefl _)) S6.le) hk;exact⟨v,k2,hR v r h7 g7 _ k1 k5 k3 k4⟩
 cases e with
 |normal=>exact fin hq
 |ret=>exact fin hq
 |exit id=>exact hq.elim
end
section
variable {P:Program}{N:Nat}{w:World}{g:Gh}
theorem fh(o k r:Nat){H:List (Nat×HO)}(cx:Cx)(hP:cx.P=P)(hT:CH P cx.T)(hm:P.follows .mixedOrders=true)(hx:cx.ext=true){σ:Ji}(hσ:(G5 σ&&IR σ H)=true){fn:FuncId}{tm:Array Value}{ps:Array Tmp}{GZ body:Code}{D l:Nat}
  {env:Nat→AV} {args:List AV} {U:Nat→Prop} {Q:AV→(Nat→HO)→Prop} (xn:args.length=ps.toList.length) (hN:tm.size=N) (hpN:(ps.toList.all fun p=>Nat.blt p N)=true) (hca:EH N GZ=true) (wQ:EH N body=true)
  (hU:∀i,U i→AU (Aq H Aa) i)
  (hk:RV cx GZ (fun e st=>match e with | .normal=>RV cx body (fun e st=>match e with | .normal=>uR st.h o k r fun h'=>Q (.v (.bool true)) (FU σ (Po h' cx.pl.fin)) | _=>False) st | _=>False) ⟨kZ ps.toList args env,Aq H Aa⟩)
  (hY:∀l σ g w,cx.yp l σ g w:=by exact fun _ _ _ _=>trivial) (wM:OT [] body=false:=by kernel_rfl) :
  Jb P (fun g w=>w.heap[l]?=some (.loop (Im fn tm ps GZ body D .ready))∧∀i,BS g w U (env i) (tm.getD i undef)) l args (Aq H Aa) Q:=by
 simp only[Ah]at hσ;intro g w vals hs hv hI ⟨hl,Oa⟩;have DF:l<w.heap.size:=(BI.1 hl).1;have hdl:∀s,WI (.loop (Im fn tm ps GZ body D s))=true:=fun s=>by show(!OT [] body)=true;rw[wM];rfl
 have hE:LK cx (Aq H Aa):=by unfold LK;rw[hx];exact fun i hi=>⟨(GH hσ.2 i hi).1,(GH hσ.2 i hi).2.1⟩
 have Sc:∀r,((Aq H Aa) r).live→g.own r≠some l:=fun r hr e=>PF (hI.objs r) hr e hl (hdl _);have nh:∀(t0:Array Value),(ps.zip vals).foldl (fun tmps (p:Nat×Value)=>tmps.setIfInBounds p.1 p.2) t0=(ps.toList.zip vals.toList).foldl (fun t p=>t.setIfInBounds p.1 p.2) t0:=fun t0=>by
  rw[←Array.foldl_toList,Array.toList_zip]
 have hry:=run_yield (P:=P) (args:=vals) hl (by simp only[hs,xn,Cb]);refine⟨fn,_,GZ,body,hry,roundIn_of_wpIn trivial ?_⟩;obtain⟨z1,z2⟩:=X1 (U:=AU (Aq H Aa)) (ps:=ps.toList) (args:=args) (vals:=vals.toList) (tm:=tm) (env:=env) (by simpa using hs) xn (fun p hp=>by
  have:=(AR.1 hpN) p hp
  rw[hN];simpa using this) (fun i av x e1 e2=>hv i av x e1 (by simpa using e2)) (fun i=>(Oa i).mono (.refl _ _) hU (.refl _ _))
 have hS0:SR N [] w g (Aq H Aa) ⟨kZ ps.toList args env,Aq H Aa⟩ g { tmps:=(ps.zip vals).foldl (fun tmps (p:Nat×Value)=>tmps.setIfInBounds p.1 p.2) tm,defers:=[] } w:=by
  refine⟨hI,.refl _ _ _,rfl,?_,fun i=>?_⟩
  ·rw[nh];exact z1.trans hN
  ·rw[nh];exact z2 i
 refine NX hP hT hm hE (fun l σ _ _ w _ _ _=>hY l σ _ w) (some l) GZ hca (fun e st1 g1 a1 w1 hq lu=>?_) hS0 hk;cases e with
 |exit _=>exact hq.elim
 |ret=>exact hq.elim
 |normal =>
  have um:w1.heap[l]?=some (.loop (Im fn tm ps GZ body D .ready)):=(lu.inv.frame l DF Sc).trans hl;refine⟨_,run_beginRound um rfl,?_⟩;obtain⟨iS,sS⟩:=hI.put (n0:=w.heap.size) (x:=l) (o':=.loop (Im fn tm ps GZ body D .busy)) hl (hdl _) (hdl _) (.inr rfl);have w7:(w.putObj l (.loop (Im fn tm ps GZ body D .busy))).heap[l]?=some (.loop (Im fn tm ps GZ body D .busy)):=World.putObj_heap_same DF;have lI:(w.putObj l (.loop (Im fn tm ps GZ body D .busy))).heap.size=w.heap.size:=by simp[World.putObj]
  obtain⟨_,sB⟩:=iS.dullS (w':=w) (n0:=w.heap.size) (x:=l) ⟨rfl,rfl,rfl⟩ (by rw[lI];exact Al _) (fun b _=>by
   by_cases e:b=l
   ·subst e;exact .inr ⟨_,_,w7,hl,hdl _,hdl _⟩
   ·exact .inl (World.putObj_heap_other e).symm) (fun b _ DL=>(World.putObj_heap_other DL).symm)
  obtain⟨i2,s2⟩:=lu.inv.base.put (n0:=w.heap.size) (x:=l) (o':=.loop (Im fn tm ps GZ body D .busy)) um (hdl _) (hdl _) (.inr rfl);have S2:=(sB.trans (aW.of_inv lu.inv lu.le (Al _))).trans s2;have dj:(w1.putObj l (.loop (Im fn tm ps GZ body D .busy))).heap[l]?=some (.loop (Im fn tm ps GZ body D .busy)):=World.putObj_heap_same (BI.1 um).1;have hI2:=i2.of_seg (by rw[lI];exact S2) (fun _=>dj.trans w7.symm);have hS2:SR N [] (w.putObj l (.loop (Im fn tm ps GZ body D .busy))) g (Aq H Aa) st1 g1 a1 (w1.putObj l (.loop (Im fn tm ps GZ body D .busy))):=⟨hI2,S2.le,lu.dfs,lu.size,fun i=>(lu.slots i).le s2.le⟩;refine NX hP hT hm hE (fun l σ _ _ w _ _ _=>hY l σ _ w) (some l) body wQ (fun e st3 g3 a3 w3 hq rO=>?_) hS2 hq;cases e with
  |exit _=>exact hq.elim
  |ret=>exact hq.elim
  |normal =>
   obtain⟨h3,g3',rO,hq⟩:=jJ rO hq;have su:w3.heap[l]?=some (.loop (Im fn tm ps GZ body D .busy)):=(rO.inv.frame l (by rw[lI];exact DF) Sc).trans w7;refine⟨.bool true,w3.putObj l (.loop (Im fn tm ps GZ body D .ready)),run_endRound none su,?_⟩;obtain⟨gf,if1,if2⟩:=M2 cx.pl.fin rO.inv;obtain⟨i4,s4⟩:=if1.base.put (n0:=w.heap.size) (x:=l) (o':=.loop (Im fn tm ps GZ body D .ready)) su (hdl _) (hdl _) (.inr rfl);have S4:=(sS.trans (aW.of_inv if1 (rO.le.trans if2) (by rw[lI];exact Al _))).trans s4;have hl4:(w3.putObj l (.loop (Im fn tm ps GZ body D .ready))).heap[l]?=some (.loop (Im fn tm ps GZ body D .ready)):=World.putObj_heap_same (BI.1 su).1;have hI4:=i4.of_seg S4 (fun _=>hl4.trans hl.symm);obtain⟨_,j1,j2⟩:=Pc hσ.1 hσ.2 hI4 S4.le;exact⟨.bool true,.v (.bool true),_,_,rfl,hq,.v _ _,j1,j2⟩
end
def qG(h:Nat→HO)(o k r sz:Nat)(K:(Nat→HO)→Prop):Prop :=
 match h o with
 |.cells cs=>match Jq cs k with
  |.v (.slice none 0 0)=>match h r with
   |.free=>K (A2 (A2 h r (.var sz 0 0)) o (.cells (EO cs k (.slice (.ver r sz 0) []))))
   |_=>False
  |_=>False
 |_=>False
section
variable {P:Program}{N:Nat}{ds:List Deferred}{w0:World}{g0:Gh}{h0:Nat→HO}{st:St}{g:Gh}{a:Act}{w:World}
theorem pK(hS:SR N ds w0 g0 h0 st g a w){o k r sz:Nat}{K:(Nat→HO)→Prop}(hk:qG st.h o k r sz K):∃h' g',SR N ds w0 g0 h0 ⟨st.t,h'⟩ g' a w∧K h':=by
 unfold qG at hk;split at hk
 ·rename_i cs e0;split at hk
  ·rename_i e1;split at hk
   ·rename_i hf;have kl:o≠r:=fun e=>by rw[e,hf]at e0;cases e0
    have Xv:=JA cs k _ e1 (by simp)
    obtain⟨m1,m2⟩:=hS.inv.upd r (.var sz 0 0) (.slice none 0 0) 0 true none g.S w none ⟨rfl,rfl,rfl,Al _⟩ (fun _ _ _=>rfl) (fun b e=>by cases e) (fun _ _ h=>h) (fun _ _ h=>.inl h) (fun b o e=>by cases e) (fun b hh e=>by first | (cases e;done) | (exact absurd hh.2 (by simp))) (by simp)
     (fun hu=>absurd hf hu) (fun _ _=>by
      obtain⟨u1,u2,u3,u4⟩:=BK g r (.slice none 0 0) 0 true none g.S;exact⟨u3,u2,none,0,u1,.inl ⟨rfl,u4⟩⟩)
    generalize Sq:g.upd r (.slice none 0 0) 0 true none g.S=g1 at m1 m2;have gr:g1.tk r=true∧g1.ln r=0∧g1.ρ r=.slice none 0 0:=by rw[←Sq];simp[Gh.upd]
    have oM : (A2 st.h r (.var sz 0 0)) o=.cells cs:=by rw[B8 _ _ _ _ kl,e0]
    obtain⟨g3,p1,p2⟩:=OU m1 oM Xv (new:=.slice (.ver r sz 0) []) (fun y hy=>by
     cases hy
     exact .ver _ r sz 0 [] _ (.snil _ _ _) (fun c hc=>by cases hc) (by unfold AU;rw[Bl];simp) gr.1 (AG _) (fun _=>gr.2.2.symm))
    exact⟨_,g3,⟨p1,hS.le.trans (m2.trans p2),hS.dfs,hS.size,fun i=>(hS.slots i).le (m2.trans p2)⟩,hk⟩
   ·exact hk.elim
  ·exact hk.elim
 ·exact hk.elim
def u5(o k r sz:Nat)(cR:Cx)(P:Program)(N:Nat)(fn:Func)(σ:Ji)(Q:AV→(Nat→HO)→Prop)(b rest:Code)(st:St):Prop :=
 qG st.h o k r sz fun h1 =>
  ∃(σF σr:Ji) (H0 Hn:List (Nat×HO)) (mX s:Nat) (ps:Array Tmp) (GZ body:Code) (gf:Nat) (caps:List AV),
  b=.block mX (.rangeFunc (.tmp s) ps GZ body)∧(Ey σF&&DO h1 0 0&&DA σF 0 0)=true∧FU σF h1=Aq H0 Aa∧(G5 σr&&IR σr H0)=true∧IR σr Hn=true ∧
  ren (CC σF) h1 (st.t s)=.clo gf caps ∧
  (∀(l D:Nat) (f' : FuncId) (tm:Array Value),tm.size=N→XA P (fun g w=>w.heap[l]?=some (.loop (Im f' tm ps GZ body D .ready))∧∀i,BS g w (AU (Aq H0 Aa)) (ren (CC σF) h1 (st.t i)) (tm.getD i undef)) σr gf
   (.v (.func (.yield l) #[] #[])::caps) (Aq H0 Aa) fun _ h'=>h'=Aq Hn Aa) ∧
  EH N rest=true∧OT [] body=false∧RV cR rest (XY cR fn.results.toList σr fun r h'=>Q (ren (CC σ) (Eg σF 0 0 h1 h') (ren (Fo σF 0 0) h' r)) (FU σ (Eg σF 0 0 h1 h')))
   ⟨fun i=>ren (CC σF) h1 (st.t i),Aq Hn Aa⟩
theorem cy (o k r sz : Nat) {f : Nat} {fn : Func} {c : Code} {args : List AV} {H : List (Nat × HO)} {Q : AV → (Nat → HO) → Prop} (cx cR : Cx) (σ : Ji) (hP : cx.P = P) (hT : CH P cx.T) (hP2 : cR.P = P) (hT2 : CH P cR.T) (hm : P.follows .mixedOrders = true) (hx : cx.ext = true) (qC : cR.ext = true) (hf : P.funcs[f]? = some fn) (hn : (fn.name == "runtime.NumGoroutine") = false)
  (hb:fn.body=some c) (hN:args.length≤fn.ntmps) (hc:EH fn.ntmps c=true) (hσ:(G5 σ&&IR σ H)=true) (n:Nat)
  (hk:kG cx n c (XY cx fn.results.toList σ fun r h'=>∃r',Hm r r'∧Q r' h') (u5 o k r sz cR P fn.ntmps fn σ fun r h'=>∃r',Hm r r'∧Q r' h') ⟨O0 args,Aq H Aa⟩)
  (hY:∀l σ g w,cx.yp l σ g w:=by exact fun _ _ _ _=>trivial) (hY2:∀l σ g w,cR.yp l σ g w:=by exact fun _ _ _ _=>trivial):Bm P f args (Aq H Aa) Q:=by
 refine Bm.mono (Q:=fun r h'=>∃r',Hm r r'∧Q r' h') ?_ fun _ _ ⟨r',s,q⟩=>⟨r',s,q⟩;simp only[Ah]at hσ;refine⟨⟨fn,hf,hn,by simp[hb]⟩,fun g w vals hs hv hI=>callsIn_wide.1 (callsIn_of_wp_marks (F:=Fence.wide) (n:=0) hf hb trivial ?_ rfl)⟩;have hE:LK cx (Aq H Aa):=by unfold LK;rw[hx];exact fun i hi=>⟨(GH hσ.2 i hi).1,(GH hσ.2 i hi).2.1⟩
 have hS:SR fn.ntmps [] w g (Aq H Aa) ⟨O0 args,Aq H Aa⟩ g { tmps:=vals++Array.replicate (fn.ntmps-vals.size) undef,defers:=[] } w:=by
  refine⟨hI,.refl _ _ _,rfl,by simp[hs];omega,fun i=>?_⟩
  have:=Pa (n:=fn.ntmps-vals.size) (args:=args) (vals:=vals.toList) (by simpa using hs) (fun i av x q1 q2=>hv i av x q1 (by simpa using q2)) i
  rw[CD,←AQ];rw[BY]at this;simpa using this
 refine kH hP hT hm hE (fun l σ _ _ w _ _ _=>hY l σ _ w) (fun e st g' a w' DL hk hS=>?_) (fun b rest st g' a w' hk hS=>?_) n c hc hS hk
 ·have out:dY cx st fn.results.toList σ (fun r h'=>∃r',Hm r r'∧Q r' h')→LeavesInM (J8 none) 0 P fn a.tmps (fun e w'=>∃v r h' g',e=Ending.returned v∧(∃r',Hm r r'∧Q r' h')∧BS g' w' (AU h') r v∧DQ w g (Aq H Aa) h' g' w'∧Le (Aq H Aa) g w h' g' w') a.defers .returning w':=by
   intro hk;obtain⟨v,q2,r,h',g2,q1,q3,q4,q5⟩:=bS hT hσ.1 hσ.2 hS hk;rw[hS.dfs];exact⟨v,q2,v,r,h',g2,rfl,q1,q3,q4,q5⟩
  cases e with
  |normal=>exact absurd rfl DL
  |ret=>exact out hk
  |exit id=>exact hk.elim
 ·obtain⟨h1,g',hS,hk⟩:=pK hS hk;obtain⟨σF,σr,H0,Hn,mX,s,ps,GZ,body,gf,caps,rfl,k1,k2,k3,k4,k5,k6,k7,k9,k8⟩:=hk;have hσF:Ey σF=true:=by simp only[Ah]at k1;exact k1.1.1
  obtain⟨wE,zq⟩:=WT hS.inv hσF;rw[k2]at zq;have Oa:∀i,BS (DG σF g') w' (AU (Aq H0 Aa)) (ren (CC σF) h1 (st.t i)) (a.tmps.getD i undef):=fun i=>by
   have:=(hS.slots i).ren wE
   rwa [k2]at this
  refine MW (Q:=fun r h'=>∃r',Hm (ren (CC σ) (Eg σF 0 0 h1 h') (ren (Fo σF 0 0) h' r)) r'∧Q r' (FU σ (Eg σF 0 0 h1 h'))) (C:=fun R'=>(∀e cr,R' e cr→(∃v r h' g',e=Ending.returned v∧(∃r',Hm r r'∧Q r' h')∧BS g' cr (AU h') r v∧DQ w g (Aq H Aa) h' g' cr∧Le (Aq H Aa) g w h' g' cr)) →
   (Code.block mX (.rangeFunc (.tmp s) ps GZ body)).wpIn (J8 none) 0 P (Exit.then (rest.wpIn (J8 none) 0 P (bodyPostM (J8 none) 0 P fn (fun e cr=>∃v r h' g',e=Ending.returned v∧(∃r',Hm r r'∧Q r' h')∧BS g' cr (AU h') r v∧DQ w g (Aq H Aa) h' g' cr∧Le (Aq H Aa) g w h' g' cr))) (bodyPostM (J8 none) 0 P fn (fun e cr=>∃v r h' g',e=Ending.returned v∧(∃r',Hm r r'∧Q r' h')∧BS g' cr (AU h') r v∧DQ w g (Aq H Aa) h' g' cr∧Le (Aq H Aa) g w h' g' cr))) a w')
   (fun h k h2=>h fun e w r=>h2 _ _ (k _ _ r)) hS.inv (d:=0) (nn:=0) k1 (fun _ nt=>?_) (fun v r h' g2 w2 q1 q2 q3 q4=>?_) (fun _ _ h=>h)
  ·rw[k2]at nt;exact pV cR hP2 hT2 hm qC k3 k4 k5 k6 k7 k9 k8 hY2 hS.dfs hS.size zq Oa fun v r h' g5 w5 q1 q2 q3 q4=>nt _ _ ⟨v,r,h',g5,rfl,q1,q2,q3,q4⟩
  ·obtain⟨hR,j1,j2⟩:=Pc hσ.1 hσ.2 q2 (hS.le.trans q3);exact⟨v,_,_,_,rfl,q1,q4.ren hR,j1,j2⟩
end
section
variable {P:Program}{N:Nat}{w:World}{g:Gh}
end
end Go.Eng
namespace Go.Eng
open Go.Sort
section
variable {P:Program}
end
end Go.Eng
