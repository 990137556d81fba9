/- Lemmas for the claims of this seat, without a condition: part 17 (EngZP, EngZQ, EngZS, EngZT, EngZU, EngZV, EngZW, EngZX). -/
import Derived.Test.YtddfphmpfnmknaaGreatDoorBA16
namespace Go.Eng
abbrev HH(fn:FuncId)(tm:Array Value)(ps:Array Tmp)(Gq body:Code)(D:Nat)(s:LoopState):Loop :=
 { state:=s,pending:=none,fn:=fn,tmps:=tm,params:=ps,assign:=Gq,body:=body,defers:=D }
def iT:List Nat→List AV→(Nat→AV)→Nat→AV
 |p::ps,v::vs,e=>iT ps vs (GT e p v)
 |_,_,e=>e
section
variable {P:Program}{N:Nat}{w:World}{g:Gh}
theorem WL{U:Nat→Prop}:∀{ps:List Nat} {args:List AV} {vals:List Value} {tm:Array Value} {env:Nat→AV},vals.length=args.length→args.length=ps.length→(∀p∈ps,p<tm.size) →
  (∀(i:Nat) (av:AV) (x:Value),args[i]?=some av→vals[i]?=some x→BC g w U av x)→(∀i,BC g w U (env i) (tm.getD i undef)) →
  ((ps.zip vals).foldl (fun t p=>t.setIfInBounds p.1 p.2) tm).size=tm.size∧∀i,BC g w U (iT ps args env i) (((ps.zip vals).foldl (fun t p=>t.setIfInBounds p.1 p.2) tm).getD i undef)
 | [],args,vals,tm,env,_,h2,_,_,he=>by
  have:args=[]:=AM h2
  subst this;exact⟨rfl,he⟩
 |p::ps,[],vals,tm,env,_,h2,_,_,_=>by cases h2
 |p::ps,a::args,[],tm,env,h1,_,_,_,_=>by cases h1
 |p::ps,a::args,v::vals,tm,env,h1,h2,h3,h4,he=>by
  have hp:=h3 p (Ab ..)
  obtain⟨q1,q2⟩:=WL (ps:=ps) (args:=args) (vals:=vals) (tm:=tm.setIfInBounds p v) (env:=GT env p a) (by simpa using h1) (by simpa using h2) (fun q hq=>by simpa using h3 q (Ag _ hq))
   (fun i av x e1 e2=>h4 (i+1) av x (by simpa using e1) (by simpa using e2)) (fun i=>by
    by_cases e:i=p
    ·subst e;have e1:GT env i a i=a:=by simp[GT]
     have e2:(tm.setIfInBounds i v).getD i undef=v:=by simp[Array.getD_eq_getD_getElem?,hp]
     rw[e1,e2];exact h4 0 a v rfl rfl
    ·have e1:GT env p a i=env i:=by simp only[GT,Cz e,Ef]
     have e2:(tm.setIfInBounds p v).getD i undef=tm.getD i undef:=by
      simp[Array.getD_eq_getD_getElem?,Array.getElem?_setIfInBounds_ne (Ne.symm e)]
     rw[e1,e2];exact he i)
  exact⟨by simpa using q1,q2⟩
def Wl(P:Program)(Y:Gh→World→Prop)(σ:II)(f:Nat)(args:List AV)(h0:Nat→HO)(Q:AV→(Nat→HO)→Prop):Prop :=
 FS P f∧∀(g:Gh) (w:World) (vals:Array Value),vals.size=args.length→(∀(i:Nat) (av:AV) (x:Value),args[i]?=some av→vals[i]?=some x→BC g w (AQ h0) av x) →
  Dz w g h0 h0 g w→(∀h' g' w',Dz w g h0 h' g' w'→Le h0 g w h' g' w'→Y (Do σ g') w') →
  Calls P f vals w fun e w'=>∃v r h' g',e=.returned v∧Q r h'∧BC g' w' (AQ h') r v∧Dz w g h0 h' g' w'∧Le h0 g w h' g' w'
theorem fb{Y:Gh→World→Prop}{l:Nat}{f:Nat}{fn:Func}{c:Code}{args:List AV}{H0:List (Nat×HO)}{Q:AV→(Nat→HO)→Prop}(cx:Cx)(σ:II)(hP:cx.P=P)(hT:Cq P cx.T)(hm:P.follows .mixedOrders=true)(hx:cx.ext=true)(hf:P.funcs[f]?=some fn)
  (hn : (fn.name == "runtime.NumGoroutine") = false) (hb : fn.body = some c) (hN : args.length ≤ fn.ntmps) (hc : Ek fn.ntmps c = true) (hσ : (Gv σ && If σ H0) = true)
  (hy:cx.yp=fun l' σ' g w=>l'=l→σ'=σ→Y g w)
  (hk:Qz cx c (WI cx fn.results.toList σ Q) ⟨N0 args,Aj H0 Aa⟩):Wl P Y σ f args (Aj H0 Aa) Q :=
 ⟨⟨fn,hf,hn,by simp[hb]⟩,fun g w vals hs hv hI hp=>WW cx σ hP hT hm hx hf hn hb hN hc hσ hk hs hv hI fun l' σ' h' g' w' _ q1 q2=>by
  rw[hy];intro _ e;subst e;exact hp h' g' w' q1 q2⟩
end
def iB(cx:Cx):Nat→Code→(Ex→St→Prop)→(Code→Code→St→Prop)→St→Prop
 |0,.seq (.seq a b) d,Q,K,st=>Qz cx a (fun e D3=>match e with |.normal=>K b d D3 |e=>Q e D3) st
 |0,.seq b d,_,K,st=>K b d st
 |n+1,.seq a b,Q,K,st=>Qz cx a (fun e D3=>match e with |.normal=>iB cx n b Q K D3 |e=>Q e D3) st
 |_,_,_,_,_=>False
section
variable {P:Program}{N:Nat}{ds:List Deferred}{w0:World}{g0:Gh}{h0:Nat→HO}{st:St}{g:Gh}{a:Act}{w:World}
theorem iC{cx:Cx}(hP:cx.P=P)(hT:Cq P cx.T)(hm:P.follows .mixedOrders=true)(hE:KY cx h0)(hY:∀l σ h g w,Ee σ=true→Dz w0 g0 h0 h g w→Le h0 g0 w0 h g w→cx.yp l σ (Do σ g) w)
  {Qa:Ex→St→Prop} {K:Code→Code→St→Prop} {Q:Exit→Act→World→Prop} (hQ:∀e st g a w,e≠.normal→Qa e st→SR N ds w0 g0 h0 st g a w→Q e.real a w)
  (hK:∀b d st g a w,K b d st→SR N ds w0 g0 h0 st g a w→b.wpIn (Jp none) 0 P (Exit.then (d.wpIn (Jp none) 0 P Q) Q) a w) :
  ∀(n:Nat) (c:Code),Ek N c=true→∀{st:St} {g:Gh} {a:Act} {w:World},SR N ds w0 g0 h0 st g a w→iB cx n c Qa K st→c.wpIn (Jp none) 0 P Q a w:=by
 intro n
 induction n with
 |zero =>
  intro c hc st g a w hS hk;cases c with
  |seq y d =>
   simp only[Ek,Af]at hc;cases y with
   |seq x b =>
    have hk:Qz cx x (fun e D3=>match e with | .normal=>K b d D3 | e=>Qa e D3) st:=hk;simp only[Ek,Af]at hc;refine wpIn_seq (wpIn_seq (M0 hP hT hm hE hY none x hc.1.1 (Qa:=fun e D3=>match e with | .normal=>K b d D3 | e=>Qa e D3) (fun e st g a w q hS=>?_) hS hk));cases e with
    |normal=>exact hK b d _ _ _ _ q hS
    |exit id=>exact hQ (.exit id) _ _ _ _ (fun e=>by cases e) q hS
    |ret=>exact hQ .ret _ _ _ _ (fun e=>by cases e) q hS
   |_=>exact wpIn_seq (hK _ d _ _ _ _ hk hS)
  |_=>exact hk.elim
 |succ n ih =>
  intro c hc st g a w hS hk;cases c with
  |seq x y =>
   simp only[Ek,Af]at hc;refine wpIn_seq (M0 hP hT hm hE hY none x hc.1 (Qa:=fun e D3=>match e with | .normal=>iB cx n y Qa K D3 | e=>Qa e D3) (fun e st g a w q hS=>?_) hS hk);cases e with
   |normal=>exact ih y hc.2 hS q
   |exit id=>exact hQ (.exit id) _ _ _ _ (fun e=>by cases e) q hS
   |ret=>exact hQ .ret _ _ _ _ (fun e=>by cases e) q hS
  |_=>exact hk.elim
end
section
variable {P:Program}{N:Nat}{ds:List Deferred}{w0:World}{g0:Gh}{h0:Nat→HO}{st:St}{g:Gh}{a:Act}{w:World}
theorem SR.rebase{w1:World}{g1:Gh}{h1:Nat→HO}(hS:SR N ds w0 g0 h0 st g a w)(hI:Dz w1 g1 h1 st.h g w)(hL:Le h1 g1 w1 st.h g w):SR N ds w1 g1 h1 st g a w:=⟨hI,hL,hS.dfs,hS.size,hS.slots⟩
theorem ZK{cx:Cx}(hT:Cq P cx.T){H0:List (Nat×HO)}{σ:II}(hσ:Gv σ=true)(kX:If σ H0=true){fn:Func}{Q:AV→(Nat→HO)→Prop}(hS:SR N ds w0 g0 (Aj H0 Aa) st g a w)(hk:bQ cx st fn.results.toList σ Q) :
  ∃v,(results fn a.tmps).run P w=.ok v w∧∃r h' g',Q r h'∧BC g' w (AQ h') r v∧Dz w0 g0 (Aj H0 Aa) h' g' w∧Le (Aj H0 Aa) g0 w0 h' g' w:=by
 obtain⟨g2,i1,i2⟩:=Me cx.pl.fin hS.inv;have RW : SR N ds w0 g0 (Aj H0 Aa) ⟨st.t,Oe st.h cx.pl.fin⟩ g2 a w:=⟨i1,hS.le.trans i2,hS.dfs,hS.size,fun i=>(hS.slots i).le i2⟩;obtain⟨l,vs,h1,h2,h3,h4,h5⟩:=QZ hT RW _ hk;obtain⟨hR,j1,j2⟩:=N2 hσ kX i1 RW.le;have CB:(results fn a.tmps).run P w=.ok (if h:vs.toArray.size=1 then vs.toArray[0]else .tuple vs.toArray) w:=by
  rw[Nw,show fn.results=fn.results.toList.toArray by simp,List.mapM_toArray];simp only[Sem.run_bind,Sem.run_map,h2,Result.andThen_ok,Sem.run_pure]
 match l,vs,h1,h3,h5,CB with
 | [v],[x],h1,h3,h5,CB=>exact⟨x,by simpa using CB,_,_,_,h1,(h5 0 v x rfl rfl).ren hR,j1,j2⟩
 | [],vs,h1,h3,h5,CB =>
  have:vs=[]:=AM h3
  subst this;exact⟨.tuple #[],by simpa using CB,_,_,_,h1,BC.ren hR (.tup _ [] _ rfl fun i av x q=>by simp at q),j1,j2⟩
 |v::v' :: l,vs,h1,h3,h5,CB =>
  refine⟨.tuple vs.toArray,?_,_,_,_,h1,BC.ren hR (.tup _ _ _ (by simpa using h3) fun i av x q1 q2=>h5 i av x q1 (by simpa using q2)),j1,j2⟩;rw[CB]
  have:vs.toArray.size≠1:=by simp[h3]
  simp only[this,dif_neg,not_false_eq_true]
theorem nq{fn:Func}{kr s:Nat}{ps:Array Tmp}{Gq body rest:Code}(cx:Cx)(hP:cx.P=P)(hT:Cq P cx.T)(hm:P.follows .mixedOrders=true)(hx:cx.ext=true){σ:II}{H0 Hn:List (Nat×HO)}(hσ:(Gv σ&&If σ H0)=true)(xy:If σ Hn=true)
  {env:Nat→AV} {gf:Nat} {caps:List AV} (hF:env s=.clo gf caps) {Qv:AV→(Nat→HO)→Prop}
  (yC:∀(l D:Nat) (f' : FuncId) (tm:Array Value),tm.size=N→Wl P (fun g w=>w.heap[l]?=some (.loop (HH f' tm ps Gq body D .ready))∧∀i,BC g w (AQ (Aj H0 Aa)) (env i) (tm.getD i undef)) σ gf
   (.v (.func (.yield l) #[] #[])::caps) (Aj H0 Aa) fun _ h'=>h'=Aj Hn Aa)
  (hcr:Ek N rest=true) (tL:NR [] body=false) (qh:Qz cx rest (WI cx fn.results.toList σ Qv) ⟨env,Aj Hn Aa⟩) (hY:∀l σ g w,cx.yp l σ g w)
  {a:Act} (ha:a.defers=[]) (hN:a.tmps.size=N) (hI:Dz w g (Aj H0 Aa) (Aj H0 Aa) g w) (Ng:∀i,BC g w (AQ (Aj H0 Aa)) (env i) (a.tmps.getD i undef))
  {R:Ending→World→Prop} (hR:∀v r h' g' w',Qv r h'→BC g' w' (AQ h') r v→Dz w g (Aj H0 Aa) h' g' w'→Le (Aj H0 Aa) g w h' g' w'→R (.returned v) w') :
  (Code.block kr (.rangeFunc (.tmp s) ps Gq body)).wpIn (Jp none) 0 P (Exit.then (rest.wpIn (Jp none) 0 P (bodyPostM (Jp none) 0 P fn R)) (bodyPostM (Jp none) 0 P fn R)) a w:=by
 simp only[Af]at hσ;have hdl:∀f' tm D s,Vo (.loop (HH f' tm ps Gq body D s))=true:=fun _ _ _ _=>by show(!NR [] body)=true;rw[tL];rfl
 refine wpIn_block (wpIn_rangeFunc fun f' _=>?_);have hs:=Ng s;rw[hF]at hs;have kK:a.eval (.tmp s)=a.tmps.getD s undef:=rfl;generalize hfv:a.tmps.getD s undef=fv at hs kK;cases hs with
 |clo _ _ _ lb Et Og =>
 obtain⟨i0,s0⟩:=hI.allocS (n0:=w.heap.size) (x:=w.heap.size) (.deferred (some [])) (Am _);obtain⟨i1,s1⟩:=i0.allocS (n0:=w.heap.size) (x:=w.heap.size) (.loop (HH f' a.tmps ps Gq body w.heap.size .ready)) (by rw[World.size_alloc];omega);generalize hW:(w.alloc (.deferred (some []))).alloc (.loop (HH f' a.tmps ps Gq body w.heap.size .ready))=W1 at i1 s1;have zz:W1.heap.size=w.heap.size+2:=by rw[←hW,World.size_alloc,World.size_alloc]
 have hl:W1.heap[w.heap.size+1]?=some (.loop (HH f' a.tmps ps Gq body w.heap.size .ready)):=by
  rw[←hW]
  have:=World.alloc_heap_new (w.alloc (.deferred (some []))) (.loop (HH f' a.tmps ps Gq body w.heap.size .ready))
  rwa [World.size_alloc]at this
 have hD:W1.heap[w.heap.size]?=some (.deferred (some [])):=by
  rw[←hW,heap_alloc_old _ _ (by rw[World.size_alloc];omega)];exact World.alloc_heap_new w _
 have QG:∀b ob,W1.heap[b]?=some ob→Vo ob=true→∀r,((Aj H0 Aa) r).live→g.own r≠some b:=fun b ob hb hd r hr e=>Ov (i1.objs r) hr e hb hd;have S1:=s0.trans s1;have hit:=yC (w.heap.size+1) w.heap.size f' a.tmps hN
 refine⟨w.heap.size+1,[{ target:=.collected w.heap.size,args:=#[] }],W1,{ target:=.fn (.func gf) lb,args:=#[.func (.yield (w.heap.size+1)) #[] #[]] },W1,gf,
  #[.func (.yield (w.heap.size+1)) #[] #[]]++lb,W1,?_,?_,fun _ _=>trivial,?_,fun e=>(by cases e),?_⟩
 ·rw[←hW];exact run_enterLoop_outer _ _ _ _ _
 ·simp only[resolve,kK];simp[go_sem]
 ·simp only[invoke];rw[Gm hit.1]
 refine callsIn_wide.2 ((hit.2 g W1 _ (by simp[Et];omega) (fun i av x e1 e2=>?_) i1 (fun h' g' w' q1 q2=>?_)).mono ?_)
 ·cases i with
  |zero =>
   simp only[A4,Bj]at e1;rw[HE]at e2
   have:x=.func (.yield (w.heap.size+1)) #[] #[]:=(B2 e2).symm
   subst e1;subst this;exact .v _ _
  |succ i =>
   have e2:lb[i]?=some x:=by rw[←e2,HE];simp
   exact(Og i av x (by simpa using e1) e2).le S1.le
 ·obtain⟨_,_,j2⟩:=N2 hσ.1 hσ.2 q1 q2;refine⟨(q1.frame _ (by omega) (QG _ _ hl (hdl _ _ _ _))).trans hl,fun i=>?_⟩;exact((Ng i).le S1.le).mono j2.keeps (fun _ h=>h) j2.gh
 rintro e w2 ⟨v,r,h',g2,rfl,rfl,_,q3,q4⟩
 have bc:w2.heap[w.heap.size+1]?=some (.loop (HH f' a.tmps ps Gq body w.heap.size .ready)):=(q3.frame _ (by omega) (QG _ _ hl (hdl _ _ _ _))).trans hl;have yw:w2.heap[w.heap.size]?=some (.deferred (some [])):=(q3.frame _ (by omega) (QG _ _ hD rfl)).trans hD;refine⟨none,_,run_endLoop bc (fun e=>by cases e),?_⟩;obtain⟨i4,s4⟩:=q3.base.put (n0:=w.heap.size) (x:=w.heap.size) (o':=.loop { HH f' a.tmps ps Gq body w.heap.size .ready with state:=.exhausted }) bc (hdl _ _ _ _) (hdl f' a.tmps w.heap.size .exhausted) (.inl (by omega));have S4:=(S1.trans (Y6.of_inv q3 q4 (by omega))).trans s4;generalize hW4:w2.putObj (w.heap.size+1) (.loop { HH f' a.tmps ps Gq body w.heap.size .ready with state:=.exhausted })=w4 at i4 s4 S4;have tp:w4.heap[w.heap.size]?=some (.deferred (some [])):=by rw[←hW4,World.putObj_heap_other (by omega)];exact yw
 have hE:KY cx (Aj Hn Aa):=by unfold KY;rw[hx];exact fun i hi=>⟨(F6 xy i hi).1,(F6 xy i hi).2.1⟩
 have yI:SR N [{ target:=.collected w.heap.size,args:=#[] }] w4 g2 (Aj Hn Aa) ⟨env,Aj Hn Aa⟩ g2 { a with defers:=[{ target:=.collected w.heap.size,args:=#[] }]++a.defers } w4 :=
  ⟨i4,.refl _ _ _,by simp[ha],hN,fun i=>(Ng i).le S4.le⟩
 refine M0 hP hT hm hE (fun l σ _ _ w _ _ _=>hY l σ _ w) none rest hcr (fun e wd g5 a5 w5 hq kF=>?_) yI qh;have fin:bQ cx wd fn.results.toList σ Qv→LeavesInM (Jp none) 0 P fn a5.tmps R a5.defers .returning w5:=by
  intro hk;have wJ:w5.heap[w.heap.size]?=some (.deferred (some [])):=(kF.inv.frame _ (Bm.1 tp).1 (fun r hr e=>Ov (i4.objs r) hr e tp rfl)).trans tp;rw[kF.dfs];refine⟨by simp,.inl ⟨w.heap.size,_,rfl,run_takeDeferred wJ,?_⟩⟩;obtain⟨i6,s6⟩:=kF.inv.base.put (n0:=w.heap.size) (x:=w.heap.size) (o':=.deferred none) wJ rfl rfl (.inr rfl);have yJ:SR N [{ target:=.collected w.heap.size,args:=#[] }] (w5.putObj w.heap.size (.deferred none)) g5 wd.h wd g5 a5 (w5.putObj w.heap.size (.deferred none)):=⟨i6,.refl _ _ _,kF.dfs,kF.size,fun i=>(kF.slots i).le s6.le⟩;have S6:=(S4.trans (Y6.of_inv kF.inv kF.le (Br (Am _) S4.size))).trans s6;obtain⟨v,k2,r,h7,g7,k1,k5,k3,k4⟩:=ZK (H0:=H0) hT hσ.1 hσ.2 (SR.rebase yJ (i6.of_seg S6 fun h=>absurd h (Nat.lt_irrefl _)) S6.le) hk;exact⟨v,k2,hR v r h7 g7 _ k1 k5 k3 k4⟩
 cases e with
 |normal=>exact fin hq
 |ret=>exact fin hq
 |exit id=>exact hq.elim
end
section
variable {P:Program}{N:Nat}{w:World}{g:Gh}
theorem cC(o k r:Nat){H:List (Nat×HO)}(cx:Cx)(hP:cx.P=P)(hT:Cq P cx.T)(hm:P.follows .mixedOrders=true)(hx:cx.ext=true){σ:II}(hσ:(Gv σ&&If σ H)=true){fn:FuncId}{tm:Array Value}{ps:Array Tmp}{Gq body:Code}{D l:Nat}
  {env:Nat→AV} {args:List AV} {U:Nat→Prop} {Q:AV→(Nat→HO)→Prop} (uv:args.length=ps.toList.length) (hN:tm.size=N) (zt:(ps.toList.all fun p=>Nat.blt p N)=true) (yS:Ek N Gq=true) (tQ:Ek N body=true)
  (hU:∀i,U i→AQ (Aj H Aa) i)
  (hk:Qz cx Gq (fun e st=>match e with | .normal=>Qz cx body (fun e st=>match e with | .normal=>rZ st.h o k r fun h'=>Q (.v (.bool true)) (Fp σ (Oe h' cx.pl.fin)) | _=>False) st | _=>False) ⟨iT ps.toList args env,Aj H Aa⟩)
  (hY:∀l σ g w,cx.yp l σ g w:=by exact fun _ _ _ _=>trivial) (tL:NR [] body=false:=by kernel_rfl) :
  IA P (fun g w=>w.heap[l]?=some (.loop (HH fn tm ps Gq body D .ready))∧∀i,BC g w U (env i) (tm.getD i undef)) l args (Aj H Aa) Q:=by
 simp only[Af]at hσ;intro g w vals hs hv hI ⟨hl,Ng⟩;have Ds:l<w.heap.size:=(Bm.1 hl).1;have hdl:∀s,Vo (.loop (HH fn tm ps Gq body D s))=true:=fun s=>by show(!NR [] body)=true;rw[tL];rfl
 have hE:KY cx (Aj H Aa):=by unfold KY;rw[hx];exact fun i hi=>⟨(F6 hσ.2 i hi).1,(F6 hσ.2 i hi).2.1⟩
 have QG:∀r,((Aj H Aa) r).live→g.own r≠some l:=fun r hr e=>Ov (hI.objs r) hr e hl (hdl _);have kL:∀(t0:Array Value),(ps.zip vals).foldl (fun tmps (p:Nat×Value)=>tmps.setIfInBounds p.1 p.2) t0=(ps.toList.zip vals.toList).foldl (fun t p=>t.setIfInBounds p.1 p.2) t0:=fun t0=>by
  rw[←Array.foldl_toList,Array.toList_zip]
 have xo:=run_yield (P:=P) (args:=vals) hl (by simp only[hs,uv,BW]);refine⟨fn,_,Gq,body,xo,roundIn_of_wpIn trivial ?_⟩;obtain⟨z1,z2⟩:=WL (U:=AQ (Aj H Aa)) (ps:=ps.toList) (args:=args) (vals:=vals.toList) (tm:=tm) (env:=env) (by simpa using hs) uv (fun p hp=>by
  have:=(Bs.1 zt) p hp
  rw[hN];simpa using this) (fun i av x e1 e2=>hv i av x e1 (by simpa using e2)) (fun i=>(Ng i).mono (.refl _ _) hU (.refl _ _))
 have yH:SR N [] w g (Aj H Aa) ⟨iT ps.toList args env,Aj H Aa⟩ g { tmps:=(ps.zip vals).foldl (fun tmps (p:Nat×Value)=>tmps.setIfInBounds p.1 p.2) tm,defers:=[] } w:=by
  refine⟨hI,.refl _ _ _,rfl,?_,fun i=>?_⟩
  ·rw[kL];exact z1.trans hN
  ·rw[kL];exact z2 i
 refine M0 hP hT hm hE (fun l σ _ _ w _ _ _=>hY l σ _ w) (some l) Gq yS (fun e st1 g1 a1 w1 hq d7=>?_) yH hk;cases e with
 |exit _=>exact hq.elim
 |ret=>exact hq.elim
 |normal =>
  have rJ:w1.heap[l]?=some (.loop (HH fn tm ps Gq body D .ready)):=(d7.inv.frame l Ds QG).trans hl;refine⟨_,run_beginRound rJ rfl,?_⟩;obtain⟨iS,sS⟩:=hI.put (n0:=w.heap.size) (x:=l) (o':=.loop (HH fn tm ps Gq body D .busy)) hl (hdl _) (hdl _) (.inr rfl);have uc:(w.putObj l (.loop (HH fn tm ps Gq body D .busy))).heap[l]?=some (.loop (HH fn tm ps Gq body D .busy)):=World.putObj_heap_same Ds;have jp:(w.putObj l (.loop (HH fn tm ps Gq body D .busy))).heap.size=w.heap.size:=by simp[World.putObj]
  obtain⟨_,sB⟩:=iS.dullS (w':=w) (n0:=w.heap.size) (x:=l) ⟨rfl,rfl,rfl⟩ (by rw[jp];exact Am _) (fun b _=>by
   by_cases e:b=l
   ·subst e;exact .inr ⟨_,_,uc,hl,hdl _,hdl _⟩
   ·exact .inl (World.putObj_heap_other e).symm) (fun b _ Dt=>(World.putObj_heap_other Dt).symm)
  obtain⟨i2,s2⟩:=d7.inv.base.put (n0:=w.heap.size) (x:=l) (o':=.loop (HH fn tm ps Gq body D .busy)) rJ (hdl _) (hdl _) (.inr rfl);have S2:=(sB.trans (Y6.of_inv d7.inv d7.le (Am _))).trans s2;have bc:(w1.putObj l (.loop (HH fn tm ps Gq body D .busy))).heap[l]?=some (.loop (HH fn tm ps Gq body D .busy)):=World.putObj_heap_same (Bm.1 rJ).1;have yA:=i2.of_seg (by rw[jp];exact S2) (fun _=>bc.trans uc.symm);have tA:SR N [] (w.putObj l (.loop (HH fn tm ps Gq body D .busy))) g (Aj H Aa) st1 g1 a1 (w1.putObj l (.loop (HH fn tm ps Gq body D .busy))):=⟨yA,S2.le,d7.dfs,d7.size,fun i=>(d7.slots i).le s2.le⟩;refine M0 hP hT hm hE (fun l σ _ _ w _ _ _=>hY l σ _ w) (some l) body tQ (fun e st3 g3 a3 w3 hq pt=>?_) tA hq;cases e with
  |exit _=>exact hq.elim
  |ret=>exact hq.elim
  |normal =>
   obtain⟨h3,g3',pt,hq⟩:=gA pt hq;have rK:w3.heap[l]?=some (.loop (HH fn tm ps Gq body D .busy)):=(pt.inv.frame l (by rw[jp];exact Ds) QG).trans uc;refine⟨.bool true,w3.putObj l (.loop (HH fn tm ps Gq body D .ready)),run_endRound none rK,?_⟩;obtain⟨gf,xz,zI⟩:=Me cx.pl.fin pt.inv;obtain⟨i4,s4⟩:=xz.base.put (n0:=w.heap.size) (x:=l) (o':=.loop (HH fn tm ps Gq body D .ready)) rK (hdl _) (hdl _) (.inr rfl);have S4:=(sS.trans (Y6.of_inv xz (pt.le.trans zI) (by rw[jp];exact Am _))).trans s4;have zf:(w3.putObj l (.loop (HH fn tm ps Gq body D .ready))).heap[l]?=some (.loop (HH fn tm ps Gq body D .ready)):=World.putObj_heap_same (Bm.1 rK).1;have yB:=i4.of_seg S4 (fun _=>zf.trans hl.symm);obtain⟨_,j1,j2⟩:=N2 hσ.1 hσ.2 yB S4.le;exact⟨.bool true,.v (.bool true),_,_,rfl,hq,.v _ _,j1,j2⟩
end
def oh(h:Nat→HO)(o k r sz:Nat)(K:(Nat→HO)→Prop):Prop :=
 match h o with
 |.cells cs=>match IQ cs k with
  |.v (.slice none 0 0)=>match h r with
   |.free=>K (AU (AU h r (.var sz 0 0)) o (.cells (Es cs k (.slice (.ver r sz 0) []))))
   |_=>False
  |_=>False
 |_=>False
section
variable {P:Program}{N:Nat}{ds:List Deferred}{w0:World}{g0:Gh}{h0:Nat→HO}{st:St}{g:Gh}{a:Act}{w:World}
theorem m6(hS:SR N ds w0 g0 h0 st g a w){o k r sz:Nat}{K:(Nat→HO)→Prop}(hk:oh st.h o k r sz K):∃h' g',SR N ds w0 g0 h0 ⟨st.t,h'⟩ g' a w∧K h':=by
 unfold oh at hk;split at hk
 ·rename_i cs e0;split at hk
  ·rename_i e1;split at hk
   ·rename_i hf;have ik:o≠r:=fun e=>by rw[e,hf]at e0;cases e0
    have QE:=IW cs k _ e1 (by simp)
    obtain⟨m1,m2⟩:=hS.inv.upd r (.var sz 0 0) (.slice none 0 0) 0 true none g.S w none ⟨rfl,rfl,rfl,Am _⟩ (fun _ _ _=>rfl) (fun b e=>by cases e) (fun _ _ h=>h) (fun _ _ h=>.inl h) (fun b o e=>by cases e) (fun b hh e=>by first | (cases e;done) | (exact absurd hh.2 (by simp))) (by simp)
     (fun hu=>absurd hf hu) (fun _ _=>by
      obtain⟨u1,u2,u3,u4⟩:=Bw g r (.slice none 0 0) 0 true none g.S;exact⟨u3,u2,none,0,u1,.inl ⟨rfl,u4⟩⟩)
    generalize TH:g.upd r (.slice none 0 0) 0 true none g.S=g1 at m1 m2;have gr:g1.tk r=true∧g1.ln r=0∧g1.ρ r=.slice none 0 0:=by rw[←TH];simp[Gh.upd]
    have l6 : (AU st.h r (.var sz 0 0)) o=.cells cs:=by rw[BR _ _ _ _ ik,e0]
    obtain⟨g3,p1,p2⟩:=NS m1 l6 QE (new:=.slice (.ver r sz 0) []) (fun y hy=>by
     cases hy
     exact .ver _ r sz 0 [] _ (.snil _ _ _) (fun c hc=>by cases hc) (by unfold AQ;rw[A9];simp) gr.1 (AO _) (fun _=>gr.2.2.symm))
    exact⟨_,g3,⟨p1,hS.le.trans (m2.trans p2),hS.dfs,hS.size,fun i=>(hS.slots i).le (m2.trans p2)⟩,hk⟩
   ·exact hk.elim
  ·exact hk.elim
 ·exact hk.elim
def sd(o k r sz:Nat)(aJ:Cx)(P:Program)(N:Nat)(fn:Func)(σ:II)(Q:AV→(Nat→HO)→Prop)(b rest:Code)(st:St):Prop :=
 oh st.h o k r sz fun h1 =>
  ∃(σF σr:II) (H0 Hn:List (Nat×HO)) (kr s:Nat) (ps:Array Tmp) (Gq body:Code) (gf:Nat) (caps:List AV),
  b=.block kr (.rangeFunc (.tmp s) ps Gq body)∧(Ee σF&&Dv h1 0 0&&Df σF 0 0)=true∧Fp σF h1=Aj H0 Aa∧(Gv σr&&If σr H0)=true∧If σr Hn=true ∧
  ren (Cj σF) h1 (st.t s)=.clo gf caps ∧
  (∀(l D:Nat) (f' : FuncId) (tm:Array Value),tm.size=N→Wl P (fun g w=>w.heap[l]?=some (.loop (HH f' tm ps Gq body D .ready))∧∀i,BC g w (AQ (Aj H0 Aa)) (ren (Cj σF) h1 (st.t i)) (tm.getD i undef)) σr gf
   (.v (.func (.yield l) #[] #[])::caps) (Aj H0 Aa) fun _ h'=>h'=Aj Hn Aa) ∧
  Ek N rest=true∧NR [] body=false∧Qz aJ rest (WI aJ fn.results.toList σr fun r h'=>Q (ren (Cj σ) (DZ σF 0 0 h1 h') (ren (EV σF 0 0) h' r)) (Fp σ (DZ σF 0 0 h1 h')))
   ⟨fun i=>ren (Cj σF) h1 (st.t i),Aj Hn Aa⟩
theorem ai (o k r sz : Nat) {f : Nat} {fn : Func} {c : Code} {args : List AV} {H : List (Nat × HO)} {Q : AV → (Nat → HO) → Prop} (cx aJ : Cx) (σ : II) (hP : cx.P = P) (hT : Cq P cx.T) (yF : aJ.P = P) (yK : Cq P aJ.T) (hm : P.follows .mixedOrders = true) (hx : cx.ext = true) (oc : aJ.ext = true) (hf : P.funcs[f]? = some fn) (hn : (fn.name == "runtime.NumGoroutine") = false)
  (hb:fn.body=some c) (hN:args.length≤fn.ntmps) (hc:Ek fn.ntmps c=true) (hσ:(Gv σ&&If σ H)=true) (n:Nat)
  (hk:iB cx n c (WI cx fn.results.toList σ fun r h'=>∃r',Hf r r'∧Q r' h') (sd o k r sz aJ P fn.ntmps fn σ fun r h'=>∃r',Hf r r'∧Q r' h') ⟨N0 args,Aj H Aa⟩)
  (hY:∀l σ g w,cx.yp l σ g w:=by exact fun _ _ _ _=>trivial) (yM:∀l σ g w,aJ.yp l σ g w:=by exact fun _ _ _ _=>trivial):A3 P f args (Aj H Aa) Q:=by
 refine A3.mono (Q:=fun r h'=>∃r',Hf r r'∧Q r' h') ?_ fun _ _ ⟨r',s,q⟩=>⟨r',s,q⟩;simp only[Af]at hσ;refine⟨⟨fn,hf,hn,by simp[hb]⟩,fun g w vals hs hv hI=>callsIn_wide.1 (callsIn_of_wp_marks (F:=Fence.wide) (n:=0) hf hb trivial ?_ rfl)⟩;have hE:KY cx (Aj H Aa):=by unfold KY;rw[hx];exact fun i hi=>⟨(F6 hσ.2 i hi).1,(F6 hσ.2 i hi).2.1⟩
 have hS:SR fn.ntmps [] w g (Aj H Aa) ⟨N0 args,Aj H Aa⟩ g { tmps:=vals++Array.replicate (fn.ntmps-vals.size) undef,defers:=[] } w:=by
  refine⟨hI,.refl _ _ _,rfl,by simp[hs];omega,fun i=>?_⟩
  have:=N1 (n:=fn.ntmps-vals.size) (args:=args) (vals:=vals.toList) (by simpa using hs) (fun i av x q1 q2=>hv i av x q1 (by simpa using q2)) i
  rw[Ck,←A1];rw[BP]at this;simpa using this
 refine iC hP hT hm hE (fun l σ _ _ w _ _ _=>hY l σ _ w) (fun e st g' a w' Dt hk hS=>?_) (fun b rest st g' a w' hk hS=>?_) n c hc hS hk
 ·have out:bQ cx st fn.results.toList σ (fun r h'=>∃r',Hf r r'∧Q r' h')→LeavesInM (Jp none) 0 P fn a.tmps (fun e w'=>∃v r h' g',e=Ending.returned v∧(∃r',Hf r r'∧Q r' h')∧BC g' w' (AQ h') r v∧Dz w g (Aj H Aa) h' g' w'∧Le (Aj H Aa) g w h' g' w') a.defers .returning w':=by
   intro hk;obtain⟨v,q2,r,h',g2,q1,q3,q4,q5⟩:=ZK hT hσ.1 hσ.2 hS hk;rw[hS.dfs];exact⟨v,q2,v,r,h',g2,rfl,q1,q3,q4,q5⟩
  cases e with
  |normal=>exact absurd rfl Dt
  |ret=>exact out hk
  |exit id=>exact hk.elim
 ·obtain⟨h1,g',hS,hk⟩:=m6 hS hk;obtain⟨σF,σr,H0,Hn,kr,s,ps,Gq,body,gf,caps,rfl,k1,k2,k3,k4,k5,k6,k7,k9,k8⟩:=hk;have zH:Ee σF=true:=by simp only[Af]at k1;exact k1.1.1
  obtain⟨tx,rz⟩:=Vz hS.inv zH;rw[k2]at rz;have Ng:∀i,BC (Do σF g') w' (AQ (Aj H0 Aa)) (ren (Cj σF) h1 (st.t i)) (a.tmps.getD i undef):=fun i=>by
   have:=(hS.slots i).ren tx
   rwa [k2]at this
  refine L9 (Q:=fun r h'=>∃r',Hf (ren (Cj σ) (DZ σF 0 0 h1 h') (ren (EV σF 0 0) h' r)) r'∧Q r' (Fp σ (DZ σF 0 0 h1 h'))) (C:=fun R'=>(∀e ab,R' e ab→(∃v r h' g',e=Ending.returned v∧(∃r',Hf r r'∧Q r' h')∧BC g' ab (AQ h') r v∧Dz w g (Aj H Aa) h' g' ab∧Le (Aj H Aa) g w h' g' ab)) →
   (Code.block kr (.rangeFunc (.tmp s) ps Gq body)).wpIn (Jp none) 0 P (Exit.then (rest.wpIn (Jp none) 0 P (bodyPostM (Jp none) 0 P fn (fun e ab=>∃v r h' g',e=Ending.returned v∧(∃r',Hf r r'∧Q r' h')∧BC g' ab (AQ h') r v∧Dz w g (Aj H Aa) h' g' ab∧Le (Aj H Aa) g w h' g' ab))) (bodyPostM (Jp none) 0 P fn (fun e ab=>∃v r h' g',e=Ending.returned v∧(∃r',Hf r r'∧Q r' h')∧BC g' ab (AQ h') r v∧Dz w g (Aj H Aa) h' g' ab∧Le (Aj H Aa) g w h' g' ab))) a w')
   (fun h k h2=>h fun e w r=>h2 _ _ (k _ _ r)) hS.inv (d:=0) (nn:=0) k1 (fun _ kQ=>?_) (fun v r h' g2 w2 q1 q2 q3 q4=>?_) (fun _ _ h=>h)
  ·rw[k2]at kQ;exact nq aJ yF yK hm oc k3 k4 k5 k6 k7 k9 k8 yM hS.dfs hS.size rz Ng fun v r h' g5 w5 q1 q2 q3 q4=>kQ _ _ ⟨v,r,h',g5,rfl,q1,q2,q3,q4⟩
  ·obtain⟨hR,j1,j2⟩:=N2 hσ.1 hσ.2 q2 (hS.le.trans q3);exact⟨v,_,_,_,rfl,q1,q4.ren hR,j1,j2⟩
end
end Go.Eng
namespace Go.Eng
open Go.Sort
end Go.Eng
namespace Go.Eng
end Go.Eng
namespace Go.Eng
open Go.Proofs
variable {P:Program}
theorem IZ.lend{f:Nat}{sz:Nat}{es:List (List AV)}{vs:List Value}{x:Value}(hp:IZ P f [.agg (.slice .none es::vs.map .v)] (.v x)) :
  A3 P f [.agg (.msl 1000 es.length::vs.map .v)] (Aj [(1000,.arr sz es)] Aa) fun r h'=>r=.v x∧h'=Aj [(1000,.arr sz es)] Aa:=by
 refine⟨hp.1,fun g w us hs hv hI=>?_⟩;have ho:D1 g w (AQ (Aj [(1000,.arr sz es)] Aa)) 1000 (.arr sz es):=hI.objs 1000;have hl:∀r,(Aj [(1000,HO.arr sz es)] Aa r).live→r=1000:=fun r hr=>by
  unfold Aj at hr;cases e:Nat.beq r 1000 with
  |true=>exact AH e
  |false=>rw[e]at hr;exact hr.elim
 obtain⟨t,zg,Et,pH⟩:=ho
 match us,hs with
 | ⟨[u]⟩,_ =>
 have h0:=hv 0 _ u rfl rfl;generalize hU:AQ (Aj [(1000,HO.arr sz es)] Aa)=U at h0;generalize hc:AV.msl 1000 es.length::vs.map AV.v=cs at h0;cases h0 with
 |agg _ _ us h1 h2 h3 =>
  subst hc;have JZ:0<us.size:=by rw[h1];simp
  have hm:=h3 0 _ us[0] rfl (Bk JZ);generalize hy:us[0]=y at hm;cases hm with
  |msl _ _ _ a cap q1 q2 q3 q4 q5 =>
   have hρ:=q5 zg.symm
   -- the ghost in which the array is stable
   obtain⟨S1,d7,tA,hR⟩:∃S1:Nat→Nat→Prop,(∀b o,g.S b o→S1 b o)∧(∀b o,S1 b o→b<w.heap.size)∧BC { g with S:=S1 } w E8 (.slice .none es) (.slice a es.length cap):=by
    rcases pH with ⟨e1,e2,e3⟩ | ⟨b,KG,E,xs,e1,e2,e3,e4,e5,e6,e7⟩
    ·subst e1;exact⟨g.S,fun _ _ h=>h,hI.slt,.snil _ _ _⟩
    ·rw[e1]at hρ;cases hρ;have hK:Ey g w { g with S:=fun c o=>g.S c o∨c=b } w:=fun c o h=>⟨.inl h,rfl,fun _ _ h=>h⟩
     refine⟨fun c o=>g.S c o∨c=b,fun _ _ h=>.inl h,fun c o h=>h.elim (hI.slt c o) fun h=>?_,?_⟩
     ·subst h;exact(Bm.1 e4).1
     ·exact BC.slice_row e4 Et e3 (e6.mono hK (fun _ h=>h) (fun _ h=>h.elim)) fun o _=>.inr rfl
   have hK:Ey g w { g with S:=S1 } w:=fun c o h=>⟨d7 _ _ h,rfl,fun _ _ h=>h⟩;have hA:BC { g with S:=S1 } w (AQ Aa) (.agg (.slice .none es::vs.map .v)) (.agg us):=by
    refine .agg _ _ _ (by rw[h1];rfl) h2 fun i av z k1 k2=>?_
    match i,k1 with
    |0,k1 =>
     have:us[0]?=some us[0]:=Bk JZ
     rw[this]at k2;cases k2;cases k1;rw[hy];exact hR.up _
    |i+1,k1 =>
     have k3:=h3 (i+1) av z k1 k2
     have:∃q,av=.v q:=by
      have xA : (vs.map AV.v)[i]?=some av:=k1;rw[AC,AW]at xA;exact xA.imp fun _ h=>h.2.symm
     obtain⟨q,rfl⟩:=this;rw[k3.v_eq];exact .v _ _
   have rz:Dz w { g with S:=S1 } Aa Aa { g with S:=S1 } w :=
    ⟨rfl,rfl,rfl,Am _,fun _ _ _=>rfl,tA,fun _=>trivial,fun _ _ _ h=>h.elim,fun _ _ h=>h.elim,fun _ _ h=>.inl h,hI.glob.keep hK⟩
   refine(hp.2 { g with S:=S1 } w ⟨[Value.agg us]⟩ rfl (fun i av z k1 k2=>by
    match i,k1,k2 with
    |0,k1,k2=>cases k1;cases k2;exact hA) rz).mono ?_
   rintro e w' ⟨v,r,h',g',rfl,⟨rfl,rfl⟩,p1,p2,p3⟩
   have cO:∀b,b<w.heap.size→w'.heap[b]?=w.heap[b]?:=fun b hb=>p2.frame b hb fun _ h=>h.elim;have tu:Ey g w g w':=fun b o hS=>by
    have:=cO b (hI.slt b o hS)
    exact⟨hS,by simp[World.cell?,this],fun es ck h=>this.trans h⟩
   refine⟨v,.v x,_,g,rfl,⟨rfl,rfl⟩,by rw[p1.v_eq];exact .v _ _,?_,⟨.refl _ _,fun _ h=>h,tu⟩⟩;refine⟨p2.os,p2.tape,p2.output,p2.size,fun b hb _=>cO b hb,fun b o h=>Bu (hI.slt b o h) p2.size,fun r=>?_,hI.inj,fun r b h1 h2=>?_,fun _ _ h=>.inl h,hI.glob.keep tu⟩
   ·exact(hI.objs r).same tu (fun _ h=>h) (.refl _ _) rfl rfl rfl rfl fun b wR Sb=>⟨cO b (hI.loc r b wR Sb).1,fun _ h=>h⟩
   ·exact⟨Bu (hI.loc r b h1 h2).1 p2.size,.inr ⟨r,h1,h2⟩⟩
end Go.Eng
