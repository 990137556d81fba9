/- Lemmas for the claims of this seat, without a condition: part 17 (EngZP, EngZQ, EngZS, EngZT, EngZU, EngZV). -/
import Derived.Test.YtmcbkdbfaneofaaGreatDoorBA16
namespace Go.Eng
abbrev Ik(fn:FuncId)(tm:Array Value)(ps:Array Tmp)(GU body:Code)(D:Nat)(s:LoopState):Loop :=
 { state:=s,pending:=none,fn:=fn,tmps:=tm,params:=ps,assign:=GU,body:=body,defers:=D }
def lc:List Nat→List AV→(Nat→AV)→Nat→AV
 |p::ps,v::vs,e=>lc ps vs (Hq e p v)
 |_,_,e=>e
section
variable {P:Program}{N:Nat}{w:World}{g:Gh}
theorem XW{U:Nat→Prop}:∀{ps:List Nat} {args:List AV} {vals:List Value} {tm:Array Value} {env:Nat→AV},vals.length=args.length→args.length=ps.length→(∀p∈ps,p<tm.size) →
  (∀(i:Nat) (av:AV) (x:Value),args[i]?=some av→vals[i]?=some x→BP g w U av x)→(∀i,BP g w U (env i) (tm.getD i undef)) →
  ((ps.zip vals).foldl (fun t p=>t.setIfInBounds p.1 p.2) tm).size=tm.size∧∀i,BP g w U (lc ps args env i) (((ps.zip vals).foldl (fun t p=>t.setIfInBounds p.1 p.2) tm).getD i undef)
 | [],args,vals,tm,env,_,h2,_,_,he=>by
  have:args=[]:=AA h2
  subst this;exact⟨rfl,he⟩
 |p::ps,[],vals,tm,env,_,h2,_,_,_=>by cases h2
 |p::ps,a::args,[],tm,env,h1,_,_,_,_=>by cases h1
 |p::ps,a::args,v::vals,tm,env,h1,h2,h3,h4,he=>by
  have hp:=h3 p (Ac ..)
  obtain⟨q1,q2⟩:=XW (ps:=ps) (args:=args) (vals:=vals) (tm:=tm.setIfInBounds p v) (env:=Hq env p a) (by simpa using h1) (by simpa using h2) (fun q hq=>by simpa using h3 q (Ah _ hq))
   (fun i av x e1 e2=>h4 (i+1) av x (by simpa using e1) (by simpa using e2)) (fun i=>by
    by_cases e:i=p
    ·subst e;have e1:Hq env i a i=a:=by simp[Hq]
     have e2:(tm.setIfInBounds i v).getD i undef=v:=by simp[Array.getD_eq_getD_getElem?,hp]
     rw[e1,e2];exact h4 0 a v rfl rfl
    ·have e1:Hq env p a i=env i:=by simp only[Hq,CV e,Ez]
     have e2:(tm.setIfInBounds p v).getD i undef=tm.getD i undef:=by
      simp[Array.getD_eq_getD_getElem?,Array.getElem?_setIfInBounds_ne (Ne.symm e)]
     rw[e1,e2];exact he i)
  exact⟨by simpa using q1,q2⟩
def Xt(P:Program)(Y:Gh→World→Prop)(σ:Ji)(f:Nat)(args:List AV)(h0:Nat→HO)(Q:AV→(Nat→HO)→Prop):Prop :=
 Gl P f∧∀(g:Gh) (w:World) (vals:Array Value),vals.size=args.length→(∀(i:Nat) (av:AV) (x:Value),args[i]?=some av→vals[i]?=some x→BP g w (AW h0) av x) →
  DS w g h0 h0 g w→(∀h' g' w',DS w g h0 h' g' w'→Le h0 g w h' g' w'→Y (DG σ g') w') →
  Calls P f vals w fun e w'=>∃v r h' g',e=.returned v∧Q r h'∧BP g' w' (AW h') r v∧DS w g h0 h' g' w'∧Le h0 g w h' g' w'
theorem im{Y:Gh→World→Prop}{l:Nat}{f:Nat}{fn:Func}{c:Code}{args:List AV}{H0:List (Nat×HO)}{Q:AV→(Nat→HO)→Prop}(cx:Cx)(σ:Ji)(hP:cx.P=P)(hT:CJ P cx.T)(hm:P.follows .mixedOrders=true)(hx:cx.ext=true)(hf:P.funcs[f]?=some fn)
  (hn : (fn.name == "runtime.NumGoroutine") = false) (hb : fn.body = some c) (hN : args.length ≤ fn.ntmps) (hc : EE fn.ntmps c = true) (hσ : (G0 σ && IR σ H0) = true)
  (hy:cx.yp=fun l' σ' g w=>l'=l→σ'=σ→Y g w)
  (hk:RW cx c (XT cx fn.results.toList σ Q) ⟨Pd args,Ap H0 Ab⟩):Xt P Y σ f args (Ap H0 Ab) Q :=
 ⟨⟨fn,hf,hn,by simp[hb]⟩,fun g w vals hs hv hI hp=>X6 cx σ hP hT hm hx hf hn hb hN hc hσ hk hs hv hI fun l' σ' h' g' w' _ q1 q2=>by
  rw[hy];intro _ e;subst e;exact hp h' g' w' q1 q2⟩
end
def kH(cx:Cx):Nat→Code→(Ex→St→Prop)→(Code→Code→St→Prop)→St→Prop
 |0,.seq (.seq a b) d,Q,K,st=>RW cx a (fun e Ek=>match e with |.normal=>K b d Ek |e=>Q e Ek) st
 |0,.seq b d,_,K,st=>K b d st
 |n+1,.seq a b,Q,K,st=>RW cx a (fun e Ek=>match e with |.normal=>kH cx n b Q K Ek |e=>Q e Ek) st
 |_,_,_,_,_=>False
section
variable {P:Program}{N:Nat}{ds:List Deferred}{w0:World}{g0:Gh}{h0:Nat→HO}{st:St}{g:Gh}{a:Act}{w:World}
theorem kJ{cx:Cx}(hP:cx.P=P)(hT:CJ P cx.T)(hm:P.follows .mixedOrders=true)(hE:LL cx h0)(hY:∀l σ h g w,Ey σ=true→DS w0 g0 h0 h g w→Le h0 g0 w0 h g w→cx.yp l σ (DG σ g) w)
  {Qa:Ex→St→Prop} {K:Code→Code→St→Prop} {Q:Exit→Act→World→Prop} (hQ:∀e st g a w,e≠.normal→Qa e st→SR N ds w0 g0 h0 st g a w→Q e.real a w)
  (hK:∀b d st g a w,K b d st→SR N ds w0 g0 h0 st g a w→b.wpIn (J0 none) 0 P (Exit.then (d.wpIn (J0 none) 0 P Q) Q) a w) :
  ∀(n:Nat) (c:Code),EE N c=true→∀{st:St} {g:Gh} {a:Act} {w:World},SR N ds w0 g0 h0 st g a w→kH cx n c Qa K st→c.wpIn (J0 none) 0 P Q a w:=by
 intro n
 induction n with
 |zero =>
  intro c hc st g a w hS hk;cases c with
  |seq y d =>
   simp only[EE,Ai]at hc;cases y with
   |seq x b =>
    have hk:RW cx x (fun e Ek=>match e with | .normal=>K b d Ek | e=>Qa e Ek) st:=hk;simp only[EE,Ai]at hc;refine wpIn_seq (wpIn_seq (N3 hP hT hm hE hY none x hc.1.1 (Qa:=fun e Ek=>match e with | .normal=>K b d Ek | e=>Qa e Ek) (fun e st g a w q hS=>?_) hS hk));cases e with
    |normal=>exact hK b d _ _ _ _ q hS
    |exit id=>exact hQ (.exit id) _ _ _ _ (fun e=>by cases e) q hS
    |ret=>exact hQ .ret _ _ _ _ (fun e=>by cases e) q hS
   |_=>exact wpIn_seq (hK _ d _ _ _ _ hk hS)
  |_=>exact hk.elim
 |succ n ih =>
  intro c hc st g a w hS hk;cases c with
  |seq x y =>
   simp only[EE,Ai]at hc;refine wpIn_seq (N3 hP hT hm hE hY none x hc.1 (Qa:=fun e Ek=>match e with | .normal=>kH cx n y Qa K Ek | e=>Qa e Ek) (fun e st g a w q hS=>?_) hS hk);cases e with
   |normal=>exact ih y hc.2 hS q
   |exit id=>exact hQ (.exit id) _ _ _ _ (fun e=>by cases e) q hS
   |ret=>exact hQ .ret _ _ _ _ (fun e=>by cases e) q hS
  |_=>exact hk.elim
end
section
variable {P:Program}{N:Nat}{ds:List Deferred}{w0:World}{g0:Gh}{h0:Nat→HO}{st:St}{g:Gh}{a:Act}{w:World}
theorem SR.rebase{w1:World}{g1:Gh}{h1:Nat→HO}(hS:SR N ds w0 g0 h0 st g a w)(hI:DS w1 g1 h1 st.h g w)(hL:Le h1 g1 w1 st.h g w):SR N ds w1 g1 h1 st g a w:=⟨hI,hL,hS.dfs,hS.size,hS.slots⟩
theorem bI{cx:Cx}(hT:CJ P cx.T){H0:List (Nat×HO)}{σ:Ji}(hσ:G0 σ=true)(nv:IR σ H0=true){fn:Func}{Q:AV→(Nat→HO)→Prop}(hS:SR N ds w0 g0 (Ap H0 Ab) st g a w)(hk:dP cx st fn.results.toList σ Q) :
  ∃v,(results fn a.tmps).run P w=.ok v w∧∃r h' g',Q r h'∧BP g' w (AW h') r v∧DS w0 g0 (Ap H0 Ab) h' g' w∧Le (Ap H0 Ab) g0 w0 h' g' w:=by
 obtain⟨g2,i1,i2⟩:=M7 cx.pl.fin hS.inv;have Tz : SR N ds w0 g0 (Ap H0 Ab) ⟨st.t,Pr st.h cx.pl.fin⟩ g2 a w:=⟨i1,hS.le.trans i2,hS.dfs,hS.size,fun i=>(hS.slots i).le i2⟩;obtain⟨l,vs,h1,h2,h3,h4,h5⟩:=SA hT Tz _ hk;obtain⟨hR,j1,j2⟩:=Pf hσ nv i1 Tz.le;have CY:(results fn a.tmps).run P w=.ok (if h:vs.toArray.size=1 then vs.toArray[0]else .tuple vs.toArray) w:=by
  rw[Oz,show fn.results=fn.results.toList.toArray by simp,List.mapM_toArray];simp only[Sem.run_bind,Sem.run_map,h2,Result.andThen_ok,Sem.run_pure]
 match l,vs,h1,h3,h5,CY with
 | [v],[x],h1,h3,h5,CY=>exact⟨x,by simpa using CY,_,_,_,h1,(h5 0 v x rfl rfl).ren hR,j1,j2⟩
 | [],vs,h1,h3,h5,CY =>
  have:vs=[]:=AA h3
  subst this;exact⟨.tuple #[],by simpa using CY,_,_,_,h1,BP.ren hR (.tup _ [] _ rfl fun i av x q=>by simp at q),j1,j2⟩
 |v::v' :: l,vs,h1,h3,h5,CY =>
  refine⟨.tuple vs.toArray,?_,_,_,_,h1,BP.ren hR (.tup _ _ _ (by simpa using h3) fun i av x q1 q2=>h5 i av x q1 (by simpa using q2)),j1,j2⟩;rw[CY]
  have:vs.toArray.size≠1:=by simp[h3]
  simp only[this,dif_neg,not_false_eq_true]
theorem pR{fn:Func}{mT s:Nat}{ps:Array Tmp}{GU body rest:Code}(cx:Cx)(hP:cx.P=P)(hT:CJ P cx.T)(hm:P.follows .mixedOrders=true)(hx:cx.ext=true){σ:Ji}{H0 Hn:List (Nat×HO)}(hσ:(G0 σ&&IR σ H0)=true)(hσn:IR σ Hn=true)
  {env:Nat→AV} {gf:Nat} {caps:List AV} (hF:env s=.clo gf caps) {Qv:AV→(Nat→HO)→Prop}
  (hIT:∀(l D:Nat) (f' : FuncId) (tm:Array Value),tm.size=N→Xt P (fun g w=>w.heap[l]?=some (.loop (Ik f' tm ps GU body D .ready))∧∀i,BP g w (AW (Ap H0 Ab)) (env i) (tm.getD i undef)) σ gf
   (.v (.func (.yield l) #[] #[])::caps) (Ap H0 Ab) fun _ h'=>h'=Ap Hn Ab)
  (hcr:EE N rest=true) (wD:OX [] body=false) (sF:RW cx rest (XT cx fn.results.toList σ Qv) ⟨env,Ap Hn Ab⟩) (hY:∀l σ g w,cx.yp l σ g w)
  {a:Act} (ha:a.defers=[]) (hN:a.tmps.size=N) (hI:DS w g (Ap H0 Ab) (Ap H0 Ab) g w) (Of:∀i,BP g w (AW (Ap H0 Ab)) (env i) (a.tmps.getD i undef))
  {R:Ending→World→Prop} (hR:∀v r h' g' w',Qv r h'→BP g' w' (AW h') r v→DS w g (Ap H0 Ab) h' g' w'→Le (Ap H0 Ab) g w h' g' w'→R (.returned v) w') :
  (Code.block mT (.rangeFunc (.tmp s) ps GU body)).wpIn (J0 none) 0 P (Exit.then (rest.wpIn (J0 none) 0 P (bodyPostM (J0 none) 0 P fn R)) (bodyPostM (J0 none) 0 P fn R)) a w:=by
 simp only[Ai]at hσ;have hdl:∀f' tm D s,WA (.loop (Ik f' tm ps GU body D s))=true:=fun _ _ _ _=>by show(!OX [] body)=true;rw[wD];rfl
 refine wpIn_block (wpIn_rangeFunc fun f' _=>?_);have hs:=Of s;rw[hF]at hs;have m8:a.eval (.tmp s)=a.tmps.getD s undef:=rfl;generalize hfv:a.tmps.getD s undef=fv at hs m8;cases hs with
 |clo _ _ _ lb El Pv =>
 obtain⟨i0,s0⟩:=hI.allocS (n0:=w.heap.size) (x:=w.heap.size) (.deferred (some [])) (Am _);obtain⟨i1,s1⟩:=i0.allocS (n0:=w.heap.size) (x:=w.heap.size) (.loop (Ik f' a.tmps ps GU body w.heap.size .ready)) (by rw[World.size_alloc];omega);generalize hW:(w.alloc (.deferred (some []))).alloc (.loop (Ik f' a.tmps ps GU body w.heap.size .ready))=W1 at i1 s1;have Ac2:W1.heap.size=w.heap.size+2:=by rw[←hW,World.size_alloc,World.size_alloc]
 have hl:W1.heap[w.heap.size+1]?=some (.loop (Ik f' a.tmps ps GU body w.heap.size .ready)):=by
  rw[←hW]
  have:=World.alloc_heap_new (w.alloc (.deferred (some []))) (.loop (Ik f' a.tmps ps GU body w.heap.size .ready))
  rwa [World.size_alloc]at this
 have hD:W1.heap[w.heap.size]?=some (.deferred (some [])):=by
  rw[←hW,heap_alloc_old _ _ (by rw[World.size_alloc];omega)];exact World.alloc_heap_new w _
 have Od:∀b ob,W1.heap[b]?=some ob→WA ob=true→∀r,((Ap H0 Ab) r).live→g.own r≠some b:=fun b ob hb hd r hr e=>PH (i1.objs r) hr e hb hd;have S1:=s0.trans s1;have hit:=hIT (w.heap.size+1) w.heap.size f' a.tmps hN
 refine⟨w.heap.size+1,[{ target:=.collected w.heap.size,args:=#[] }],W1,{ target:=.fn (.func gf) lb,args:=#[.func (.yield (w.heap.size+1)) #[] #[]] },W1,gf,
  #[.func (.yield (w.heap.size+1)) #[] #[]]++lb,W1,?_,?_,fun _ _=>trivial,?_,fun e=>(by cases e),?_⟩
 ·rw[←hW];exact run_enterLoop_outer _ _ _ _ _
 ·simp only[resolve,m8];simp[go_sem]
 ·simp only[invoke];rw[GS hit.1]
 refine callsIn_wide.2 ((hit.2 g W1 _ (by simp[El];omega) (fun i av x e1 e2=>?_) i1 (fun h' g' w' q1 q2=>?_)).mono ?_)
 ·cases i with
  |zero =>
   simp only[Bb,Bw]at e1;rw[Ie]at e2
   have:x=.func (.yield (w.heap.size+1)) #[] #[]:=(Bv e2).symm
   subst e1;subst this;exact .v _ _
  |succ i =>
   have e2:lb[i]?=some x:=by rw[←e2,Ie];simp
   exact(Pv i av x (by simpa using e1) e2).le S1.le
 ·obtain⟨_,_,j2⟩:=Pf hσ.1 hσ.2 q1 q2;refine⟨(q1.frame _ (by omega) (Od _ _ hl (hdl _ _ _ _))).trans hl,fun i=>?_⟩;exact((Of i).le S1.le).mono j2.keeps (fun _ h=>h) j2.gh
 rintro e w2 ⟨v,r,h',g2,rfl,rfl,_,q3,q4⟩
 have c9:w2.heap[w.heap.size+1]?=some (.loop (Ik f' a.tmps ps GU body w.heap.size .ready)):=(q3.frame _ (by omega) (Od _ _ hl (hdl _ _ _ _))).trans hl;have hD2:w2.heap[w.heap.size]?=some (.deferred (some [])):=(q3.frame _ (by omega) (Od _ _ hD rfl)).trans hD;refine⟨none,_,run_endLoop c9 (fun e=>by cases e),?_⟩;obtain⟨i4,s4⟩:=q3.base.put (n0:=w.heap.size) (x:=w.heap.size) (o':=.loop { Ik f' a.tmps ps GU body w.heap.size .ready with state:=.exhausted }) c9 (hdl _ _ _ _) (hdl f' a.tmps w.heap.size .exhausted) (.inl (by omega));have S4:=(S1.trans (aQ.of_inv q3 q4 (by omega))).trans s4;generalize hW4:w2.putObj (w.heap.size+1) (.loop { Ik f' a.tmps ps GU body w.heap.size .ready with state:=.exhausted })=w4 at i4 s4 S4;have wl:w4.heap[w.heap.size]?=some (.deferred (some [])):=by rw[←hW4,World.putObj_heap_other (by omega)];exact hD2
 have hE:LL cx (Ap Hn Ab):=by unfold LL;rw[hx];exact fun i hi=>⟨(GE hσn i hi).1,(GE hσn i hi).2.1⟩
 have hS4:SR N [{ target:=.collected w.heap.size,args:=#[] }] w4 g2 (Ap Hn Ab) ⟨env,Ap Hn Ab⟩ g2 { a with defers:=[{ target:=.collected w.heap.size,args:=#[] }]++a.defers } w4 :=
  ⟨i4,.refl _ _ _,by simp[ha],hN,fun i=>(Of i).le S4.le⟩
 refine N3 hP hT hm hE (fun l σ _ _ w _ _ _=>hY l σ _ w) none rest hcr (fun e yT g5 a5 w5 hq m0=>?_) hS4 sF;have fin:dP cx yT fn.results.toList σ Qv→LeavesInM (J0 none) 0 P fn a5.tmps R a5.defers .returning w5:=by
  intro hk;have zl:w5.heap[w.heap.size]?=some (.deferred (some [])):=(m0.inv.frame _ (BG.1 wl).1 (fun r hr e=>PH (i4.objs r) hr e wl rfl)).trans wl;rw[m0.dfs];refine⟨by simp,.inl ⟨w.heap.size,_,rfl,run_takeDeferred zl,?_⟩⟩;obtain⟨i6,s6⟩:=m0.inv.base.put (n0:=w.heap.size) (x:=w.heap.size) (o':=.deferred none) zl rfl rfl (.inr rfl);have hS6:SR N [{ target:=.collected w.heap.size,args:=#[] }] (w5.putObj w.heap.size (.deferred none)) g5 yT.h yT g5 a5 (w5.putObj w.heap.size (.deferred none)):=⟨i6,.refl _ _ _,m0.dfs,m0.size,fun i=>(m0.slots i).le s6.le⟩;have S6:=(S4.trans (aQ.of_inv m0.inv m0.le (AT (Am _) S4.size))).trans s6;obtain⟨v,k2,r,h7,g7,k1,k5,k3,k4⟩:=bI (H0:=H0) hT hσ.1 hσ.2 (SR.rebase hS6 (i6.of_seg S6 fun h=>absurd h (Nat.lt_irrefl _)) S6.le) hk;exact⟨v,k2,hR v r h7 g7 _ k1 k5 k3 k4⟩
 cases e with
 |normal=>exact fin hq
 |ret=>exact fin hq
 |exit id=>exact hq.elim
end
section
variable {P:Program}{N:Nat}{w:World}{g:Gh}
theorem eZ(o k r:Nat){H:List (Nat×HO)}(cx:Cx)(hP:cx.P=P)(hT:CJ P cx.T)(hm:P.follows .mixedOrders=true)(hx:cx.ext=true){σ:Ji}(hσ:(G0 σ&&IR σ H)=true){fn:FuncId}{tm:Array Value}{ps:Array Tmp}{GU body:Code}{D l:Nat}
  {env:Nat→AV} {args:List AV} {U:Nat→Prop} {Q:AV→(Nat→HO)→Prop} (xg:args.length=ps.toList.length) (hN:tm.size=N) (hpN:(ps.toList.all fun p=>Nat.blt p N)=true) (hca:EE N GU=true) (wH:EE N body=true)
  (hU:∀i,U i→AW (Ap H Ab) i)
  (hk:RW cx GU (fun e st=>match e with | .normal=>RW cx body (fun e st=>match e with | .normal=>uI st.h o k r fun h'=>Q (.v (.bool true)) (FO σ (Pr h' cx.pl.fin)) | _=>False) st | _=>False) ⟨lc ps.toList args env,Ap H Ab⟩)
  (hY:∀l σ g w,cx.yp l σ g w:=by exact fun _ _ _ _=>trivial) (wD:OX [] body=false:=by kernel_rfl) :
  Ja P (fun g w=>w.heap[l]?=some (.loop (Ik fn tm ps GU body D .ready))∧∀i,BP g w U (env i) (tm.getD i undef)) l args (Ap H Ab) Q:=by
 simp only[Ai]at hσ;intro g w vals hs hv hI ⟨hl,Of⟩;have DH:l<w.heap.size:=(BG.1 hl).1;have hdl:∀s,WA (.loop (Ik fn tm ps GU body D s))=true:=fun s=>by show(!OX [] body)=true;rw[wD];rfl
 have hE:LL cx (Ap H Ab):=by unfold LL;rw[hx];exact fun i hi=>⟨(GE hσ.2 i hi).1,(GE hσ.2 i hi).2.1⟩
 have Od:∀r,((Ap H Ab) r).live→g.own r≠some l:=fun r hr e=>PH (hI.objs r) hr e hl (hdl _);have m9:∀(t0:Array Value),(ps.zip vals).foldl (fun tmps (p:Nat×Value)=>tmps.setIfInBounds p.1 p.2) t0=(ps.toList.zip vals.toList).foldl (fun t p=>t.setIfInBounds p.1 p.2) t0:=fun t0=>by
  rw[←Array.foldl_toList,Array.toList_zip]
 have hry:=run_yield (P:=P) (args:=vals) hl (by simp only[hs,xg,B8]);refine⟨fn,_,GU,body,hry,roundIn_of_wpIn trivial ?_⟩;obtain⟨z1,z2⟩:=XW (U:=AW (Ap H Ab)) (ps:=ps.toList) (args:=args) (vals:=vals.toList) (tm:=tm) (env:=env) (by simpa using hs) xg (fun p hp=>by
  have:=(AS.1 hpN) p hp
  rw[hN];simpa using this) (fun i av x e1 e2=>hv i av x e1 (by simpa using e2)) (fun i=>(Of i).mono (.refl _ _) hU (.refl _ _))
 have hS0:SR N [] w g (Ap H Ab) ⟨lc ps.toList args env,Ap H Ab⟩ g { tmps:=(ps.zip vals).foldl (fun tmps (p:Nat×Value)=>tmps.setIfInBounds p.1 p.2) tm,defers:=[] } w:=by
  refine⟨hI,.refl _ _ _,rfl,?_,fun i=>?_⟩
  ·rw[m9];exact z1.trans hN
  ·rw[m9];exact z2 i
 refine N3 hP hT hm hE (fun l σ _ _ w _ _ _=>hY l σ _ w) (some l) GU hca (fun e st1 g1 a1 w1 hq lu=>?_) hS0 hk;cases e with
 |exit _=>exact hq.elim
 |ret=>exact hq.elim
 |normal =>
  have uh:w1.heap[l]?=some (.loop (Ik fn tm ps GU body D .ready)):=(lu.inv.frame l DH Od).trans hl;refine⟨_,run_beginRound uh rfl,?_⟩;obtain⟨iS,sS⟩:=hI.put (n0:=w.heap.size) (x:=l) (o':=.loop (Ik fn tm ps GU body D .busy)) hl (hdl _) (hdl _) (.inr rfl);have wT:(w.putObj l (.loop (Ik fn tm ps GU body D .busy))).heap[l]?=some (.loop (Ik fn tm ps GU body D .busy)):=World.putObj_heap_same DH;have lI:(w.putObj l (.loop (Ik fn tm ps GU body D .busy))).heap.size=w.heap.size:=by simp[World.putObj]
  obtain⟨_,sB⟩:=iS.dullS (w':=w) (n0:=w.heap.size) (x:=l) ⟨rfl,rfl,rfl⟩ (by rw[lI];exact Am _) (fun b _=>by
   by_cases e:b=l
   ·subst e;exact .inr ⟨_,_,wT,hl,hdl _,hdl _⟩
   ·exact .inl (World.putObj_heap_other e).symm) (fun b _ DM=>(World.putObj_heap_other DM).symm)
  obtain⟨i2,s2⟩:=lu.inv.base.put (n0:=w.heap.size) (x:=l) (o':=.loop (Ik fn tm ps GU body D .busy)) uh (hdl _) (hdl _) (.inr rfl);have S2:=(sB.trans (aQ.of_inv lu.inv lu.le (Am _))).trans s2;have c9:(w1.putObj l (.loop (Ik fn tm ps GU body D .busy))).heap[l]?=some (.loop (Ik fn tm ps GU body D .busy)):=World.putObj_heap_same (BG.1 uh).1;have hI2:=i2.of_seg (by rw[lI];exact S2) (fun _=>c9.trans wT.symm);have hS2:SR N [] (w.putObj l (.loop (Ik fn tm ps GU body D .busy))) g (Ap H Ab) st1 g1 a1 (w1.putObj l (.loop (Ik fn tm ps GU body D .busy))):=⟨hI2,S2.le,lu.dfs,lu.size,fun i=>(lu.slots i).le s2.le⟩;refine N3 hP hT hm hE (fun l σ _ _ w _ _ _=>hY l σ _ w) (some l) body wH (fun e st3 g3 a3 w3 hq rJ=>?_) hS2 hq;cases e with
  |exit _=>exact hq.elim
  |ret=>exact hq.elim
  |normal =>
   obtain⟨h3,g3',rJ,hq⟩:=jG rJ hq;have si:w3.heap[l]?=some (.loop (Ik fn tm ps GU body D .busy)):=(rJ.inv.frame l (by rw[lI];exact DH) Od).trans wT;refine⟨.bool true,w3.putObj l (.loop (Ik fn tm ps GU body D .ready)),run_endRound none si,?_⟩;obtain⟨gf,if1,if2⟩:=M7 cx.pl.fin rJ.inv;obtain⟨i4,s4⟩:=if1.base.put (n0:=w.heap.size) (x:=l) (o':=.loop (Ik fn tm ps GU body D .ready)) si (hdl _) (hdl _) (.inr rfl);have S4:=(sS.trans (aQ.of_inv if1 (rJ.le.trans if2) (by rw[lI];exact Am _))).trans s4;have hl4:(w3.putObj l (.loop (Ik fn tm ps GU body D .ready))).heap[l]?=some (.loop (Ik fn tm ps GU body D .ready)):=World.putObj_heap_same (BG.1 si).1;have hI4:=i4.of_seg S4 (fun _=>hl4.trans hl.symm);obtain⟨_,j1,j2⟩:=Pf hσ.1 hσ.2 hI4 S4.le;exact⟨.bool true,.v (.bool true),_,_,rfl,hq,.v _ _,j1,j2⟩
end
def qD(h:Nat→HO)(o k r sz:Nat)(K:(Nat→HO)→Prop):Prop :=
 match h o with
 |.cells cs=>match Jp cs k with
  |.v (.slice none 0 0)=>match h r with
   |.free=>K (A2 (A2 h r (.var sz 0 0)) o (.cells (EM cs k (.slice (.ver r sz 0) []))))
   |_=>False
  |_=>False
 |_=>False
section
variable {P:Program}{N:Nat}{ds:List Deferred}{w0:World}{g0:Gh}{h0:Nat→HO}{st:St}{g:Gh}{a:Act}{w:World}
theorem pG(hS:SR N ds w0 g0 h0 st g a w){o k r sz:Nat}{K:(Nat→HO)→Prop}(hk:qD st.h o k r sz K):∃h' g',SR N ds w0 g0 h0 ⟨st.t,h'⟩ g' a w∧K h':=by
 unfold qD at hk;split at hk
 ·rename_i cs e0;split at hk
  ·rename_i e1;split at hk
   ·rename_i hf;have km:o≠r:=fun e=>by rw[e,hf]at e0;cases e0
    have Xm:=Jv cs k _ e1 (by simp)
    obtain⟨m1,m2⟩:=hS.inv.upd r (.var sz 0 0) (.slice none 0 0) 0 true none g.S w none ⟨rfl,rfl,rfl,Am _⟩ (fun _ _ _=>rfl) (fun b e=>by cases e) (fun _ _ h=>h) (fun _ _ h=>.inl h) (fun b o e=>by cases e) (fun b hh e=>by first | (cases e;done) | (exact absurd hh.2 (by simp))) (by simp)
     (fun hu=>absurd hf hu) (fun _ _=>by
      obtain⟨u1,u2,u3,u4⟩:=BJ g r (.slice none 0 0) 0 true none g.S;exact⟨u3,u2,none,0,u1,.inl ⟨rfl,u4⟩⟩)
    generalize Sp:g.upd r (.slice none 0 0) 0 true none g.S=g1 at m1 m2;have gr:g1.tk r=true∧g1.ln r=0∧g1.ρ r=.slice none 0 0:=by rw[←Sp];simp[Gh.upd]
    have oF : (A2 st.h r (.var sz 0 0)) o=.cells cs:=by rw[B5 _ _ _ _ km,e0]
    obtain⟨g3,p1,p2⟩:=OY m1 oF Xm (new:=.slice (.ver r sz 0) []) (fun y hy=>by
     cases hy
     exact .ver _ r sz 0 [] _ (.snil _ _ _) (fun c hc=>by cases hc) (by unfold AW;rw[Bi];simp) gr.1 (AF _) (fun _=>gr.2.2.symm))
    exact⟨_,g3,⟨p1,hS.le.trans (m2.trans p2),hS.dfs,hS.size,fun i=>(hS.slots i).le (m2.trans p2)⟩,hk⟩
   ·exact hk.elim
  ·exact hk.elim
 ·exact hk.elim
def uR(o k r sz:Nat)(cK:Cx)(P:Program)(N:Nat)(fn:Func)(σ:Ji)(Q:AV→(Nat→HO)→Prop)(b rest:Code)(st:St):Prop :=
 qD st.h o k r sz fun h1 =>
  ∃(σF σr:Ji) (H0 Hn:List (Nat×HO)) (mT s:Nat) (ps:Array Tmp) (GU body:Code) (gf:Nat) (caps:List AV),
  b=.block mT (.rangeFunc (.tmp s) ps GU body)∧(Ey σF&&DP h1 0 0&&DB σF 0 0)=true∧FO σF h1=Ap H0 Ab∧(G0 σr&&IR σr H0)=true∧IR σr Hn=true ∧
  ren (CB σF) h1 (st.t s)=.clo gf caps ∧
  (∀(l D:Nat) (f' : FuncId) (tm:Array Value),tm.size=N→Xt P (fun g w=>w.heap[l]?=some (.loop (Ik f' tm ps GU body D .ready))∧∀i,BP g w (AW (Ap H0 Ab)) (ren (CB σF) h1 (st.t i)) (tm.getD i undef)) σr gf
   (.v (.func (.yield l) #[] #[])::caps) (Ap H0 Ab) fun _ h'=>h'=Ap Hn Ab) ∧
  EE N rest=true∧OX [] body=false∧RW cK rest (XT cK fn.results.toList σr fun r h'=>Q (ren (CB σ) (Eh σF 0 0 h1 h') (ren (Fl σF 0 0) h' r)) (FO σ (Eh σF 0 0 h1 h')))
   ⟨fun i=>ren (CB σF) h1 (st.t i),Ap Hn Ab⟩
theorem cj (o k r sz : Nat) {f : Nat} {fn : Func} {c : Code} {args : List AV} {H : List (Nat × HO)} {Q : AV → (Nat → HO) → Prop} (cx cK : Cx) (σ : Ji) (hP : cx.P = P) (hT : CJ P cx.T) (hP2 : cK.P = P) (hT2 : CJ P cK.T) (hm : P.follows .mixedOrders = true) (hx : cx.ext = true) (qx : cK.ext = true) (hf : P.funcs[f]? = some fn) (hn : (fn.name == "runtime.NumGoroutine") = false)
  (hb:fn.body=some c) (hN:args.length≤fn.ntmps) (hc:EE fn.ntmps c=true) (hσ:(G0 σ&&IR σ H)=true) (n:Nat)
  (hk:kH cx n c (XT cx fn.results.toList σ fun r h'=>∃r',Hi r r'∧Q r' h') (uR o k r sz cK P fn.ntmps fn σ fun r h'=>∃r',Hi r r'∧Q r' h') ⟨Pd args,Ap H Ab⟩)
  (hY:∀l σ g w,cx.yp l σ g w:=by exact fun _ _ _ _=>trivial) (hY2:∀l σ g w,cK.yp l σ g w:=by exact fun _ _ _ _=>trivial):Bj P f args (Ap H Ab) Q:=by
 refine Bj.mono (Q:=fun r h'=>∃r',Hi r r'∧Q r' h') ?_ fun _ _ ⟨r',s,q⟩=>⟨r',s,q⟩;simp only[Ai]at hσ;refine⟨⟨fn,hf,hn,by simp[hb]⟩,fun g w vals hs hv hI=>callsIn_wide.1 (callsIn_of_wp_marks (F:=Fence.wide) (n:=0) hf hb trivial ?_ rfl)⟩;have hE:LL cx (Ap H Ab):=by unfold LL;rw[hx];exact fun i hi=>⟨(GE hσ.2 i hi).1,(GE hσ.2 i hi).2.1⟩
 have hS:SR fn.ntmps [] w g (Ap H Ab) ⟨Pd args,Ap H Ab⟩ g { tmps:=vals++Array.replicate (fn.ntmps-vals.size) undef,defers:=[] } w:=by
  refine⟨hI,.refl _ _ _,rfl,by simp[hs];omega,fun i=>?_⟩
  have:=Pe (n:=fn.ntmps-vals.size) (args:=args) (vals:=vals.toList) (by simpa using hs) (fun i av x q1 q2=>hv i av x q1 (by simpa using q2)) i
  rw[CC,←AR];rw[BX]at this;simpa using this
 refine kJ hP hT hm hE (fun l σ _ _ w _ _ _=>hY l σ _ w) (fun e st g' a w' DM hk hS=>?_) (fun b rest st g' a w' hk hS=>?_) n c hc hS hk
 ·have out:dP cx st fn.results.toList σ (fun r h'=>∃r',Hi r r'∧Q r' h')→LeavesInM (J0 none) 0 P fn a.tmps (fun e w'=>∃v r h' g',e=Ending.returned v∧(∃r',Hi r r'∧Q r' h')∧BP g' w' (AW h') r v∧DS w g (Ap H Ab) h' g' w'∧Le (Ap H Ab) g w h' g' w') a.defers .returning w':=by
   intro hk;obtain⟨v,q2,r,h',g2,q1,q3,q4,q5⟩:=bI hT hσ.1 hσ.2 hS hk;rw[hS.dfs];exact⟨v,q2,v,r,h',g2,rfl,q1,q3,q4,q5⟩
  cases e with
  |normal=>exact absurd rfl DM
  |ret=>exact out hk
  |exit id=>exact hk.elim
 ·obtain⟨h1,g',hS,hk⟩:=pG hS hk;obtain⟨σF,σr,H0,Hn,mT,s,ps,GU,body,gf,caps,rfl,k1,k2,k3,k4,k5,k6,k7,k9,k8⟩:=hk;have hσF:Ey σF=true:=by simp only[Ai]at k1;exact k1.1.1
  obtain⟨wv,zn⟩:=WL hS.inv hσF;rw[k2]at zn;have Of:∀i,BP (DG σF g') w' (AW (Ap H0 Ab)) (ren (CB σF) h1 (st.t i)) (a.tmps.getD i undef):=fun i=>by
   have:=(hS.slots i).ren wv
   rwa [k2]at this
  refine M0 (Q:=fun r h'=>∃r',Hi (ren (CB σ) (Eh σF 0 0 h1 h') (ren (Fl σF 0 0) h' r)) r'∧Q r' (FO σ (Eh σF 0 0 h1 h'))) (C:=fun R'=>(∀e ce,R' e ce→(∃v r h' g',e=Ending.returned v∧(∃r',Hi r r'∧Q r' h')∧BP g' ce (AW h') r v∧DS w g (Ap H Ab) h' g' ce∧Le (Ap H Ab) g w h' g' ce)) →
   (Code.block mT (.rangeFunc (.tmp s) ps GU body)).wpIn (J0 none) 0 P (Exit.then (rest.wpIn (J0 none) 0 P (bodyPostM (J0 none) 0 P fn (fun e ce=>∃v r h' g',e=Ending.returned v∧(∃r',Hi r r'∧Q r' h')∧BP g' ce (AW h') r v∧DS w g (Ap H Ab) h' g' ce∧Le (Ap H Ab) g w h' g' ce))) (bodyPostM (J0 none) 0 P fn (fun e ce=>∃v r h' g',e=Ending.returned v∧(∃r',Hi r r'∧Q r' h')∧BP g' ce (AW h') r v∧DS w g (Ap H Ab) h' g' ce∧Le (Ap H Ab) g w h' g' ce))) a w')
   (fun h k h2=>h fun e w r=>h2 _ _ (k _ _ r)) hS.inv (d:=0) (nn:=0) k1 (fun _ nh=>?_) (fun v r h' g2 w2 q1 q2 q3 q4=>?_) (fun _ _ h=>h)
  ·rw[k2]at nh;exact pR cK hP2 hT2 hm qx k3 k4 k5 k6 k7 k9 k8 hY2 hS.dfs hS.size zn Of fun v r h' g5 w5 q1 q2 q3 q4=>nh _ _ ⟨v,r,h',g5,rfl,q1,q2,q3,q4⟩
  ·obtain⟨hR,j1,j2⟩:=Pf hσ.1 hσ.2 q2 (hS.le.trans q3);exact⟨v,_,_,_,rfl,q1,q4.ren hR,j1,j2⟩
end
section
variable {P:Program}{N:Nat}{w:World}{g:Gh}
end
end Go.Eng
namespace Go.Eng
open Go.Sort
section
variable {P:Program}
end
end Go.Eng
