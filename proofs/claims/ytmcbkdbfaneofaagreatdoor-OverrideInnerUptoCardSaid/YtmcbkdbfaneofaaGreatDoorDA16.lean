/- Lemmas for the claims of this seat, without a condition: part 16 (EngZP, EngZQ, EngZS, EngZT, EngZU, EngZV). -/
import Derived.Test.YtmcbkdbfaneofaaGreatDoorDA15
namespace Go.Eng
abbrev HP(fn:FuncId)(tm:Array Value)(ps:Array Tmp)(GA body:Code)(D:Nat)(s:LoopState):Loop :=
 { state:=s,pending:=none,fn:=fn,tmps:=tm,params:=ps,assign:=GA,body:=body,defers:=D }
def ju:List Nat→List AV→(Nat→AV)→Nat→AV
 |p::ps,v::vs,e=>ju ps vs (G2 e p v)
 |_,_,e=>e
section
variable {P:Program}{N:Nat}{w:World}{g:Gh}
theorem W8{U:Nat→Prop}:∀{ps:List Nat} {args:List AV} {vals:List Value} {tm:Array Value} {env:Nat→AV},vals.length=args.length→args.length=ps.length→(∀p∈ps,p<tm.size) →
  (∀(i:Nat) (av:AV) (x:Value),args[i]?=some av→vals[i]?=some x→BI g w U av x)→(∀i,BI g w U (env i) (tm.getD i undef)) →
  ((ps.zip vals).foldl (fun t p=>t.setIfInBounds p.1 p.2) tm).size=tm.size∧∀i,BI g w U (ju ps args env i) (((ps.zip vals).foldl (fun t p=>t.setIfInBounds p.1 p.2) tm).getD i undef)
 | [],args,vals,tm,env,_,h2,_,_,he=>by
  have:args=[]:=AB h2
  subst this;exact⟨rfl,he⟩
 |p::ps,[],vals,tm,env,_,h2,_,_,_=>by cases h2
 |p::ps,a::args,[],tm,env,h1,_,_,_,_=>by cases h1
 |p::ps,a::args,v::vals,tm,env,h1,h2,h3,h4,he=>by
  have hp:=h3 p (Aa ..)
  obtain⟨q1,q2⟩:=W8 (ps:=ps) (args:=args) (vals:=vals) (tm:=tm.setIfInBounds p v) (env:=G2 env p a) (by simpa using h1) (by simpa using h2) (fun q hq=>by simpa using h3 q (Af _ hq))
   (fun i av x e1 e2=>h4 (i+1) av x (by simpa using e1) (by simpa using e2)) (fun i=>by
    by_cases e:i=p
    ·subst e;have e1:G2 env i a i=a:=by simp[G2]
     have e2:(tm.setIfInBounds i v).getD i undef=v:=by simp[Array.getD_eq_getD_getElem?,hp]
     rw[e1,e2];exact h4 0 a v rfl rfl
    ·have e1:G2 env p a i=env i:=by simp only[G2,CJ e,El]
     have e2:(tm.setIfInBounds p v).getD i undef=tm.getD i undef:=by
      simp[Array.getD_eq_getD_getElem?,Array.getElem?_setIfInBounds_ne (Ne.symm e)]
     rw[e1,e2];exact he i)
  exact⟨by simpa using q1,q2⟩
def WE(P:Program)(Y:Gh→World→Prop)(σ:IQ)(f:Nat)(args:List AV)(h0:Nat→HO)(Q:AV→(Nat→HO)→Prop):Prop :=
 F1 P f∧∀(g:Gh) (w:World) (vals:Array Value),vals.size=args.length→(∀(i:Nat) (av:AV) (x:Value),args[i]?=some av→vals[i]?=some x→BI g w (AR h0) av x) →
  DJ w g h0 h0 g w→(∀h' g' w',DJ w g h0 h' g' w'→Le h0 g w h' g' w'→Y (Dx σ g') w') →
  Calls P f vals w fun e w'=>∃v r h' g',e=.returned v∧Q r h'∧BI g' w' (AR h') r v∧DJ w g h0 h' g' w'∧Le h0 g w h' g' w'
theorem fI{Y:Gh→World→Prop}{l:Nat}{f:Nat}{fn:Func}{c:Code}{args:List AV}{H0:List (Nat×HO)}{Q:AV→(Nat→HO)→Prop}(cx:Cx)(σ:IQ)(hP:cx.P=P)(hT:Cy P cx.T)(hm:P.follows .mixedOrders=true)(hx:cx.ext=true)(hf:P.funcs[f]?=some fn)
  (hn : (fn.name == "runtime.NumGoroutine") = false) (hb : fn.body = some c) (hN : args.length ≤ fn.ntmps) (hc : Et fn.ntmps c = true) (hσ : (GG σ && In σ H0) = true)
  (hy:cx.yp=fun l' σ' g w=>l'=l→σ'=σ→Y g w)
  (hk:QT cx c (W5 cx fn.results.toList σ Q) ⟨Od args,Aj H0 Ab⟩):WE P Y σ f args (Aj H0 Ab) Q :=
 ⟨⟨fn,hf,hn,by simp[hb]⟩,fun g w vals hs hv hI hp=>Xj cx σ hP hT hm hx hf hn hb hN hc hσ hk hs hv hI fun l' σ' h' g' w' _ q1 q2=>by
  rw[hy];intro _ e;subst e;exact hp h' g' w' q1 q2⟩
end
def jc(cx:Cx):Nat→Code→(Ex→St→Prop)→(Code→Code→St→Prop)→St→Prop
 |0,.seq (.seq a b) d,Q,K,st=>QT cx a (fun e D4=>match e with |.normal=>K b d D4 |e=>Q e D4) st
 |0,.seq b d,_,K,st=>K b d st
 |n+1,.seq a b,Q,K,st=>QT cx a (fun e D4=>match e with |.normal=>jc cx n b Q K D4 |e=>Q e D4) st
 |_,_,_,_,_=>False
section
variable {P:Program}{N:Nat}{ds:List Deferred}{w0:World}{g0:Gh}{h0:Nat→HO}{st:St}{g:Gh}{a:Act}{w:World}
theorem jd{cx:Cx}(hP:cx.P=P)(hT:Cy P cx.T)(hm:P.follows .mixedOrders=true)(hE:Lc cx h0)(hY:∀l σ h g w,Ei σ=true→DJ w0 g0 h0 h g w→Le h0 g0 w0 h g w→cx.yp l σ (Dx σ g) w)
  {Qa:Ex→St→Prop} {K:Code→Code→St→Prop} {Q:Exit→Act→World→Prop} (hQ:∀e st g a w,e≠.normal→Qa e st→SR N ds w0 g0 h0 st g a w→Q e.real a w)
  (hK:∀b d st g a w,K b d st→SR N ds w0 g0 h0 st g a w→b.wpIn (Jw none) 0 P (Exit.then (d.wpIn (Jw none) 0 P Q) Q) a w) :
  ∀(n:Nat) (c:Code),Et N c=true→∀{st:St} {g:Gh} {a:Act} {w:World},SR N ds w0 g0 h0 st g a w→jc cx n c Qa K st→c.wpIn (Jw none) 0 P Q a w:=by
 intro n
 induction n with
 |zero =>
  intro c hc st g a w hS hk;cases c with
  |seq y d =>
   simp only[Et,Ag]at hc;cases y with
   |seq x b =>
    have hk:QT cx x (fun e D4=>match e with | .normal=>K b d D4 | e=>Qa e D4) st:=hk;simp only[Et,Ag]at hc;refine wpIn_seq (wpIn_seq (Nh hP hT hm hE hY none x hc.1.1 (Qa:=fun e D4=>match e with | .normal=>K b d D4 | e=>Qa e D4) (fun e st g a w q hS=>?_) hS hk));cases e with
    |normal=>exact hK b d _ _ _ _ q hS
    |exit id=>exact hQ (.exit id) _ _ _ _ (fun e=>by cases e) q hS
    |ret=>exact hQ .ret _ _ _ _ (fun e=>by cases e) q hS
   |_=>exact wpIn_seq (hK _ d _ _ _ _ hk hS)
  |_=>exact hk.elim
 |succ n ih =>
  intro c hc st g a w hS hk;cases c with
  |seq x y =>
   simp only[Et,Ag]at hc;refine wpIn_seq (Nh hP hT hm hE hY none x hc.1 (Qa:=fun e D4=>match e with | .normal=>jc cx n y Qa K D4 | e=>Qa e D4) (fun e st g a w q hS=>?_) hS hk);cases e with
   |normal=>exact ih y hc.2 hS q
   |exit id=>exact hQ (.exit id) _ _ _ _ (fun e=>by cases e) q hS
   |ret=>exact hQ .ret _ _ _ _ (fun e=>by cases e) q hS
  |_=>exact hk.elim
end
section
variable {P:Program}{N:Nat}{ds:List Deferred}{w0:World}{g0:Gh}{h0:Nat→HO}{st:St}{g:Gh}{a:Act}{w:World}
theorem SR.rebase{w1:World}{g1:Gh}{h1:Nat→HO}(hS:SR N ds w0 g0 h0 st g a w)(hI:DJ w1 g1 h1 st.h g w)(hL:Le h1 g1 w1 st.h g w):SR N ds w1 g1 h1 st g a w:=⟨hI,hL,hS.dfs,hS.size,hS.slots⟩
theorem ay{cx:Cx}(hT:Cy P cx.T){H0:List (Nat×HO)}{σ:IQ}(hσ:GG σ=true)(lL:In σ H0=true){fn:Func}{Q:AV→(Nat→HO)→Prop}(hS:SR N ds w0 g0 (Aj H0 Ab) st g a w)(hk:cH cx st fn.results.toList σ Q) :
  ∃v,(results fn a.tmps).run P w=.ok v w∧∃r h' g',Q r h'∧BI g' w (AR h') r v∧DJ w0 g0 (Aj H0 Ab) h' g' w∧Le (Aj H0 Ab) g0 w0 h' g' w:=by
 obtain⟨g2,i1,i2⟩:=Mr cx.pl.fin hS.inv;have Sr : SR N ds w0 g0 (Aj H0 Ab) ⟨st.t,Ov st.h cx.pl.fin⟩ g2 a w:=⟨i1,hS.le.trans i2,hS.dfs,hS.size,fun i=>(hS.slots i).le i2⟩;obtain⟨l,vs,h1,h2,h3,h4,h5⟩:=Ru hT Sr _ hk;obtain⟨hR,j1,j2⟩:=Og hσ lL i1 Sr.le;have CN:(results fn a.tmps).run P w=.ok (if h:vs.toArray.size=1 then vs.toArray[0]else .tuple vs.toArray) w:=by
  rw[NK,show fn.results=fn.results.toList.toArray by simp,List.mapM_toArray];simp only[Sem.run_bind,Sem.run_map,h2,Result.andThen_ok,Sem.run_pure]
 match l,vs,h1,h3,h5,CN with
 | [v],[x],h1,h3,h5,CN=>exact⟨x,by simpa using CN,_,_,_,h1,(h5 0 v x rfl rfl).ren hR,j1,j2⟩
 | [],vs,h1,h3,h5,CN =>
  have:vs=[]:=AB h3
  subst this;exact⟨.tuple #[],by simpa using CN,_,_,_,h1,BI.ren hR (.tup _ [] _ rfl fun i av x q=>by simp at q),j1,j2⟩
 |v::v' :: l,vs,h1,h3,h5,CN =>
  refine⟨.tuple vs.toArray,?_,_,_,_,h1,BI.ren hR (.tup _ _ _ (by simpa using h3) fun i av x q1 q2=>h5 i av x q1 (by simpa using q2)),j1,j2⟩;rw[CN]
  have:vs.toArray.size≠1:=by simp[h3]
  simp only[this,dif_neg,not_false_eq_true]
theorem nS{fn:Func}{lg s:Nat}{ps:Array Tmp}{GA body rest:Code}(cx:Cx)(hP:cx.P=P)(hT:Cy P cx.T)(hm:P.follows .mixedOrders=true)(hx:cx.ext=true){σ:IQ}{H0 Hn:List (Nat×HO)}(hσ:(GG σ&&In σ H0)=true)(xK:In σ Hn=true)
  {env:Nat→AV} {gf:Nat} {caps:List AV} (hF:env s=.clo gf caps) {Qv:AV→(Nat→HO)→Prop}
  (yX:∀(l D:Nat) (f' : FuncId) (tm:Array Value),tm.size=N→WE P (fun g w=>w.heap[l]?=some (.loop (HP f' tm ps GA body D .ready))∧∀i,BI g w (AR (Aj H0 Ab)) (env i) (tm.getD i undef)) σ gf
   (.v (.func (.yield l) #[] #[])::caps) (Aj H0 Ab) fun _ h'=>h'=Aj Hn Ab)
  (hcr:Et N rest=true) (t7:N4 [] body=false) (qB:QT cx rest (W5 cx fn.results.toList σ Qv) ⟨env,Aj Hn Ab⟩) (hY:∀l σ g w,cx.yp l σ g w)
  {a:Act} (ha:a.defers=[]) (hN:a.tmps.size=N) (hI:DJ w g (Aj H0 Ab) (Aj H0 Ab) g w) (Ns:∀i,BI g w (AR (Aj H0 Ab)) (env i) (a.tmps.getD i undef))
  {R:Ending→World→Prop} (hR:∀v r h' g' w',Qv r h'→BI g' w' (AR h') r v→DJ w g (Aj H0 Ab) h' g' w'→Le (Aj H0 Ab) g w h' g' w'→R (.returned v) w') :
  (Code.block lg (.rangeFunc (.tmp s) ps GA body)).wpIn (Jw none) 0 P (Exit.then (rest.wpIn (Jw none) 0 P (bodyPostM (Jw none) 0 P fn R)) (bodyPostM (Jw none) 0 P fn R)) a w:=by
 simp only[Ag]at hσ;have hdl:∀f' tm D s,VL (.loop (HP f' tm ps GA body D s))=true:=fun _ _ _ _=>by show(!N4 [] body)=true;rw[t7];rfl
 refine wpIn_block (wpIn_rangeFunc fun f' _=>?_);have hs:=Ns s;rw[hF]at hs;have lu:a.eval (.tmp s)=a.tmps.getD s undef:=rfl;generalize hfv:a.tmps.getD s undef=fv at hs lu;cases hs with
 |clo _ _ _ lb EH Ox =>
 obtain⟨i0,s0⟩:=hI.allocS (n0:=w.heap.size) (x:=w.heap.size) (.deferred (some [])) (Ak _);obtain⟨i1,s1⟩:=i0.allocS (n0:=w.heap.size) (x:=w.heap.size) (.loop (HP f' a.tmps ps GA body w.heap.size .ready)) (by rw[World.size_alloc];omega);generalize hW:(w.alloc (.deferred (some []))).alloc (.loop (HP f' a.tmps ps GA body w.heap.size .ready))=W1 at i1 s1;have zY:W1.heap.size=w.heap.size+2:=by rw[←hW,World.size_alloc,World.size_alloc]
 have hl:W1.heap[w.heap.size+1]?=some (.loop (HP f' a.tmps ps GA body w.heap.size .ready)):=by
  rw[←hW]
  have:=World.alloc_heap_new (w.alloc (.deferred (some []))) (.loop (HP f' a.tmps ps GA body w.heap.size .ready))
  rwa [World.size_alloc]at this
 have hD:W1.heap[w.heap.size]?=some (.deferred (some [])):=by
  rw[←hW,heap_alloc_old _ _ (by rw[World.size_alloc];omega)];exact World.alloc_heap_new w _
 have QZ:∀b ob,W1.heap[b]?=some ob→VL ob=true→∀r,((Aj H0 Ab) r).live→g.own r≠some b:=fun b ob hb hd r hr e=>ON (i1.objs r) hr e hb hd;have S1:=s0.trans s1;have hit:=yX (w.heap.size+1) w.heap.size f' a.tmps hN
 refine⟨w.heap.size+1,[{ target:=.collected w.heap.size,args:=#[] }],W1,{ target:=.fn (.func gf) lb,args:=#[.func (.yield (w.heap.size+1)) #[] #[]] },W1,gf,
  #[.func (.yield (w.heap.size+1)) #[] #[]]++lb,W1,?_,?_,fun _ _=>trivial,?_,fun e=>(by cases e),?_⟩
 ·rw[←hW];exact run_enterLoop_outer _ _ _ _ _
 ·simp only[resolve,lu];simp[go_sem]
 ·simp only[invoke];rw[Gy hit.1]
 refine callsIn_wide.2 ((hit.2 g W1 _ (by simp[EH];omega) (fun i av x e1 e2=>?_) i1 (fun h' g' w' q1 q2=>?_)).mono ?_)
 ·cases i with
  |zero =>
   simp only[A8,Bo]at e1;rw[HM]at e2
   have:x=.func (.yield (w.heap.size+1)) #[] #[]:=(BM e2).symm
   subst e1;subst this;exact .v _ _
  |succ i =>
   have e2:lb[i]?=some x:=by rw[←e2,HM];simp
   exact(Ox i av x (by simpa using e1) e2).le S1.le
 ·obtain⟨_,_,j2⟩:=Og hσ.1 hσ.2 q1 q2;refine⟨(q1.frame _ (by omega) (QZ _ _ hl (hdl _ _ _ _))).trans hl,fun i=>?_⟩;exact((Ns i).le S1.le).mono j2.keeps (fun _ h=>h) j2.gh
 rintro e w2 ⟨v,r,h',g2,rfl,rfl,_,q3,q4⟩
 have bO:w2.heap[w.heap.size+1]?=some (.loop (HP f' a.tmps ps GA body w.heap.size .ready)):=(q3.frame _ (by omega) (QZ _ _ hl (hdl _ _ _ _))).trans hl;have yQ:w2.heap[w.heap.size]?=some (.deferred (some [])):=(q3.frame _ (by omega) (QZ _ _ hD rfl)).trans hD;refine⟨none,_,run_endLoop bO (fun e=>by cases e),?_⟩;obtain⟨i4,s4⟩:=q3.base.put (n0:=w.heap.size) (x:=w.heap.size) (o':=.loop { HP f' a.tmps ps GA body w.heap.size .ready with state:=.exhausted }) bO (hdl _ _ _ _) (hdl f' a.tmps w.heap.size .exhausted) (.inl (by omega));have S4:=(S1.trans (ZG.of_inv q3 q4 (by omega))).trans s4;generalize hW4:w2.putObj (w.heap.size+1) (.loop { HP f' a.tmps ps GA body w.heap.size .ready with state:=.exhausted })=w4 at i4 s4 S4;have tM:w4.heap[w.heap.size]?=some (.deferred (some [])):=by rw[←hW4,World.putObj_heap_other (by omega)];exact yQ
 have hE:Lc cx (Aj Hn Ab):=by unfold Lc;rw[hx];exact fun i hi=>⟨(Gf xK i hi).1,(Gf xK i hi).2.1⟩
 have y9:SR N [{ target:=.collected w.heap.size,args:=#[] }] w4 g2 (Aj Hn Ab) ⟨env,Aj Hn Ab⟩ g2 { a with defers:=[{ target:=.collected w.heap.size,args:=#[] }]++a.defers } w4 :=
  ⟨i4,.refl _ _ _,by simp[ha],hN,fun i=>(Ns i).le S4.le⟩
 refine Nh hP hT hm hE (fun l σ _ _ w _ _ _=>hY l σ _ w) none rest hcr (fun e wC g5 a5 w5 hq lm=>?_) y9 qB;have fin:cH cx wC fn.results.toList σ Qv→LeavesInM (Jw none) 0 P fn a5.tmps R a5.defers .returning w5:=by
  intro hk;have wW:w5.heap[w.heap.size]?=some (.deferred (some [])):=(lm.inv.frame _ (By.1 tM).1 (fun r hr e=>ON (i4.objs r) hr e tM rfl)).trans tM;rw[lm.dfs];refine⟨by simp,.inl ⟨w.heap.size,_,rfl,run_takeDeferred wW,?_⟩⟩;obtain⟨i6,s6⟩:=lm.inv.base.put (n0:=w.heap.size) (x:=w.heap.size) (o':=.deferred none) wW rfl rfl (.inr rfl);have za:SR N [{ target:=.collected w.heap.size,args:=#[] }] (w5.putObj w.heap.size (.deferred none)) g5 wC.h wC g5 a5 (w5.putObj w.heap.size (.deferred none)):=⟨i6,.refl _ _ _,lm.dfs,lm.size,fun i=>(lm.slots i).le s6.le⟩;have S6:=(S4.trans (ZG.of_inv lm.inv lm.le (A5 (Ak _) S4.size))).trans s6;obtain⟨v,k2,r,h7,g7,k1,k5,k3,k4⟩:=ay (H0:=H0) hT hσ.1 hσ.2 (SR.rebase za (i6.of_seg S6 fun h=>absurd h (Nat.lt_irrefl _)) S6.le) hk;exact⟨v,k2,hR v r h7 g7 _ k1 k5 k3 k4⟩
 cases e with
 |normal=>exact fin hq
 |ret=>exact fin hq
 |exit id=>exact hq.elim
end
section
variable {P:Program}{N:Nat}{w:World}{g:Gh}
theorem di(o k r:Nat){H:List (Nat×HO)}(cx:Cx)(hP:cx.P=P)(hT:Cy P cx.T)(hm:P.follows .mixedOrders=true)(hx:cx.ext=true){σ:IQ}(hσ:(GG σ&&In σ H)=true){fn:FuncId}{tm:Array Value}{ps:Array Tmp}{GA body:Code}{D l:Nat}
  {env:Nat→AV} {args:List AV} {U:Nat→Prop} {Q:AV→(Nat→HO)→Prop} (uF:args.length=ps.toList.length) (hN:tm.size=N) (zP:(ps.toList.all fun p=>Nat.blt p N)=true) (zk:Et N GA=true) (ub:Et N body=true)
  (hU:∀i,U i→AR (Aj H Ab) i)
  (hk:QT cx GA (fun e st=>match e with | .normal=>QT cx body (fun e st=>match e with | .normal=>sC st.h o k r fun h'=>Q (.v (.bool true)) (Fy σ (Ov h' cx.pl.fin)) | _=>False) st | _=>False) ⟨ju ps.toList args env,Aj H Ab⟩)
  (hY:∀l σ g w,cx.yp l σ g w:=by exact fun _ _ _ _=>trivial) (t7:N4 [] body=false:=by kernel_rfl) :
  IH P (fun g w=>w.heap[l]?=some (.loop (HP fn tm ps GA body D .ready))∧∀i,BI g w U (env i) (tm.getD i undef)) l args (Aj H Ab) Q:=by
 simp only[Ag]at hσ;intro g w vals hs hv hI ⟨hl,Ns⟩;have DI:l<w.heap.size:=(By.1 hl).1;have hdl:∀s,VL (.loop (HP fn tm ps GA body D s))=true:=fun s=>by show(!N4 [] body)=true;rw[t7];rfl
 have hE:Lc cx (Aj H Ab):=by unfold Lc;rw[hx];exact fun i hi=>⟨(Gf hσ.2 i hi).1,(Gf hσ.2 i hi).2.1⟩
 have QZ:∀r,((Aj H Ab) r).live→g.own r≠some l:=fun r hr e=>ON (hI.objs r) hr e hl (hdl _);have lw:∀(t0:Array Value),(ps.zip vals).foldl (fun tmps (p:Nat×Value)=>tmps.setIfInBounds p.1 p.2) t0=(ps.toList.zip vals.toList).foldl (fun t p=>t.setIfInBounds p.1 p.2) t0:=fun t0=>by
  rw[←Array.foldl_toList,Array.toList_zip]
 have zV:=run_yield (P:=P) (args:=vals) hl (by simp only[hs,uF,B5]);refine⟨fn,_,GA,body,zV,roundIn_of_wpIn trivial ?_⟩;obtain⟨z1,z2⟩:=W8 (U:=AR (Aj H Ab)) (ps:=ps.toList) (args:=args) (vals:=vals.toList) (tm:=tm) (env:=env) (by simpa using hs) uF (fun p hp=>by
  have:=(Bq.1 zP) p hp
  rw[hN];simpa using this) (fun i av x e1 e2=>hv i av x e1 (by simpa using e2)) (fun i=>(Ns i).mono (.refl _ _) hU (.refl _ _))
 have y7:SR N [] w g (Aj H Ab) ⟨ju ps.toList args env,Aj H Ab⟩ g { tmps:=(ps.zip vals).foldl (fun tmps (p:Nat×Value)=>tmps.setIfInBounds p.1 p.2) tm,defers:=[] } w:=by
  refine⟨hI,.refl _ _ _,rfl,?_,fun i=>?_⟩
  ·rw[lw];exact z1.trans hN
  ·rw[lw];exact z2 i
 refine Nh hP hT hm hE (fun l σ _ _ w _ _ _=>hY l σ _ w) (some l) GA zk (fun e st1 g1 a1 w1 hq jH=>?_) y7 hk;cases e with
 |exit _=>exact hq.elim
 |ret=>exact hq.elim
 |normal =>
  have r4:w1.heap[l]?=some (.loop (HP fn tm ps GA body D .ready)):=(jH.inv.frame l DI QZ).trans hl;refine⟨_,run_beginRound r4 rfl,?_⟩;obtain⟨iS,sS⟩:=hI.put (n0:=w.heap.size) (x:=l) (o':=.loop (HP fn tm ps GA body D .busy)) hl (hdl _) (hdl _) (.inr rfl);have um:(w.putObj l (.loop (HP fn tm ps GA body D .busy))).heap[l]?=some (.loop (HP fn tm ps GA body D .busy)):=World.putObj_heap_same DI;have jS:(w.putObj l (.loop (HP fn tm ps GA body D .busy))).heap.size=w.heap.size:=by simp[World.putObj]
  obtain⟨_,sB⟩:=iS.dullS (w':=w) (n0:=w.heap.size) (x:=l) ⟨rfl,rfl,rfl⟩ (by rw[jS];exact Ak _) (fun b _=>by
   by_cases e:b=l
   ·subst e;exact .inr ⟨_,_,um,hl,hdl _,hdl _⟩
   ·exact .inl (World.putObj_heap_other e).symm) (fun b _ DD=>(World.putObj_heap_other DD).symm)
  obtain⟨i2,s2⟩:=jH.inv.base.put (n0:=w.heap.size) (x:=l) (o':=.loop (HP fn tm ps GA body D .busy)) r4 (hdl _) (hdl _) (.inr rfl);have S2:=(sB.trans (ZG.of_inv jH.inv jH.le (Ak _))).trans s2;have bO:(w1.putObj l (.loop (HP fn tm ps GA body D .busy))).heap[l]?=some (.loop (HP fn tm ps GA body D .busy)):=World.putObj_heap_same (By.1 r4).1;have yV:=i2.of_seg (by rw[jS];exact S2) (fun _=>bO.trans um.symm);have y8:SR N [] (w.putObj l (.loop (HP fn tm ps GA body D .busy))) g (Aj H Ab) st1 g1 a1 (w1.putObj l (.loop (HP fn tm ps GA body D .busy))):=⟨yV,S2.le,jH.dfs,jH.size,fun i=>(jH.slots i).le s2.le⟩;refine Nh hP hT hm hE (fun l σ _ _ w _ _ _=>hY l σ _ w) (some l) body ub (fun e st3 g3 a3 w3 hq pO=>?_) y8 hq;cases e with
  |exit _=>exact hq.elim
  |ret=>exact hq.elim
  |normal =>
   obtain⟨h3,g3',pO,hq⟩:=gZ pO hq;have r5:w3.heap[l]?=some (.loop (HP fn tm ps GA body D .busy)):=(pO.inv.frame l (by rw[jS];exact DI) QZ).trans um;refine⟨.bool true,w3.putObj l (.loop (HP fn tm ps GA body D .ready)),run_endRound none r5,?_⟩;obtain⟨gf,xL,if2⟩:=Mr cx.pl.fin pO.inv;obtain⟨i4,s4⟩:=xL.base.put (n0:=w.heap.size) (x:=l) (o':=.loop (HP fn tm ps GA body D .ready)) r5 (hdl _) (hdl _) (.inr rfl);have S4:=(sS.trans (ZG.of_inv xL (pO.le.trans if2) (by rw[jS];exact Ak _))).trans s4;have zD:(w3.putObj l (.loop (HP fn tm ps GA body D .ready))).heap[l]?=some (.loop (HP fn tm ps GA body D .ready)):=World.putObj_heap_same (By.1 r5).1;have yW:=i4.of_seg S4 (fun _=>zD.trans hl.symm);obtain⟨_,j1,j2⟩:=Og hσ.1 hσ.2 yW S4.le;exact⟨.bool true,.v (.bool true),_,_,rfl,hq,.v _ _,j1,j2⟩
end
def oO(h:Nat→HO)(o k r sz:Nat)(K:(Nat→HO)→Prop):Prop :=
 match h o with
 |.cells cs=>match IX cs k with
  |.v (.slice none 0 0)=>match h r with
   |.free=>K (AW (AW h r (.var sz 0 0)) o (.cells (Ey cs k (.slice (.ver r sz 0) []))))
   |_=>False
  |_=>False
 |_=>False
section
variable {P:Program}{N:Nat}{ds:List Deferred}{w0:World}{g0:Gh}{h0:Nat→HO}{st:St}{g:Gh}{a:Act}{w:World}
theorem nH(hS:SR N ds w0 g0 h0 st g a w){o k r sz:Nat}{K:(Nat→HO)→Prop}(hk:oO st.h o k r sz K):∃h' g',SR N ds w0 g0 h0 ⟨st.t,h'⟩ g' a w∧K h':=by
 unfold oO at hk;split at hk
 ·rename_i cs e0;split at hk
  ·rename_i e1;split at hk
   ·rename_i hf;have iL:o≠r:=fun e=>by rw[e,hf]at e0;cases e0
    have Xq:=I3 cs k _ e1 (by simp)
    obtain⟨m1,m2⟩:=hS.inv.upd r (.var sz 0 0) (.slice none 0 0) 0 true none g.S w none ⟨rfl,rfl,rfl,Ak _⟩ (fun _ _ _=>rfl) (fun b e=>by cases e) (fun _ _ h=>h) (fun _ _ h=>.inl h) (fun b o e=>by cases e) (fun b hh e=>by first | (cases e;done) | (exact absurd hh.2 (by simp))) (by simp)
     (fun hu=>absurd hf hu) (fun _ _=>by
      obtain⟨u1,u2,u3,u4⟩:=BA g r (.slice none 0 0) 0 true none g.S;exact⟨u3,u2,none,0,u1,.inl ⟨rfl,u4⟩⟩)
    generalize T4:g.upd r (.slice none 0 0) 0 true none g.S=g1 at m1 m2;have gr:g1.tk r=true∧g1.ln r=0∧g1.ρ r=.slice none 0 0:=by rw[←T4];simp[Gh.upd]
    have mJ : (AW st.h r (.var sz 0 0)) o=.cells cs:=by rw[B1 _ _ _ _ iL,e0]
    obtain⟨g3,p1,p2⟩:=N5 m1 mJ Xq (new:=.slice (.ver r sz 0) []) (fun y hy=>by
     cases hy
     exact .ver _ r sz 0 [] _ (.snil _ _ _) (fun c hc=>by cases hc) (by unfold AR;rw[Bd];simp) gr.1 (AM _) (fun _=>gr.2.2.symm))
    exact⟨_,g3,⟨p1,hS.le.trans (m2.trans p2),hS.dfs,hS.size,fun i=>(hS.slots i).le (m2.trans p2)⟩,hk⟩
   ·exact hk.elim
  ·exact hk.elim
 ·exact hk.elim
def sL(o k r sz:Nat)(bw:Cx)(P:Program)(N:Nat)(fn:Func)(σ:IQ)(Q:AV→(Nat→HO)→Prop)(b rest:Code)(st:St):Prop :=
 oO st.h o k r sz fun h1 =>
  ∃(σF σr:IQ) (H0 Hn:List (Nat×HO)) (lg s:Nat) (ps:Array Tmp) (GA body:Code) (gf:Nat) (caps:List AV),
  b=.block lg (.rangeFunc (.tmp s) ps GA body)∧(Ei σF&&DF h1 0 0&&Dm σF 0 0)=true∧Fy σF h1=Aj H0 Ab∧(GG σr&&In σr H0)=true∧In σr Hn=true ∧
  ren (Ct σF) h1 (st.t s)=.clo gf caps ∧
  (∀(l D:Nat) (f' : FuncId) (tm:Array Value),tm.size=N→WE P (fun g w=>w.heap[l]?=some (.loop (HP f' tm ps GA body D .ready))∧∀i,BI g w (AR (Aj H0 Ab)) (ren (Ct σF) h1 (st.t i)) (tm.getD i undef)) σr gf
   (.v (.func (.yield l) #[] #[])::caps) (Aj H0 Ab) fun _ h'=>h'=Aj Hn Ab) ∧
  Et N rest=true∧N4 [] body=false∧QT bw rest (W5 bw fn.results.toList σr fun r h'=>Q (ren (Ct σ) (D0 σF 0 0 h1 h') (ren (E1 σF 0 0) h' r)) (Fy σ (D0 σF 0 0 h1 h')))
   ⟨fun i=>ren (Ct σF) h1 (st.t i),Aj Hn Ab⟩
theorem aV (o k r sz : Nat) {f : Nat} {fn : Func} {c : Code} {args : List AV} {H : List (Nat × HO)} {Q : AV → (Nat → HO) → Prop} (cx bw : Cx) (σ : IQ) (hP : cx.P = P) (hT : Cy P cx.T) (y0 : bw.P = P) (zb : Cy P bw.T) (hm : P.follows .mixedOrders = true) (hx : cx.ext = true) (oK : bw.ext = true) (hf : P.funcs[f]? = some fn) (hn : (fn.name == "runtime.NumGoroutine") = false)
  (hb:fn.body=some c) (hN:args.length≤fn.ntmps) (hc:Et fn.ntmps c=true) (hσ:(GG σ&&In σ H)=true) (n:Nat)
  (hk:jc cx n c (W5 cx fn.results.toList σ fun r h'=>∃r',Hm r r'∧Q r' h') (sL o k r sz bw P fn.ntmps fn σ fun r h'=>∃r',Hm r r'∧Q r' h') ⟨Od args,Aj H Ab⟩)
  (hY:∀l σ g w,cx.yp l σ g w:=by exact fun _ _ _ _=>trivial) (ze:∀l σ g w,bw.yp l σ g w:=by exact fun _ _ _ _=>trivial):Be P f args (Aj H Ab) Q:=by
 refine Be.mono (Q:=fun r h'=>∃r',Hm r r'∧Q r' h') ?_ fun _ _ ⟨r',s,q⟩=>⟨r',s,q⟩;simp only[Ag]at hσ;refine⟨⟨fn,hf,hn,by simp[hb]⟩,fun g w vals hs hv hI=>callsIn_wide.1 (callsIn_of_wp_marks (F:=Fence.wide) (n:=0) hf hb trivial ?_ rfl)⟩;have hE:Lc cx (Aj H Ab):=by unfold Lc;rw[hx];exact fun i hi=>⟨(Gf hσ.2 i hi).1,(Gf hσ.2 i hi).2.1⟩
 have hS:SR fn.ntmps [] w g (Aj H Ab) ⟨Od args,Aj H Ab⟩ g { tmps:=vals++Array.replicate (fn.ntmps-vals.size) undef,defers:=[] } w:=by
  refine⟨hI,.refl _ _ _,rfl,by simp[hs];omega,fun i=>?_⟩
  have:=Oe (n:=fn.ntmps-vals.size) (args:=args) (vals:=vals.toList) (by simpa using hs) (fun i av x q1 q2=>hv i av x q1 (by simpa using q2)) i
  rw[Cu,←A2];rw[Ci]at this;simpa using this
 refine jd hP hT hm hE (fun l σ _ _ w _ _ _=>hY l σ _ w) (fun e st g' a w' DD hk hS=>?_) (fun b rest st g' a w' hk hS=>?_) n c hc hS hk
 ·have out:cH cx st fn.results.toList σ (fun r h'=>∃r',Hm r r'∧Q r' h')→LeavesInM (Jw none) 0 P fn a.tmps (fun e w'=>∃v r h' g',e=Ending.returned v∧(∃r',Hm r r'∧Q r' h')∧BI g' w' (AR h') r v∧DJ w g (Aj H Ab) h' g' w'∧Le (Aj H Ab) g w h' g' w') a.defers .returning w':=by
   intro hk;obtain⟨v,q2,r,h',g2,q1,q3,q4,q5⟩:=ay hT hσ.1 hσ.2 hS hk;rw[hS.dfs];exact⟨v,q2,v,r,h',g2,rfl,q1,q3,q4,q5⟩
  cases e with
  |normal=>exact absurd rfl DD
  |ret=>exact out hk
  |exit id=>exact hk.elim
 ·obtain⟨h1,g',hS,hk⟩:=nH hS hk;obtain⟨σF,σr,H0,Hn,lg,s,ps,GA,body,gf,caps,rfl,k1,k2,k3,k4,k5,k6,k7,k9,k8⟩:=hk;have hσF:Ei σF=true:=by simp only[Ag]at k1;exact k1.1.1
  obtain⟨tT,wY⟩:=VW hS.inv hσF;rw[k2]at wY;have Ns:∀i,BI (Dx σF g') w' (AR (Aj H0 Ab)) (ren (Ct σF) h1 (st.t i)) (a.tmps.getD i undef):=fun i=>by
   have:=(hS.slots i).ren tT
   rwa [k2]at this
  refine Ml (Q:=fun r h'=>∃r',Hm (ren (Ct σ) (D0 σF 0 0 h1 h') (ren (E1 σF 0 0) h' r)) r'∧Q r' (Fy σ (D0 σF 0 0 h1 h'))) (C:=fun R'=>(∀e aQ,R' e aQ→(∃v r h' g',e=Ending.returned v∧(∃r',Hm r r'∧Q r' h')∧BI g' aQ (AR h') r v∧DJ w g (Aj H Ab) h' g' aQ∧Le (Aj H Ab) g w h' g' aQ)) →
   (Code.block lg (.rangeFunc (.tmp s) ps GA body)).wpIn (Jw none) 0 P (Exit.then (rest.wpIn (Jw none) 0 P (bodyPostM (Jw none) 0 P fn (fun e aQ=>∃v r h' g',e=Ending.returned v∧(∃r',Hm r r'∧Q r' h')∧BI g' aQ (AR h') r v∧DJ w g (Aj H Ab) h' g' aQ∧Le (Aj H Ab) g w h' g' aQ))) (bodyPostM (Jw none) 0 P fn (fun e aQ=>∃v r h' g',e=Ending.returned v∧(∃r',Hm r r'∧Q r' h')∧BI g' aQ (AR h') r v∧DJ w g (Aj H Ab) h' g' aQ∧Le (Aj H Ab) g w h' g' aQ))) a w')
   (fun h k h2=>h fun e w r=>h2 _ _ (k _ _ r)) hS.inv (d:=0) (nn:=0) k1 (fun _ lD=>?_) (fun v r h' g2 w2 q1 q2 q3 q4=>?_) (fun _ _ h=>h)
  ·rw[k2]at lD;exact nS bw y0 zb hm oK k3 k4 k5 k6 k7 k9 k8 ze hS.dfs hS.size wY Ns fun v r h' g5 w5 q1 q2 q3 q4=>lD _ _ ⟨v,r,h',g5,rfl,q1,q2,q3,q4⟩
  ·obtain⟨hR,j1,j2⟩:=Og hσ.1 hσ.2 q2 (hS.le.trans q3);exact⟨v,_,_,_,rfl,q1,q4.ren hR,j1,j2⟩
end
section
variable {P:Program}{N:Nat}{w:World}{g:Gh}
end
end Go.Eng
namespace Go.Eng
open Go.Sort
section
variable {P:Program}
end
end Go.Eng
