/- Lemmas for the claims of this seat, without a condition: part 16 (EngZP, EngZQ, EngZS, EngZT, EngZU, EngZV, EngZW). -/
import Derived.Test.YtkmnnpmneamgoaaGreatDoorA15
namespace Go.Eng
abbrev Fb(fn:FuncId)(tm:Array Value)(ps:Array Tmp)(Em body:Code)(D:Nat)(s:LoopState):Loop :=
 { state:=s,pending:=none,fn:=fn,tmps:=tm,params:=ps,assign:=Em,body:=body,defers:=D }
def bV:List Nat→List AV→(Nat→AV)→Nat→AV
 |p::ps,v::vs,e=>bV ps vs (HS e p v)
 |_,_,e=>e
section
variable {P:Program}{N:Nat}{w:World}{g:Gh}
theorem Sw{U:Nat→Prop}:∀{ps:List Nat} {args:List AV} {vals:List Value} {tm:Array Value} {env:Nat→AV},vals.length=args.length→args.length=ps.length→(∀p∈ps,p<tm.size) →
  (∀(i:Nat) (av:AV) (x:Value),args[i]?=some av→vals[i]?=some x→BI g w U av x)→(∀i,BI g w U (env i) (tm.getD i undef)) →
  ((ps.zip vals).foldl (fun t p=>t.setIfInBounds p.1 p.2) tm).size=tm.size∧∀i,BI g w U (bV ps args env i) (((ps.zip vals).foldl (fun t p=>t.setIfInBounds p.1 p.2) tm).getD i undef)
 | [],args,vals,tm,env,_,h2,_,_,he=>by
  have:args=[]:=AJ h2
  subst this;exact⟨rfl,he⟩
 |p::ps,[],vals,tm,env,_,h2,_,_,_=>by cases h2
 |p::ps,a::args,[],tm,env,h1,_,_,_,_=>by cases h1
 |p::ps,a::args,v::vals,tm,env,h1,h2,h3,h4,he=>by
  have hp:=h3 p (Ab ..)
  obtain⟨q1,q2⟩:=Sw (ps:=ps) (args:=args) (vals:=vals) (tm:=tm.setIfInBounds p v) (env:=HS env p a) (by simpa using h1) (by simpa using h2) (fun q hq=>by simpa using h3 q (Ai _ hq))
   (fun i av x e1 e2=>h4 (i+1) av x (by simpa using e1) (by simpa using e2)) (fun i=>by
    by_cases e:i=p
    ·subst e;have e1:HS env i a i=a:=by simp[HS]
     have e2:(tm.setIfInBounds i v).getD i undef=v:=by simp[Array.getD_eq_getD_getElem?,hp]
     rw[e1,e2];exact h4 0 a v rfl rfl
    ·have e1:HS env p a i=env i:=by simp only[HS,Ci e,D7]
     have e2:(tm.setIfInBounds p v).getD i undef=tm.getD i undef:=by
      simp[Array.getD_eq_getD_getElem?,Array.getElem?_setIfInBounds_ne (Ne.symm e)]
     rw[e1,e2];exact he i)
  exact⟨by simpa using q1,q2⟩


def M9(P:Program)(Y:Gh→World→Prop)(σ:Hq)(f:Nat)(args:List AV)(h0:Nat→HO)(Q:AV→(Nat→HO)→Prop):Prop :=
 Gd P f∧∀(g:Gh) (w:World) (vals:Array Value),vals.size=args.length→(∀(i:Nat) (av:AV) (x:Value),args[i]?=some av→vals[i]?=some x→BI g w (AM h0) av x) →
  Dx w g h0 h0 g w→(∀h' g' w',Dx w g h0 h' g' w'→Le h0 g w h' g' w'→Y (CO σ g') w') →
  Calls P f vals w fun e w'=>∃v r h' g',e=.returned v∧Q r h'∧BI g' w' (AM h') r v∧Dx w g h0 h' g' w'∧Le h0 g w h' g' w'
theorem gJ{Y:Gh→World→Prop}{l:Nat}{f:Nat}{fn:Func}{c:Code}{args:List AV}{H0:List (Nat×HO)}{Q:AV→(Nat→HO)→Prop}(cx:Cx)(σ:Hq)(hP:cx.P=P)(hT:Cu P cx.T)(hm:P.follows .mixedOrders=true)(hx:cx.ext=true)(hf:P.funcs[f]?=some fn)
  (hn : (fn.name == "runtime.NumGoroutine") = false) (hb : fn.body = some c) (hN : args.length ≤ fn.ntmps) (hc : DF fn.ntmps c = true) (hσ : (ES σ && FD σ H0) = true)
  (hy:cx.yp=fun l' σ' g w=>l'=l→σ'=σ→Y g w)
  (hk:MD cx c (Uf cx fn.results.toList σ Q) ⟨LR args,Af H0 Aa⟩):M9 P Y σ f args (Af H0 Aa) Q :=
 ⟨⟨fn,hf,hn,by simp[hb]⟩,fun g w vals hs hv hI hp=>OK cx σ hP hT hm hx hf hn hb hN hc hσ hk hs hv hI fun l' σ' h' g' w' _ q1 q2=>by
  rw[hy];intro _ e;subst e;exact hp h' g' w' q1 q2⟩

end
end Go.Eng

namespace Go.Eng
def eO(cx:Cx):Nat→Code→(Ex→St→Prop)→(Code→Code→St→Prop)→St→Prop
 |0,.seq (.seq a b) d,Q,K,st=>MD cx a (fun e Fv=>match e with |.normal=>K b d Fv |e=>Q e Fv) st
 |0,.seq b d,_,K,st=>K b d st
 |n+1,.seq a b,Q,K,st=>MD cx a (fun e Fv=>match e with |.normal=>eO cx n b Q K Fv |e=>Q e Fv) st
 |_,_,_,_,_=>False
section
variable {P:Program}{N:Nat}{ds:List Deferred}{w0:World}{g0:Gh}{h0:Nat→HO}{st:St}{g:Gh}{a:Act}{w:World}
theorem aq{cx:Cx}(hP:cx.P=P)(hT:Cu P cx.T)(hm:P.follows .mixedOrders=true)(hE:Im cx h0)(hY:∀l σ h g w,D4 σ=true→Dx w0 g0 h0 h g w→Le h0 g0 w0 h g w→cx.yp l σ (CO σ g) w)
  {Qa:Ex→St→Prop} {K:Code→Code→St→Prop} {Q:Exit→Act→World→Prop} (hQ:∀e st g a w,e≠.normal→Qa e st→SR N ds w0 g0 h0 st g a w→Q e.real a w)
  (hK:∀b d st g a w,K b d st→SR N ds w0 g0 h0 st g a w→b.wpIn (Ja none) 0 P (Exit.then (d.wpIn (Ja none) 0 P Q) Q) a w) :
  ∀(n:Nat) (c:Code),DF N c=true→∀{st:St} {g:Gh} {a:Act} {w:World},SR N ds w0 g0 h0 st g a w→eO cx n c Qa K st→c.wpIn (Ja none) 0 P Q a w:=by
 intro n
 induction n with
 |zero =>
  intro c hc st g a w hS hk;cases c with
  |seq y d =>
   simp only[DF,Ag]at hc;cases y with
   |seq x b =>
    have hk:MD cx x (fun e Fv=>match e with | .normal=>K b d Fv | e=>Qa e Fv) st:=hk;simp only[DF,Ag]at hc;refine wpIn_seq (wpIn_seq (J8 hP hT hm hE hY none x hc.1.1 (Qa:=fun e Fv=>match e with | .normal=>K b d Fv | e=>Qa e Fv) (fun e st g a w q hS=>?_) hS hk));cases e with
    |normal=>exact hK b d _ _ _ _ q hS
    |exit id=>exact hQ (.exit id) _ _ _ _ (fun e=>by cases e) q hS
    |ret=>exact hQ .ret _ _ _ _ (fun e=>by cases e) q hS
   |_=>exact wpIn_seq (hK _ d _ _ _ _ hk hS)
  |_=>exact hk.elim
 |succ n ih =>
  intro c hc st g a w hS hk;cases c with
  |seq x y =>
   simp only[DF,Ag]at hc;refine wpIn_seq (J8 hP hT hm hE hY none x hc.1 (Qa:=fun e Fv=>match e with | .normal=>eO cx n y Qa K Fv | e=>Qa e Fv) (fun e st g a w q hS=>?_) hS hk);cases e with
   |normal=>exact ih y hc.2 hS q
   |exit id=>exact hQ (.exit id) _ _ _ _ (fun e=>by cases e) q hS
   |ret=>exact hQ .ret _ _ _ _ (fun e=>by cases e) q hS
  |_=>exact hk.elim
def strT(h:Nat→HO):AV→AV
 |.tup cs=>.tup (cs.map (str h))
 |a=>str h a
theorem BI.strT{h:Nat→HO}(ho:∀r,Ec g w (AM h) r (h r)){av:AV}{x:Value}(r:BI g w (AM h) av x):BI g w Fj (Eng.strT h av) x:=by
 cases av with
 |tup cs =>
  cases r with
  |tup _ _ vs hs hr =>
   exact .tup _ _ vs (by simp[hs]) fun i av x q1 q2=>by
    rw[AI,AQ]at q1;obtain⟨a,e1,rfl⟩:=q1;exact BI.str ho (hr i a x e1 q2)
 |_=>exact BI.str ho r
end
end Go.Eng

namespace Go.Eng
section
variable {P:Program}{N:Nat}{ds:List Deferred}{w0:World}{g0:Gh}{h0:Nat→HO}{st:St}{g:Gh}{a:Act}{w:World}
theorem SR.rebase{w1:World}{g1:Gh}{h1:Nat→HO}(hS:SR N ds w0 g0 h0 st g a w)(hI:Dx w1 g1 h1 st.h g w)(hL:Le h1 g1 w1 st.h g w):SR N ds w1 g1 h1 st g a w:=⟨hI,hL,hS.dfs,hS.size,hS.slots⟩
theorem aY{cx:Cx}(hT:Cu P cx.T){H0:List (Nat×HO)}{σ:Hq}(hσ:ES σ=true)(my:FD σ H0=true){fn:Func}{Q:AV→(Nat→HO)→Prop}(hS:SR N ds w0 g0 (Af H0 Aa) st g a w)(hk:dg cx st fn.results.toList σ Q) :
  ∃v,(results fn a.tmps).run P w=.ok v w∧∃r h' g',Q r h'∧BI g' w (AM h') r v∧Dx w0 g0 (Af H0 Aa) h' g' w∧Le (Af H0 Aa) g0 w0 h' g' w:=by
 obtain⟨g2,i1,i2⟩:=JS cx.pl.fin hS.inv;have SK : SR N ds w0 g0 (Af H0 Aa) ⟨st.t,M2 st.h cx.pl.fin⟩ g2 a w:=⟨i1,hS.le.trans i2,hS.dfs,hS.size,fun i=>(hS.slots i).le i2⟩;obtain⟨l,vs,h1,h2,h3,h4,h5⟩:=RI hT SK _ hk;obtain⟨hR,j1,j2⟩:=I0 hσ my i1 SK.le;have Dd:(results fn a.tmps).run P w=.ok (if h:vs.toArray.size=1 then vs.toArray[0]else .tuple vs.toArray) w:=by
  rw[NZ,show fn.results=fn.results.toList.toArray by simp,List.mapM_toArray];simp only[Sem.run_bind,Sem.run_map,h2,Result.andThen_ok,Sem.run_pure]
 match l,vs,h1,h3,h5,Dd with
 | [v],[x],h1,h3,h5,Dd=>exact⟨x,by simpa using Dd,_,_,_,h1,(h5 0 v x rfl rfl).ren hR,j1,j2⟩
 | [],vs,h1,h3,h5,Dd =>
  have:vs=[]:=AJ h3
  subst this;exact⟨.tuple #[],by simpa using Dd,_,_,_,h1,BI.ren hR (.tup _ [] _ rfl fun i av x q=>by simp at q),j1,j2⟩
 |v::v' :: l,vs,h1,h3,h5,Dd =>
  refine⟨.tuple vs.toArray,?_,_,_,_,h1,BI.ren hR (.tup _ _ _ (by simpa using h3) fun i av x q1 q2=>h5 i av x q1 (by simpa using q2)),j1,j2⟩;rw[Dd]
  have:vs.toArray.size≠1:=by simp[h3]
  simp only[this,dif_neg,not_false_eq_true]
theorem oU{fn:Func}{Pm s:Nat}{ps:Array Tmp}{Em body rest:Code}(cx:Cx)(hP:cx.P=P)(hT:Cu P cx.T)(hm:P.follows .mixedOrders=true)(hx:cx.ext=true){σ:Hq}{H0 Hn:List (Nat×HO)}(hσ:(ES σ&&FD σ H0)=true)(rZ:FD σ Hn=true)
  {env:Nat→AV} {gf:Nat} {caps:List AV} (hF:env s=.clo gf caps) {Qv:AV→(Nat→HO)→Prop}
  (vI:∀(l D:Nat) (f' : FuncId) (tm:Array Value),tm.size=N→M9 P (fun g w=>w.heap[l]?=some (.loop (Fb f' tm ps Em body D .ready))∧∀i,BI g w (AM (Af H0 Aa)) (env i) (tm.getD i undef)) σ gf
   (.v (.func (.yield l) #[] #[])::caps) (Af H0 Aa) fun _ h'=>h'=Af Hn Aa)
  (hcr:DF N rest=true) (jw:LP [] body=false) (gF:MD cx rest (Uf cx fn.results.toList σ Qv) ⟨env,Af Hn Aa⟩) (hY:∀l σ g w,cx.yp l σ g w)
  {a:Act} (ha:a.defers=[]) (hN:a.tmps.size=N) (hI:Dx w g (Af H0 Aa) (Af H0 Aa) g w) (Gx:∀i,BI g w (AM (Af H0 Aa)) (env i) (a.tmps.getD i undef))
  {R:Ending→World→Prop} (hR:∀v r h' g' w',Qv r h'→BI g' w' (AM h') r v→Dx w g (Af H0 Aa) h' g' w'→Le (Af H0 Aa) g w h' g' w'→R (.returned v) w') :
  (Code.block Pm (.rangeFunc (.tmp s) ps Em body)).wpIn (Ja none) 0 P (Exit.then (rest.wpIn (Ja none) 0 P (bodyPostM (Ja none) 0 P fn R)) (bodyPostM (Ja none) 0 P fn R)) a w:=by
 simp only[Ag]at hσ;have hdl:∀f' tm D s,Ue (.loop (Fb f' tm ps Em body D s))=true:=fun _ _ _ _=>by show(!LP [] body)=true;rw[jw];rfl
 refine wpIn_block (wpIn_rangeFunc fun f' _=>?_);have hs:=Gx s;rw[hF]at hs;have Xz:a.eval (.tmp s)=a.tmps.getD s undef:=rfl;generalize hfv:a.tmps.getD s undef=fv at hs Xz;cases hs with
 |clo _ _ _ lb Ed M3 =>
 obtain⟨i0,s0⟩:=hI.allocS (n0:=w.heap.size) (x:=w.heap.size) (.deferred (some [])) (Ao _);obtain⟨i1,s1⟩:=i0.allocS (n0:=w.heap.size) (x:=w.heap.size) (.loop (Fb f' a.tmps ps Em body w.heap.size .ready)) (by rw[World.size_alloc];omega);generalize hW:(w.alloc (.deferred (some []))).alloc (.loop (Fb f' a.tmps ps Em body w.heap.size .ready))=W1 at i1 s1;have oe:W1.heap.size=w.heap.size+2:=by rw[←hW,World.size_alloc,World.size_alloc]
 have hl:W1.heap[w.heap.size+1]?=some (.loop (Fb f' a.tmps ps Em body w.heap.size .ready)):=by
  rw[←hW]
  have:=World.alloc_heap_new (w.alloc (.deferred (some []))) (.loop (Fb f' a.tmps ps Em body w.heap.size .ready))
  rwa [World.size_alloc]at this
 have hD:W1.heap[w.heap.size]?=some (.deferred (some [])):=by
  rw[←hW,heap_alloc_old _ _ (by rw[World.size_alloc];omega)];exact World.alloc_heap_new w _
 have NK:∀b ob,W1.heap[b]?=some ob→Ue ob=true→∀r,((Af H0 Aa) r).live→g.own r≠some b:=fun b ob hb hd r hr e=>KN (i1.objs r) hr e hb hd;have S1:=s0.trans s1;have hit:=vI (w.heap.size+1) w.heap.size f' a.tmps hN
 refine⟨w.heap.size+1,[{ target:=.collected w.heap.size,args:=#[] }],W1,{ target:=.fn (.func gf) lb,args:=#[.func (.yield (w.heap.size+1)) #[] #[]] },W1,gf,
  #[.func (.yield (w.heap.size+1)) #[] #[]]++lb,W1,?_,?_,fun _ _=>trivial,?_,fun e=>(by cases e),?_⟩
 ·rw[←hW];exact run_enterLoop_outer _ _ _ _ _
 ·simp only[resolve,Xz];simp[go_sem]
 ·simp only[invoke];rw[F4 hit.1]
 refine callsIn_wide.2 ((hit.2 g W1 _ (by simp[Ed];omega) (fun i av x e1 e2=>?_) i1 (fun h' g' w' q1 q2=>?_)).mono ?_)
 ·cases i with
  |zero =>
   simp only[Bj,Br]at e1;rw[EZ]at e2
   have:x=.func (.yield (w.heap.size+1)) #[] #[]:=(Ch e2).symm
   subst e1;subst this;exact .v _ _
  |succ i =>
   have e2:lb[i]?=some x:=by rw[←e2,EZ];simp
   exact(M3 i av x (by simpa using e1) e2).le S1.le
 ·obtain⟨_,_,j2⟩:=I0 hσ.1 hσ.2 q1 q2;refine⟨(q1.frame _ (by omega) (NK _ _ hl (hdl _ _ _ _))).trans hl,fun i=>?_⟩;exact((Gx i).le S1.le).mono j2.keeps (fun _ h=>h) j2.gh
 rintro e w2 ⟨v,r,h',g2,rfl,rfl,_,q3,q4⟩
 have Zn:w2.heap[w.heap.size+1]?=some (.loop (Fb f' a.tmps ps Em body w.heap.size .ready)):=(q3.frame _ (by omega) (NK _ _ hl (hdl _ _ _ _))).trans hl;have vC:w2.heap[w.heap.size]?=some (.deferred (some [])):=(q3.frame _ (by omega) (NK _ _ hD rfl)).trans hD;refine⟨none,_,run_endLoop Zn (fun e=>by cases e),?_⟩;obtain⟨i4,s4⟩:=q3.base.put (n0:=w.heap.size) (x:=w.heap.size) (o':=.loop { Fb f' a.tmps ps Em body w.heap.size .ready with state:=.exhausted }) Zn (hdl _ _ _ _) (hdl f' a.tmps w.heap.size .exhausted) (.inl (by omega));have S4:=(S1.trans (VP.of_inv q3 q4 (by omega))).trans s4;generalize hW4:w2.putObj (w.heap.size+1) (.loop { Fb f' a.tmps ps Em body w.heap.size .ready with state:=.exhausted })=w4 at i4 s4 S4;have nF:w4.heap[w.heap.size]?=some (.deferred (some [])):=by rw[←hW4,World.putObj_heap_other (by omega)];exact vC
 have hE:Im cx (Af Hn Aa):=by unfold Im;rw[hx];exact fun i hi=>⟨(E2 rZ i hi).1,(E2 rZ i hi).2.1⟩
 have vP:SR N [{ target:=.collected w.heap.size,args:=#[] }] w4 g2 (Af Hn Aa) ⟨env,Af Hn Aa⟩ g2 { a with defers:=[{ target:=.collected w.heap.size,args:=#[] }]++a.defers } w4 :=
  ⟨i4,.refl _ _ _,by simp[ha],hN,fun i=>(Gx i).le S4.le⟩
 refine J8 hP hT hm hE (fun l σ _ _ w _ _ _=>hY l σ _ w) none rest hcr (fun e o7 g5 a5 w5 hq Wc=>?_) vP gF;have fin:dg cx o7 fn.results.toList σ Qv→LeavesInM (Ja none) 0 P fn a5.tmps R a5.defers .returning w5:=by
  intro hk;have qJ:w5.heap[w.heap.size]?=some (.deferred (some [])):=(Wc.inv.frame _ (Bn.1 nF).1 (fun r hr e=>KN (i4.objs r) hr e nF rfl)).trans nF;rw[Wc.dfs];refine⟨by simp,.inl ⟨w.heap.size,_,rfl,run_takeDeferred qJ,?_⟩⟩;obtain⟨i6,s6⟩:=Wc.inv.base.put (n0:=w.heap.size) (x:=w.heap.size) (o':=.deferred none) qJ rfl rfl (.inr rfl);have vQ:SR N [{ target:=.collected w.heap.size,args:=#[] }] (w5.putObj w.heap.size (.deferred none)) g5 o7.h o7 g5 a5 (w5.putObj w.heap.size (.deferred none)):=⟨i6,.refl _ _ _,Wc.dfs,Wc.size,fun i=>(Wc.slots i).le s6.le⟩;have S6:=(S4.trans (VP.of_inv Wc.inv Wc.le (Bu (Ao _) S4.size))).trans s6;obtain⟨v,k2,r,h7,g7,k1,k5,k3,k4⟩:=aY (H0:=H0) hT hσ.1 hσ.2 (SR.rebase vQ (i6.of_seg S6 fun h=>absurd h (Nat.lt_irrefl _)) S6.le) hk;exact⟨v,k2,hR v r h7 g7 _ k1 k5 k3 k4⟩
 cases e with
 |normal=>exact fin hq
 |ret=>exact fin hq
 |exit id=>exact hq.elim
end
end Go.Eng

namespace Go.Eng
section
variable {P:Program}{N:Nat}{w:World}{g:Gh}
theorem dS(o k r:Nat){H:List (Nat×HO)}(cx:Cx)(hP:cx.P=P)(hT:Cu P cx.T)(hm:P.follows .mixedOrders=true)(hx:cx.ext=true){σ:Hq}(hσ:(ES σ&&FD σ H)=true){fn:FuncId}{tm:Array Value}{ps:Array Tmp}{Em body:Code}{D l:Nat}
  {env:Nat→AV} {args:List AV} {U:Nat→Prop} {Q:AV→(Nat→HO)→Prop} (kK:args.length=ps.toList.length) (hN:tm.size=N) (wL:(ps.toList.all fun p=>Nat.blt p N)=true) (wd:DF N Em=true) (ri:DF N body=true)
  (hU:∀i,U i→AM (Af H Aa) i)
  (hk:MD cx Em (fun e st=>match e with | .normal=>MD cx body (fun e st=>match e with | .normal=>tL st.h o k r fun h'=>Q (.v (.bool true)) (Fc σ (M2 h' cx.pl.fin)) | _=>False) st | _=>False) ⟨bV ps.toList args env,Af H Aa⟩)
  (hY:∀l σ g w,cx.yp l σ g w:=by exact fun _ _ _ _=>trivial) (jw:LP [] body=false:=by kernel_rfl) :
  GO P (fun g w=>w.heap[l]?=some (.loop (Fb fn tm ps Em body D .ready))∧∀i,BI g w U (env i) (tm.getD i undef)) l args (Af H Aa) Q:=by
 simp only[Ag]at hσ;intro g w vals hs hv hI ⟨hl,Gx⟩;have Dz:l<w.heap.size:=(Bn.1 hl).1;have hdl:∀s,Ue (.loop (Fb fn tm ps Em body D s))=true:=fun s=>by show(!LP [] body)=true;rw[jw];rfl
 have hE:Im cx (Af H Aa):=by unfold Im;rw[hx];exact fun i hi=>⟨(E2 hσ.2 i hi).1,(E2 hσ.2 i hi).2.1⟩
 have NK:∀r,((Af H Aa) r).live→g.own r≠some l:=fun r hr e=>KN (hI.objs r) hr e hl (hdl _);have XB:∀(t0:Array Value),(ps.zip vals).foldl (fun tmps (p:Nat×Value)=>tmps.setIfInBounds p.1 p.2) t0=(ps.toList.zip vals.toList).foldl (fun t p=>t.setIfInBounds p.1 p.2) t0:=fun t0=>by
  rw[←N9,Array.toList_zip]
 have wS:=run_yield (P:=P) (args:=vals) hl (by simp only[hs,kK,CB]);refine⟨fn,_,Em,body,wS,roundIn_of_wpIn trivial ?_⟩;obtain⟨z1,z2⟩:=Sw (U:=AM (Af H Aa)) (ps:=ps.toList) (args:=args) (vals:=vals.toList) (tm:=tm) (env:=env) (by simpa using hs) kK (fun p hp=>by
  have:=(AX.1 wL) p hp
  rw[hN];simpa using this) (fun i av x e1 e2=>hv i av x e1 (by simpa using e2)) (fun i=>(Gx i).mono (.refl _ _) hU (.refl _ _))
 have vN:SR N [] w g (Af H Aa) ⟨bV ps.toList args env,Af H Aa⟩ g { tmps:=(ps.zip vals).foldl (fun tmps (p:Nat×Value)=>tmps.setIfInBounds p.1 p.2) tm,defers:=[] } w:=by
  refine⟨hI,.refl _ _ _,rfl,?_,fun i=>?_⟩
  ·rw[XB];exact z1.trans hN
  ·rw[XB];exact z2 i
 refine J8 hP hT hm hE (fun l σ _ _ w _ _ _=>hY l σ _ w) (some l) Em wd (fun e st1 g1 a1 w1 hq YE=>?_) vN hk;cases e with
 |exit _=>exact hq.elim
 |ret=>exact hq.elim
 |normal =>
  have wq:w1.heap[l]?=some (.loop (Fb fn tm ps Em body D .ready)):=(YE.inv.frame l Dz NK).trans hl;refine⟨_,run_beginRound wq rfl,?_⟩;obtain⟨iS,sS⟩:=hI.put (n0:=w.heap.size) (x:=l) (o':=.loop (Fb fn tm ps Em body D .busy)) hl (hdl _) (hdl _) (.inr rfl);have wt:(w.putObj l (.loop (Fb fn tm ps Em body D .busy))).heap[l]?=some (.loop (Fb fn tm ps Em body D .busy)):=World.putObj_heap_same Dz;have kM:(w.putObj l (.loop (Fb fn tm ps Em body D .busy))).heap.size=w.heap.size:=by simp[World.putObj]
  obtain⟨_,sB⟩:=iS.dullS (w':=w) (n0:=w.heap.size) (x:=l) ⟨rfl,rfl,rfl⟩ (by rw[kM];exact Ao _) (fun b _=>by
   by_cases e:b=l
   ·subst e;exact .inr ⟨_,_,wt,hl,hdl _,hdl _⟩
   ·exact .inl (World.putObj_heap_other e).symm) (fun b _ Dy=>(World.putObj_heap_other Dy).symm)
  obtain⟨i2,s2⟩:=YE.inv.base.put (n0:=w.heap.size) (x:=l) (o':=.loop (Fb fn tm ps Em body D .busy)) wq (hdl _) (hdl _) (.inr rfl);have S2:=(sB.trans (VP.of_inv YE.inv YE.le (Ao _))).trans s2;have Zn:(w1.putObj l (.loop (Fb fn tm ps Em body D .busy))).heap[l]?=some (.loop (Fb fn tm ps Em body D .busy)):=World.putObj_heap_same (Bn.1 wq).1;have hI2:=i2.of_seg (by rw[kM];exact S2) (fun _=>Zn.trans wt.symm);have vO:SR N [] (w.putObj l (.loop (Fb fn tm ps Em body D .busy))) g (Af H Aa) st1 g1 a1 (w1.putObj l (.loop (Fb fn tm ps Em body D .busy))):=⟨hI2,S2.le,YE.dfs,YE.size,fun i=>(YE.slots i).le s2.le⟩;refine J8 hP hT hm hE (fun l σ _ _ w _ _ _=>hY l σ _ w) (some l) body ri (fun e st3 g3 a3 w3 hq dZ=>?_) vO hq;cases e with
  |exit _=>exact hq.elim
  |ret=>exact hq.elim
  |normal =>
   obtain⟨h3,g3',dZ,hq⟩:=iY dZ hq;have rE:w3.heap[l]?=some (.loop (Fb fn tm ps Em body D .busy)):=(dZ.inv.frame l (by rw[kM];exact Dz) NK).trans wt;refine⟨.bool true,w3.putObj l (.loop (Fb fn tm ps Em body D .ready)),run_endRound none rE,?_⟩;obtain⟨gf,pM,r4⟩:=JS cx.pl.fin dZ.inv;obtain⟨i4,s4⟩:=pM.base.put (n0:=w.heap.size) (x:=l) (o':=.loop (Fb fn tm ps Em body D .ready)) rE (hdl _) (hdl _) (.inr rfl);have S4:=(sS.trans (VP.of_inv pM (dZ.le.trans r4) (by rw[kM];exact Ao _))).trans s4;have hl4:(w3.putObj l (.loop (Fb fn tm ps Em body D .ready))).heap[l]?=some (.loop (Fb fn tm ps Em body D .ready)):=World.putObj_heap_same (Bn.1 rE).1;have hI4:=i4.of_seg S4 (fun _=>hl4.trans hl.symm);obtain⟨_,j1,j2⟩:=I0 hσ.1 hσ.2 hI4 S4.le;exact⟨.bool true,.v (.bool true),_,_,rfl,hq,.v _ _,j1,j2⟩

end
def pO(h:Nat→HO)(o k r sz:Nat)(K:(Nat→HO)→Prop):Prop :=
 match h o with
 |.cells cs=>match I5 cs k with
  |.v (.slice none 0 0)=>match h r with
   |.free=>K (AW (AW h r (.var sz 0 0)) o (.cells (EG cs k (.slice (.ver r sz 0) []))))
   |_=>False
  |_=>False
 |_=>False
section
variable {P:Program}{N:Nat}{ds:List Deferred}{w0:World}{g0:Gh}{h0:Nat→HO}{st:St}{g:Gh}{a:Act}{w:World}
theorem oF(hS:SR N ds w0 g0 h0 st g a w){o k r sz:Nat}{K:(Nat→HO)→Prop}(hk:pO st.h o k r sz K):∃h' g',SR N ds w0 g0 h0 ⟨st.t,h'⟩ g' a w∧K h':=by
 unfold pO at hk;split at hk
 ·rename_i cs e0;split at hk
  ·rename_i e1;split at hk
   ·rename_i hf;have jB:o≠r:=fun e=>by rw[e,hf]at e0;cases e0
    have WQ:=Jh cs k _ e1 (by simp)
    obtain⟨m1,m2⟩:=hS.inv.upd r (.var sz 0 0) (.slice none 0 0) 0 true none g.S w none ⟨rfl,rfl,rfl,Ao _⟩ (fun _ _ _=>rfl) (fun b e=>by cases e) (fun _ _ h=>h) (fun _ _ h=>.inl h) (fun b o e=>by cases e) (fun b hh e=>by first | (cases e;done) | (exact absurd hh.2 (by simp))) (by simp)
     (fun hu=>absurd hf hu) (fun _ _=>by
      obtain⟨u1,u2,u3,u4⟩:=BM g r (.slice none 0 0) 0 true none g.S;exact⟨u3,u2,none,0,u1,.inl ⟨rfl,u4⟩⟩)
    generalize Ry:g.upd r (.slice none 0 0) 0 true none g.S=g1 at m1 m2;have gr:g1.tk r=true∧g1.ln r=0∧g1.ρ r=.slice none 0 0:=by rw[←Ry];simp[Gh.upd]
    have nv : (AW st.h r (.var sz 0 0)) o=.cells cs:=by rw[B9 _ _ _ _ jB,e0]
    obtain⟨g3,p1,p2⟩:=Oq m1 nv WQ (new:=.slice (.ver r sz 0) []) (fun y hy=>by
     cases hy
     exact .ver _ r sz 0 [] _ (.snil _ _ _) (fun c hc=>by cases hc) (by unfold AM;rw[Bd];simp) gr.1 (AL _) (fun _=>gr.2.2.symm))
    exact⟨_,g3,⟨p1,hS.le.trans (m2.trans p2),hS.dfs,hS.size,fun i=>(hS.slots i).le (m2.trans p2)⟩,hk⟩
   ·exact hk.elim
  ·exact hk.elim
 ·exact hk.elim
def tW(o k r sz:Nat)(PB:Cx)(P:Program)(N:Nat)(fn:Func)(σ:Hq)(Q:AV→(Nat→HO)→Prop)(b rest:Code)(st:St):Prop :=
 pO st.h o k r sz fun h1 =>
  ∃(σF σr:Hq) (H0 Hn:List (Nat×HO)) (Pm s:Nat) (ps:Array Tmp) (Em body:Code) (gf:Nat) (caps:List AV),
  b=.block Pm (.rangeFunc (.tmp s) ps Em body)∧(D4 σF&&DA h1 0 0&&Dj σF 0 0)=true∧Fc σF h1=Af H0 Aa∧(ES σr&&FD σr H0)=true∧FD σr Hn=true ∧
  ren (Cn σF) h1 (st.t s)=.clo gf caps ∧
  (∀(l D:Nat) (f' : FuncId) (tm:Array Value),tm.size=N→M9 P (fun g w=>w.heap[l]?=some (.loop (Fb f' tm ps Em body D .ready))∧∀i,BI g w (AM (Af H0 Aa)) (ren (Cn σF) h1 (st.t i)) (tm.getD i undef)) σr gf
   (.v (.func (.yield l) #[] #[])::caps) (Af H0 Aa) fun _ h'=>h'=Af Hn Aa) ∧
  DF N rest=true∧LP [] body=false∧MD PB rest (Uf PB fn.results.toList σr fun r h'=>Q (ren (Cn σ) (Ea σF 0 0 h1 h') (ren (Fg σF 0 0) h' r)) (Fc σ (Ea σF 0 0 h1 h')))
   ⟨fun i=>ren (Cn σF) h1 (st.t i),Af Hn Aa⟩
theorem bA (o k r sz : Nat) {f : Nat} {fn : Func} {c : Code} {args : List AV} {H : List (Nat × HO)} {Q : AV → (Nat → HO) → Prop} (cx PB : Cx) (σ : Hq) (hP : cx.P = P) (hT : Cu P cx.T) (vM : PB.P = P) (vS : Cu P PB.T) (hm : P.follows .mixedOrders = true) (hx : cx.ext = true) (pJ : PB.ext = true) (hf : P.funcs[f]? = some fn) (hn : (fn.name == "runtime.NumGoroutine") = false)
  (hb:fn.body=some c) (hN:args.length≤fn.ntmps) (hc:DF fn.ntmps c=true) (hσ:(ES σ&&FD σ H)=true) (n:Nat)
  (hk:eO cx n c (Uf cx fn.results.toList σ fun r h'=>∃r',GU r r'∧Q r' h') (tW o k r sz PB P fn.ntmps fn σ fun r h'=>∃r',GU r r'∧Q r' h') ⟨LR args,Af H Aa⟩)
  (hY:∀l σ g w,cx.yp l σ g w:=by exact fun _ _ _ _=>trivial) (vU:∀l σ g w,PB.yp l σ g w:=by exact fun _ _ _ _=>trivial):Bo P f args (Af H Aa) Q:=by
 refine Bo.mono (Q:=fun r h'=>∃r',GU r r'∧Q r' h') ?_ fun _ _ ⟨r',s,q⟩=>⟨r',s,q⟩;simp only[Ag]at hσ;refine⟨⟨fn,hf,hn,by simp[hb]⟩,fun g w vals hs hv hI=>callsIn_wide.1 (callsIn_of_wp_marks (F:=Fence.wide) (n:=0) hf hb trivial ?_ rfl)⟩;have hE:Im cx (Af H Aa):=by unfold Im;rw[hx];exact fun i hi=>⟨(E2 hσ.2 i hi).1,(E2 hσ.2 i hi).2.1⟩
 have hS:SR fn.ntmps [] w g (Af H Aa) ⟨LR args,Af H Aa⟩ g { tmps:=vals++Array.replicate (fn.ntmps-vals.size) undef,defers:=[] } w:=by
  refine⟨hI,.refl _ _ _,rfl,by simp[hs];omega,fun i=>?_⟩
  have:=Ma (n:=fn.ntmps-vals.size) (args:=args) (vals:=vals.toList) (by simpa using hs) (fun i av x q1 q2=>hv i av x q1 (by simpa using q2)) i
  rw[Cw,←AO];rw[B7]at this;simpa using this
 refine aq hP hT hm hE (fun l σ _ _ w _ _ _=>hY l σ _ w) (fun e st g' a w' Dy hk hS=>?_) (fun b rest st g' a w' hk hS=>?_) n c hc hS hk
 ·have out:dg cx st fn.results.toList σ (fun r h'=>∃r',GU r r'∧Q r' h')→LeavesInM (Ja none) 0 P fn a.tmps (fun e w'=>∃v r h' g',e=Ending.returned v∧(∃r',GU r r'∧Q r' h')∧BI g' w' (AM h') r v∧Dx w g (Af H Aa) h' g' w'∧Le (Af H Aa) g w h' g' w') a.defers .returning w':=by
   intro hk;obtain⟨v,q2,r,h',g2,q1,q3,q4,q5⟩:=aY hT hσ.1 hσ.2 hS hk;rw[hS.dfs];exact⟨v,q2,v,r,h',g2,rfl,q1,q3,q4,q5⟩
  cases e with
  |normal=>exact absurd rfl Dy
  |ret=>exact out hk
  |exit id=>exact hk.elim
 ·obtain⟨h1,g',hS,hk⟩:=oF hS hk;obtain⟨σF,σr,H0,Hn,Pm,s,ps,Em,body,gf,caps,rfl,k1,k2,k3,k4,k5,k6,k7,k9,k8⟩:=hk;have w8:D4 σF=true:=by simp only[Ag]at k1;exact k1.1.1
  obtain⟨nI,qK⟩:=SJ hS.inv w8;rw[k2]at qK;have Gx:∀i,BI (CO σF g') w' (AM (Af H0 Aa)) (ren (Cn σF) h1 (st.t i)) (a.tmps.getD i undef):=fun i=>by
   have:=(hS.slots i).ren nI
   rwa [k2]at this
  refine Kx (Q:=fun r h'=>∃r',GU (ren (Cn σ) (Ea σF 0 0 h1 h') (ren (Fg σF 0 0) h' r)) r'∧Q r' (Fc σ (Ea σF 0 0 h1 h'))) (C:=fun R'=>(∀e Qu,R' e Qu→(∃v r h' g',e=Ending.returned v∧(∃r',GU r r'∧Q r' h')∧BI g' Qu (AM h') r v∧Dx w g (Af H Aa) h' g' Qu∧Le (Af H Aa) g w h' g' Qu)) →
   (Code.block Pm (.rangeFunc (.tmp s) ps Em body)).wpIn (Ja none) 0 P (Exit.then (rest.wpIn (Ja none) 0 P (bodyPostM (Ja none) 0 P fn (fun e Qu=>∃v r h' g',e=Ending.returned v∧(∃r',GU r r'∧Q r' h')∧BI g' Qu (AM h') r v∧Dx w g (Af H Aa) h' g' Qu∧Le (Af H Aa) g w h' g' Qu))) (bodyPostM (Ja none) 0 P fn (fun e Qu=>∃v r h' g',e=Ending.returned v∧(∃r',GU r r'∧Q r' h')∧BI g' Qu (AM h') r v∧Dx w g (Af H Aa) h' g' Qu∧Le (Af H Aa) g w h' g' Qu))) a w')
   (fun h k h2=>h fun e w r=>h2 _ _ (k _ _ r)) hS.inv (d:=0) (nn:=0) k1 (fun _ XL=>?_) (fun v r h' g2 w2 q1 q2 q3 q4=>?_) (fun _ _ h=>h)
  ·rw[k2]at XL;exact oU PB vM vS hm pJ k3 k4 k5 k6 k7 k9 k8 vU hS.dfs hS.size qK Gx fun v r h' g5 w5 q1 q2 q3 q4=>XL _ _ ⟨v,r,h',g5,rfl,q1,q2,q3,q4⟩
  ·obtain⟨hR,j1,j2⟩:=I0 hσ.1 hσ.2 q2 (hS.le.trans q3);exact⟨v,_,_,_,rfl,q1,q4.ren hR,j1,j2⟩
end
end Go.Eng

namespace Go.Eng
section
variable {P:Program}{N:Nat}{w:World}{g:Gh}
theorem Pt{Y:Gh→World→Prop}{l:Nat}{f:Nat}{fn:Func}{c:Code}{args:List AV}{H0:List (Nat×HO)}{Q:AV→(Nat→HO)→Prop}(cx:Cx)(σ σy:Hq)(hP:cx.P=P)(hT:Cu P cx.T)(hm:P.follows .mixedOrders=true)(hx:cx.ext=true)(hf:P.funcs[f]?=some fn)
  (hn : (fn.name == "runtime.NumGoroutine") = false) (hb : fn.body = some c) (hN : args.length ≤ fn.ntmps) (hc : DF fn.ntmps c = true) (hσ : (ES σ && FD σ H0) = true)
  (hy:cx.yp=fun l' σ' g w=>l'=l→σ'=σy→Y g w)
  (Gy:∀g w h' g' w',Dx w g (Af H0 Aa) (Af H0 Aa) g w→Dx w g (Af H0 Aa) h' g' w'→Le (Af H0 Aa) g w h' g' w'→Y g w→Y (CO σy g') w')
  (hk:MD cx c (Uf cx fn.results.toList σ Q) ⟨LR args,Af H0 Aa⟩):FX P Y f args (Af H0 Aa) Q :=
 ⟨⟨fn,hf,hn,by simp[hb]⟩,fun g w vals hs hv hI hY=>OK cx σ hP hT hm hx hf hn hb hN hc hσ hk hs hv hI fun l' σ' h' g' w' _ q1 q2=>by
  rw[hy];intro _ e;subst e;exact Gy g w h' g' w' hI q1 q2 hY⟩
theorem FX.imp{Y:Gh→World→Prop}{f:Nat}{args:List AV}{h0:Nat→HO}{Q Q' : AV→(Nat→HO)→Prop}(h:FX P Y f args h0 Q)(hq:∀r h',Q r h'→Q' r h'):FX P Y f args h0 Q' :=
 ⟨h.1,fun g w vals a b c d=>(h.2 g w vals a b c d).mono fun _ _ ⟨v,r,h',g',e,q,k⟩=>⟨v,r,h',g',e,hq r h' q,k⟩⟩
theorem FX.pre{Y Y' : Gh→World→Prop}{f:Nat}{args:List AV}{h0:Nat→HO}{Q:AV→(Nat→HO)→Prop}(h:FX P Y f args h0 Q)(hp:∀g w,Y' g w→Y g w):FX P Y' f args h0 Q :=
 ⟨h.1,fun g w vals a b c d=>h.2 g w vals a b c (hp g w d)⟩
theorem cy{Y0 Y:Gh→World→Prop}{l:Nat}{f:Nat}{fn:Func}{c:Code}{args:List AV}{H0:List (Nat×HO)}{Q:AV→(Nat→HO)→Prop}(cx:Cx)(σ σy:Hq)(hP:cx.P=P)(hT:Cu P cx.T)(hm:P.follows .mixedOrders=true)(hx:cx.ext=true)(hf:P.funcs[f]?=some fn)
  (hn : (fn.name == "runtime.NumGoroutine") = false) (hb : fn.body = some c) (hN : args.length ≤ fn.ntmps) (hc : DF fn.ntmps c = true) (hσ : (ES σ && FD σ H0) = true)
  (hy:cx.yp=fun l' σ' g w=>l'=l→σ'=σy→Y g w) (tr:∀g w,Y0 (CO σ g) w→Y (CO σy g) w)
  (hk:MD cx c (Uf cx fn.results.toList σ Q) ⟨LR args,Af H0 Aa⟩):M9 P Y0 σ f args (Af H0 Aa) Q :=
 ⟨⟨fn,hf,hn,by simp[hb]⟩,fun g w vals hs hv hI hp=>OK cx σ hP hT hm hx hf hn hb hN hc hσ hk hs hv hI fun l' σ' h' g' w' _ q1 q2=>by
  rw[hy];intro _ e;subst e;exact tr _ _ (hp h' g' w' q1 q2)⟩
theorem lE{σ σ' : Hq}{U:Nat→Prop}(h:∀i,U i→GC σ' i=GC σ i){R:World→Prop}{tm:Array Value}{env:Nat→AV} :
  ∀g w,(R w∧∀i,BI (CO σ g) w U (env i) (tm.getD i undef))→(R w∧∀i,BI (CO σ' g) w U (env i) (tm.getD i undef)):=fun g w ⟨h1,h2⟩ =>
 ⟨h1,fun i=>(h2 i).mono (show E0 (CO σ g) w (CO σ' g) w from fun b o hs=>⟨hs,rfl,fun _ _ e=>e⟩) (fun _ h=>h) fun j hj=>by
  have e:=h j hj;unfold CO;dsimp only;rw[e];exact⟨rfl,Ao _,fun _=>rfl,fun _=>rfl⟩⟩
end
end Go.Eng

namespace Go.Eng
open Go.Sort
section
variable {P:Program}
theorem YO{f fF:Nat}{caps:List AV}{es:List (List AV)}{sz:Nat}{n' : Nat}{Q:List (List AV)→Prop}(hE:Gd P f)(Dy:es≠[])(XI : n'≤es.length)
  (h1:∀(g:Gh) (w:World) (b cap:Nat) (F lb:Array Value),CT g w Fj es.flatten F.toList→F.size=es.length*sz→Holds id w b 0 F→b<w.heap.size→es.length≤cap→(∀o,¬g.S b o)→(∀b' o,g.S b' o→b' < w.heap.size)→lb.size=caps.length →
   (∀(i:Nat) (av:AV) (x:Value),caps[i]?=some av→lb[i]?=some x→BI g w (AM (Af [(1000,.arr sz es)] Aa)) av x)→Calls P f #[.slice (some ⟨b,0,none⟩) es.length cap,.func (.func fF) #[] lb] w fun e w' =>
   e=.returned (.slice (some ⟨b,0,none⟩) n' cap)∧∃(F' : Array Value) (EM : List (List AV)) (n:Nat) (os:Array Obj),F'.size=F.size∧Q EM∧EM.length=es.length∧(∀cs∈EM,cs.length=sz) ∧
    (∀(g:Gh) (w:World),CT g w Fj es.flatten F.toList→CT g w Fj EM.flatten F'.toList)∧w'=grow (putRow id (Sort.ahead w n) b 0 F') os) :
  Bo P f [.msl 1000 es.length,.clo fF caps] (Af [(1000,.arr sz es)] Aa) fun r h'=>r=.msl 2000 n'∧∃EM,Q EM∧h'=Af [(1000,.dead),(2000,.arr sz (EM.take n'))] Aa:=by
 refine⟨hE,fun g w us hs hv hI=>?_⟩;have ho:=hI.objs 1000;have he:Af [(1000,HO.arr sz es)] Aa 1000=.arr sz es:=rfl;rw[he]at ho;obtain⟨t1,l1,al,a2⟩:=ho;simp only[Ak,Al]at hs;have rW:0<us.size:=by omega
 have Wj:=hv 0 (.msl 1000 es.length) us[0] rfl (Be rW);have hval:us[0]=g.ρ 1000:=by
  generalize us[0]=x at Wj;cases Wj with
  |msl _ r n a cap hu ht hn ha hx=>exact hx l1.symm
 have hu1:1<us.size:=by omega
 have XM:=hv 1 (.clo fF caps) us[1] rfl (Be hu1);obtain⟨lb,wu,Rz,ml⟩:∃lb:Array Value,us[1]=.func (.func fF) #[] lb∧lb.size=caps.length∧∀(i:Nat) (av:AV) (x:Value),caps[i]?=some av→lb[i]?=some x→BI g w (AM (Af [(1000,.arr sz es)] Aa)) av x:=by
  generalize us[1]=x at XM;cases XM with
  |clo _ _ _ lb Ed M3=>exact⟨lb,rfl,Ed,M3⟩
 have KH:us=#[g.ρ 1000,.func (.func fF) #[] lb]:=by
  refine RP (by simp;omega) fun i h1 h2=>?_
  match i,h1 with
  |0,_=>rw[hval];rfl
  |1,_=>rw[wu];rfl
  |i+2,h1=>simp at hs;omega
 rw[KH];rcases a2 with ⟨b1,b2,b3⟩ | ⟨b,cap,E,vs,b1,b2,b3,b4,b5,b6,b7⟩
 ·exact absurd b1 Dy
 ·have hl:(Af [(1000,HO.arr sz es)] Aa 1000).live:=trivial;have Dz:=(hI.loc 1000 b hl b2).1;have Hs:es.length*sz≤vs.size:=by rw[b5];exact Bg _ b3
  have hF:((vs.toList.take (es.length*sz)).toArray).size=es.length*sz:=by simp;omega
  have hH:Holds id w b 0 (vs.toList.take (es.length*sz)).toArray:=fun j hj=>by
   have hj:j<es.length*sz:=by rw[hF]at hj;exact hj
   refine⟨?_,?_⟩
   ·have nY:j<vs.size:=by omega
    simp only[World.cell?,b4,Bc,Og,Da,Ga];rw[Be nY,DN _ j (by rw[hF];exact hj)];simp
   ·simp[World.frozen?,b4]
  rw[b1];refine(h1 g w b cap _ lb (by simpa using b6) hF hH Dz b3 b7 hI.slt Rz ml).mono ?_
  rintro e w' ⟨rfl,F',EM,n,os,f1,f2,f3,f4,f5,rfl⟩
  have me : F'.size=es.length*sz:=f1.trans hF;have mp:=Kk F' vs (by omega);have jv : (grow (putRow id (Sort.ahead w n) b 0 F') os).heap[b]?=some (.cells (putCells id 0 F' vs) E (0,0)):=by
   rw[heap_grow_old _ _ (by rw[size_putRow];exact Dz)];show(w.heap.modify b (onCells (putCells id 0 F')))[b]?=_;rw[Lx,AB rfl,b4];rfl
  have n8:∀k,k<w.heap.size→k≠b→(grow (putRow id (Sort.ahead w n) b 0 F') os).heap[k]?=w.heap[k]?:=fun k hk Dy=>by
   rw[heap_grow_old _ _ (by rw[size_putRow];exact hk)];simp[putRow,mapBlock,Array.getElem?_modify,Ne.symm Dy]
  have Ed:w.heap.size≤(grow (putRow id (Sort.ahead w n) b 0 F') os).heap.size:=by rw[size_grow,size_putRow];show w.heap.size≤w.heap.size+_;omega
  obtain⟨k1,k2⟩:=hI.upd 1000 (.arr sz EM) (g.ρ 1000) (g.ln 1000) (g.tk 1000) (g.own 1000) g.S (grow (putRow id (Sort.ahead w n) b 0 F') os) (some b) ⟨rfl,rfl,rfl,Ed⟩
   (fun k hk Dy=>n8 k hk (fun e=>Dy (by rw[e]))) (fun b' e=>by cases e;exact⟨hl,b2⟩) (fun _ _ h=>h) (fun _ _ h=>.inl h) (fun b' o e hs=>by cases e;exact absurd hs (b7 o))
   (fun b' _ e=>by rw[b2]at e;cases e;exact⟨BP Dz Ed,.inl ⟨hl,b2⟩⟩) (by simp) (fun _=>⟨rfl,Ao _,fun _=>rfl,fun _=>rfl⟩) (fun hg hk=>by
    refine⟨by simp[Gh.upd,t1],by simp[Gh.upd,l1,f3],f4,.inr ⟨b,cap,E,_,by simp[Gh.upd,b1,f3],by simp[Gh.upd,b2],by omega,jv,by rw[mp.2,b5],?_,b7⟩⟩
    have:=f5 g w (by simpa using b6)
    rw[f3,←me,mp.1];exact this.mono hk (fun _ h=>h) (fun _ h=>h.elim))
  rw[NJ]at k1 k2;generalize XC : g.upd 1000 (g.ρ 1000) (g.ln 1000) (g.tk 1000) (g.own 1000) g.S=g' at k1 k2;have mn : g'.own 1000=some b:=by rw[←XC];simp[Gh.upd,b2]
  have gA:=k1.objs 1000;have d4:Af [(1000,HO.arr sz EM)] Aa 1000=.arr sz EM:=rfl;rw[d4]at gA;obtain⟨m1,m2,m3,m4⟩:=gA;have hρ:g'.ρ 1000=.slice (some ⟨b,0,none⟩) es.length cap:=by rw[←XC];simp[Gh.upd,b1]
  have n6 : EM≠[]:=fun e=>Dy (AJ (by rw[←f3,e];rfl));rcases m4 with ⟨m4,_⟩ | ⟨b',Oo,E',js,c1,c2,c3,c4,c5,c6,c7⟩
  ·exact absurd m4 n6
  ·rw[hρ]at c1;simp only[Value.slice.injEq,Br,Addr.mk.injEq,RY]at c1;obtain⟨uJ,c1b,uK⟩:=c1;subst uJ;subst uK;have Wg : (EM.take n').length=n':=by rw[AK];omega
   obtain⟨k3,k4⟩:=k1.move 1000 2000 (by decide) rfl trivial mn (.arr sz (EM.take n')) (.slice (some ⟨b,0,none⟩) n' cap) n' true (by simp) (fun hk=>by
    refine⟨by simp[Gh.upd],by simp[Gh.upd,Wg],fun cs hcs=>m3 cs (DT hcs),.inr ⟨b,cap,E',js,by simp[Gh.upd,Wg],by simp[Gh.upd],by omega,c4,c5,?_,c7⟩⟩
    have:=(c6.mono hk (fun _ h=>h) (fun _ h=>h.elim)).take (n'*sz)
    rw[I2 EM n' m3,Of,UA (Bg _ (by omega))]at this;rw[Wg];exact this)
   have gx:AW (AW (Af [(1000,HO.arr sz EM)] Aa) 1000 .dead) 2000 (.arr sz (EM.take n'))=Af [(1000,.dead),(2000,.arr sz (EM.take n'))] Aa:=by
    funext i
    by_cases e1:i=2000
    ·subst e1;rw[Bd];rfl
    ·rw[B9 _ _ _ _ e1]
     by_cases e2:i=1000
     ·subst e2;rw[Bd];rfl
     ·rw[B9 _ _ _ _ e2];simp[Af,Ci e1,Ci e2]
   rw[gx]at k3 k4;exact⟨_,.msl 2000 n',_,_,rfl,⟨rfl,EM,f2,rfl⟩,.msl _ 2000 n' (some ⟨b,0,none⟩) cap (by intro c;cases c) (by simp[Gh.upd]) (by simp[Gh.upd]) (.inr ⟨b,rfl⟩) (fun _=>by simp[Gh.upd]),k3,k2.trans k4⟩
end
end Go.Eng

namespace Go.Eng
abbrev TM(fn:FuncId)(tm:Array Value)(ps:Array Tmp)(Em body:Code)(D Pm:Nat):Bool→Loop
 |true=>Fb fn tm ps Em body D .ready
 |false=>{ Fb fn tm ps Em body D .done with pending:=some (.exit Pm) }
section
variable {P:Program}{N:Nat}{ds:List Deferred}{w0 w:World}{g0 g:Gh}{h0 h:Nat→HO}
theorem RK(hI:Dx w0 g0 h0 h g w){r l:Nat}{ob ob' : Obj}(hr:h r=.raw l ob)(hb:m0 ob'=true) :
  ∃g',Dx w0 g0 h0 (AW h r (.raw l ob')) g' (w.putObj l ob')∧Le h g w (AW h r (.raw l ob')) g' (w.putObj l ob'):=by
 have ho:=hI.objs r;rw[hr]at ho;obtain⟨t,a1,a2,_,a4⟩:=ho;have hl:(h r).live:=by rw[hr];trivial
 have Dz:l<w.heap.size:=(Bn.1 a2).1;have Ed:(w.putObj l ob').heap.size=w.heap.size:=by simp[World.putObj]
 obtain⟨m1,m2⟩:=hI.upd r (.raw l ob') (g.ρ r) (g.ln r) (g.tk r) (g.own r) g.S (w.putObj l ob') (some l) ⟨rfl,rfl,rfl,by rw[Ed];exact Ao _⟩
  (fun k _ Dy=>World.putObj_heap_other fun e=>Dy (by rw[e])) (fun b e=>by cases e;exact⟨hl,a1⟩) (fun _ _ h=>h) (fun _ _ h=>.inl h) (fun b o e hs=>by cases e;exact absurd hs (a4 o))
  (fun b _ e=>⟨by rw[Ed];exact(hI.loc r b hl e).1,.inl ⟨hl,e⟩⟩) (fun e=>by cases e) (fun _=>⟨rfl,Ao _,fun _=>rfl,fun _=>rfl⟩) (fun _ _=>by
   obtain⟨_,_,u3,u4⟩:=BM g r (g.ρ r) (g.ln r) (g.tk r) (g.own r) g.S;exact⟨u3.trans t,u4.trans a1,World.putObj_heap_same Dz,hb,a4⟩)
 exact⟨_,m1,m2⟩
theorem TL(hI:Dx w0 g0 h0 h g w){r l:Nat}{ob:Obj}(hr:h r=.raw l ob):w.heap[l]?=some ob:=by
 have ho:=hI.objs r;rw[hr]at ho;exact ho.2.2.1
theorem dR(r0:Nat){H:List (Nat×HO)}(cx:Cx)(hP:cx.P=P)(hT:Cu P cx.T)(hm:P.follows .mixedOrders=true)(hx:cx.ext=true){σ:Hq}(hσ:(ES σ&&FD σ H)=true){fn:FuncId}{tm:Array Value}{ps:Array Tmp}{Em body:Code}{D l:Nat}
  {env:Nat→AV} {args:List AV} {U:Nat→Prop} {Q:AV→(Nat→HO)→Prop} (Wj:Af H Aa r0=.raw l (.loop (Fb fn tm ps Em body D .ready))) (kK:args.length=ps.toList.length) (hN:tm.size=N) (wL:(ps.toList.all fun p=>Nat.blt p N)=true) (wd:DF N Em=true) (ri:DF N body=true)
  (hU:∀i,U i→AM (Af H Aa) i)
  (hk:MD cx Em (fun e st=>match e with
   |.normal=>st.h r0=.raw l (.loop (Fb fn tm ps Em body D .ready))∧MD cx body (fun e st=>match e with
    |.normal=>st.h r0=.raw l (.loop (Fb fn tm ps Em body D .busy))∧Q (.v (.bool true)) (Fc σ (M2 (AW st.h r0 (.raw l (.loop (TM fn tm ps Em body D 0 true)))) cx.pl.fin))
    |.exit id=>st.h r0=.raw l (.loop (Fb fn tm ps Em body D .busy))∧Q (.v (.bool false)) (Fc σ (M2 (AW st.h r0 (.raw l (.loop (TM fn tm ps Em body D id false)))) cx.pl.fin))
    |.ret=>False) ⟨st.t,AW st.h r0 (.raw l (.loop (Fb fn tm ps Em body D .busy)))⟩
   |_=>False) ⟨bV ps.toList args env,Af H Aa⟩)
  (hY:∀l σ g w,cx.yp l σ g w:=by exact fun _ _ _ _=>trivial) (jw:LP [] body=true:=by kernel_rfl) :
  GO P (fun g w=>∀i,BI g w U (env i) (tm.getD i undef)) l args (Af H Aa) Q:=by
 simp only[Ag]at hσ;intro g w vals hs hv hI Gx;have hl:=TL hI Wj;have hE:Im cx (Af H Aa):=by unfold Im;rw[hx];exact fun i hi=>⟨(E2 hσ.2 i hi).1,(E2 hσ.2 i hi).2.1⟩
 have XB:∀(t0:Array Value),(ps.zip vals).foldl (fun tmps (p:Nat×Value)=>tmps.setIfInBounds p.1 p.2) t0=(ps.toList.zip vals.toList).foldl (fun t p=>t.setIfInBounds p.1 p.2) t0:=fun t0=>by
  rw[←N9,Array.toList_zip]
 have wS:=run_yield (P:=P) (args:=vals) hl (by simp only[hs,kK,CB]);refine⟨fn,_,Em,body,wS,roundIn_of_wpIn trivial ?_⟩;obtain⟨z1,z2⟩:=Sw (U:=AM (Af H Aa)) (ps:=ps.toList) (args:=args) (vals:=vals.toList) (tm:=tm) (env:=env) (by simpa using hs) kK (fun p hp=>by
  have:=(AX.1 wL) p hp
  rw[hN];simpa using this) (fun i av x e1 e2=>hv i av x e1 (by simpa using e2)) (fun i=>(Gx i).mono (.refl _ _) hU (.refl _ _))
 have vN:SR N [] w g (Af H Aa) ⟨bV ps.toList args env,Af H Aa⟩ g { tmps:=(ps.zip vals).foldl (fun tmps (p:Nat×Value)=>tmps.setIfInBounds p.1 p.2) tm,defers:=[] } w:=by
  refine⟨hI,.refl _ _ _,rfl,?_,fun i=>?_⟩
  ·rw[XB];exact z1.trans hN
  ·rw[XB];exact z2 i
 refine J8 hP hT hm hE (fun l σ _ _ w _ _ _=>hY l σ _ w) (some l) Em wd (fun e st1 g1 a1 w1 hq YE=>?_) vN hk;cases e with
 |exit _=>exact hq.elim
 |ret=>exact hq.elim
 |normal =>
  obtain⟨XM,hq⟩:=hq;refine⟨_,run_beginRound (TL YE.inv XM) rfl,?_⟩;obtain⟨g2,i2,s2⟩:=RK YE.inv XM (ob':=.loop (Fb fn tm ps Em body D .busy)) jw;have vO:SR N [] w g (Af H Aa) ⟨st1.t,AW st1.h r0 (.raw l (.loop (Fb fn tm ps Em body D .busy)))⟩ g2 a1 (w1.putObj l (.loop (Fb fn tm ps Em body D .busy))) :=
   ⟨i2,YE.le.trans s2,YE.dfs,YE.size,fun i=>(YE.slots i).le s2⟩
  refine J8 hP hT hm hE (fun l σ _ _ w _ _ _=>hY l σ _ w) (some l) body ri (fun e st3 g3 a3 w3 hq dZ=>?_) vO hq;cases e with
  |ret=>exact hq.elim
  |normal =>
   obtain⟨rQ,hq⟩:=hq;refine⟨.bool true,_,run_endRound none (TL dZ.inv rQ),?_⟩;obtain⟨g4,i4,s4⟩:=RK dZ.inv rQ (ob':=.loop (Fb fn tm ps Em body D .ready)) jw;obtain⟨gf,pM,r4⟩:=JS cx.pl.fin i4;obtain⟨_,j1,j2⟩:=I0 hσ.1 hσ.2 pM ((dZ.le.trans s4).trans r4);exact⟨.bool true,.v (.bool true),_,_,rfl,hq,.v _ _,j1,j2⟩
  |exit id =>
   obtain⟨rQ,hq⟩:=hq;refine⟨.bool false,_,run_endRound (some (.exit id)) (TL dZ.inv rQ),?_⟩;obtain⟨g4,i4,s4⟩:=RK dZ.inv rQ (ob':=.loop (TM fn tm ps Em body D id false)) jw;obtain⟨gf,pM,r4⟩:=JS cx.pl.fin i4;obtain⟨_,j1,j2⟩:=I0 hσ.1 hσ.2 pM ((dZ.le.trans s4).trans r4);exact⟨.bool false,.v (.bool false),_,_,rfl,hq,.v _ _,j1,j2⟩
theorem cp(r:Nat)(o o' : HO)(H:List (Nat×HO)):AW (Af ((r,o)::H) Aa) r o'=Af ((r,o')::H) Aa:=funext fun i=>by
 show(bif Nat.beq i r then o' else bif Nat.beq i r then o else Af H Aa i)=bif Nat.beq i r then o' else Af H Aa i;cases Nat.beq i r<;>rfl
theorem U2(r:Nat)(o:HO)(H:List (Nat×HO)):Af ((r,o)::H) Aa r=o:=by
 show(bif Nat.beq r r then o else Af H Aa r)=o;rw[Dc];rfl
theorem oT(r0:Nat){fn:Func}{Pm s:Nat}{ps:Array Tmp}{Em body rest:Code}(cx:Cx)(hP:cx.P=P)(hT:Cu P cx.T)(hm:P.follows .mixedOrders=true)(hx:cx.ext=true){σ:Hq}{H0 Hn:List (Nat×HO)}(Wj:Af H0 Aa r0=.free)(hσ:∀o,(ES σ&&FD σ ((r0,o)::H0))=true)(rZ:∀o,FD σ ((r0,o)::Hn)=true)
  {env:Nat→AV} {gf:Nat} {caps:List AV} (hF:env s=.clo gf caps) {Qv:AV→Prop}
  (vI:∀(l D:Nat) (f' : FuncId) (tm:Array Value),tm.size=N→M9 P (fun g w=>∀i,BI g w (AM (Af ((r0,.raw l (.loop (Fb f' tm ps Em body D .ready)))::H0) Aa)) (env i) (tm.getD i undef)) σ gf
   (.v (.func (.yield l) #[] #[])::caps) (Af ((r0,.raw l (.loop (Fb f' tm ps Em body D .ready)))::H0) Aa) fun _ h'=>∃b,h'=Af ((r0,.raw l (.loop (TM f' tm ps Em body D Pm b)))::Hn) Aa)
  (hcr:DF N rest=true) (jw:LP [] body=true) (gF:∀o,MD cx rest (Y7 cx fn.results.toList Qv) ⟨env,Af ((r0,o)::Hn) Aa⟩) (hY:∀l σ g w,cx.yp l σ g w)
  {a:Act} (ha:a.defers=[]) (hN:a.tmps.size=N) (hI:Dx w g (Af H0 Aa) (Af H0 Aa) g w) (Gx:∀i,BI g w (AM (Af H0 Aa)) (env i) (a.tmps.getD i undef))
  {R:Ending→World→Prop} (hR:∀v r h' g' w',Qv r→BI g' w' Fj r v→Dx w g (Af H0 Aa) h' g' w'→Le (Af H0 Aa) g w h' g' w'→R (.returned v) w') :
  (Code.block Pm (.rangeFunc (.tmp s) ps Em body)).wpIn (Ja none) 0 P (Exit.then (rest.wpIn (Ja none) 0 P (bodyPostM (Ja none) 0 P fn R)) (bodyPostM (Ja none) 0 P fn R)) a w:=by
 have zx:ES σ=true∧∀o,FD σ ((r0,o)::H0)=true:=⟨(Bool.and_eq_true_iff.1 (hσ .free)).1,fun o=>(Bool.and_eq_true_iff.1 (hσ o)).2⟩;refine wpIn_block (wpIn_rangeFunc fun f' _=>?_);have hs:=Gx s;rw[hF]at hs;have Xz:a.eval (.tmp s)=a.tmps.getD s undef:=rfl;generalize hfv:a.tmps.getD s undef=fv at hs Xz;cases hs with
 |clo _ _ _ lb Ed M3 =>
 obtain⟨i0,s0⟩:=hI.allocS (n0:=w.heap.size) (x:=w.heap.size) (.deferred (some [])) (Ao _);obtain⟨rec,Um⟩:∃rec,rec=Fb f' a.tmps ps Em body w.heap.size .ready:=⟨_,rfl⟩;have og:(w.alloc (.deferred (some []))).heap.size=w.heap.size+1:=World.size_alloc ..;obtain⟨W1,hW⟩:∃W1,W1=(w.alloc (.deferred (some []))).alloc (.loop rec):=⟨_,rfl⟩;have oe:W1.heap.size=w.heap.size+2:=by rw[hW,World.size_alloc,World.size_alloc]
 have hl:W1.heap[w.heap.size+1]?=some (.loop rec):=by
  rw[hW]
  have:=World.alloc_heap_new (w.alloc (.deferred (some []))) (.loop rec)
  rwa [World.size_alloc]at this
 have hD:W1.heap[w.heap.size]?=some (.deferred (some [])):=by
  rw[hW,heap_alloc_old _ _ (by rw[World.size_alloc];omega)];exact World.alloc_heap_new w _
 obtain⟨i1,e1⟩:=i0.upd r0 (.raw (w.heap.size+1) (.loop rec)) (.pointer none) (g.ln r0) false (some (w.heap.size+1)) g.S W1 none (by rw[hW];exact⟨rfl,rfl,rfl,by simp only[World.size_alloc];omega⟩)
  (fun k hk _=>by rw[hW];exact heap_alloc_old _ _ hk) (fun b e=>by cases e) (fun _ _ h=>h) (fun _ _ h=>.inl h) (fun b o e=>by cases e) (fun b _ e=>by cases e;exact⟨by rw[oe];omega,.inr (by rw[og];exact Ao _)⟩) (fun e=>by cases e) (fun hu=>absurd Wj hu) (fun _ _=>by
   obtain⟨_,_,u3,u4⟩:=BM g r0 (.pointer none) (g.ln r0) false (some (w.heap.size+1)) g.S;exact⟨u3,u4,hl,by rw[Um];exact jw,fun o hs=>by have:=i0.slt _ _ hs;rw[og]at this;omega⟩)
 generalize gv:g.upd r0 (.pointer none) (g.ln r0) false (some (w.heap.size+1)) g.S=g2 at i1 e1;have eh1:AW (Af H0 Aa) r0 (.raw (w.heap.size+1) (.loop rec))=Af ((r0,.raw (w.heap.size+1) (.loop rec))::H0) Aa:=rfl;rw[eh1]at i1 e1;have S1:=s0.trans (VP.of_inv i1 e1 (by rw[og];omega));have i2:=i1.base;have NK:∀b ob,W1.heap[b]?=some ob→Ue ob=true→∀r,((Af ((r0,.raw (w.heap.size+1) (.loop rec))::H0) Aa) r).live→g2.own r≠some b:=fun b ob hb hd r hr e=>KN (i2.objs r) hr e hb hd;have hit:=vI (w.heap.size+1) w.heap.size f' a.tmps hN;rw[←Um]at hit
 refine⟨w.heap.size+1,[{ target:=.collected w.heap.size,args:=#[] }],W1,{ target:=.fn (.func gf) lb,args:=#[.func (.yield (w.heap.size+1)) #[] #[]] },W1,gf,
  #[.func (.yield (w.heap.size+1)) #[] #[]]++lb,W1,?_,?_,fun _ _=>trivial,?_,fun e=>(by cases e),?_⟩
 ·rw[hW,Um];exact run_enterLoop_outer _ _ _ _ _
 ·simp only[resolve,Xz];simp[go_sem]
 ·simp only[invoke];rw[F4 hit.1]
 refine callsIn_wide.2 ((hit.2 g2 W1 _ (by simp[Ed];omega) (fun i av x e1 e2=>?_) i2 (fun h' g' w' q1 q2=>?_)).mono ?_)
 ·cases i with
  |zero =>
   simp only[Bj,Br]at e1;rw[EZ]at e2
   have:x=.func (.yield (w.heap.size+1)) #[] #[]:=(Ch e2).symm
   subst e1;subst this;exact .v _ _
  |succ i =>
   have e2:lb[i]?=some x:=by rw[←e2,EZ];simp
   exact(M3 i av x (by simpa using e1) e2).le S1.le
 ·obtain⟨_,_,j2⟩:=I0 zx.1 (zx.2 _) q1 q2;exact fun i=>((Gx i).le S1.le).mono j2.keeps (fun _ h=>h) j2.gh
 rintro e w2 ⟨v,r,h',g3,rfl,⟨b,rfl⟩,_,q3,q4⟩
 have Zn:=TL q3 (U2 _ _ _);have vC:w2.heap[w.heap.size]?=some (.deferred (some [])):=(q3.frame _ (by omega) (NK _ _ hD rfl)).trans hD;have wA:(TM f' a.tmps ps Em body w.heap.size Pm b).state≠.busy:=by cases b<;>(intro e;cases e)
 obtain⟨g4,i4,s4⟩:=RK q3 (U2 _ _ _) (ob':=.loop { TM f' a.tmps ps Em body w.heap.size Pm b with state:=.exhausted }) (by cases b<;>exact jw)
 rw[cp]at i4 s4;generalize hex:HO.raw (w.heap.size+1) (.loop { TM f' a.tmps ps Em body w.heap.size Pm b with state:=.exhausted })=ex at i4 s4;have S4:=S1.trans (VP.of_inv i4 (q4.trans s4) (by rw[oe];omega));have Dd:=run_endLoop (P:=P) Zn wA;generalize hW4:w2.putObj (w.heap.size+1) (.loop { TM f' a.tmps ps Em body w.heap.size Pm b with state:=.exhausted })=w4 at i4 s4 S4 Dd;have nF:w4.heap[w.heap.size]?=some (.deferred (some [])):=by rw[←hW4,World.putObj_heap_other (by omega)];exact vC
 have i5:=i4.base;have hE:Im cx (Af ((r0,ex)::Hn) Aa):=by unfold Im;rw[hx];exact fun i hi=>⟨(E2 (rZ ex) i hi).1,(E2 (rZ ex) i hi).2.1⟩
 have vP:SR N [{ target:=.collected w.heap.size,args:=#[] }] w4 g4 (Af ((r0,ex)::Hn) Aa) ⟨env,Af ((r0,ex)::Hn) Aa⟩ g4 { a with defers:=[{ target:=.collected w.heap.size,args:=#[] }]++a.defers } w4 :=
  ⟨i5,.refl _ _ _,by simp[ha],hN,fun i=>(Gx i).le S4.le⟩
 have main:rest.wpIn (Ja none) 0 P (bodyPostM (Ja none) 0 P fn R) { a with defers:=[{ target:=.collected w.heap.size,args:=#[] }]++a.defers } w4:=by
  refine J8 hP hT hm hE (fun l σ _ _ w _ _ _=>hY l σ _ w) none rest hcr (fun e o7 g5 a5 w5 hq Wc=>?_) vP (gF ex);have fin:dh cx o7 fn.results.toList Qv→LeavesInM (Ja none) 0 P fn a5.tmps R a5.defers .returning w5:=by
   intro hk;have qJ:w5.heap[w.heap.size]?=some (.deferred (some [])):=(Wc.inv.frame _ (Bn.1 nF).1 (fun r hr e=>KN (i5.objs r) hr e nF rfl)).trans nF;rw[Wc.dfs];refine⟨by simp,.inl ⟨w.heap.size,_,rfl,run_takeDeferred qJ,?_⟩⟩;obtain⟨i6,s6⟩:=Wc.inv.base.put (n0:=w.heap.size) (x:=w.heap.size) (o':=.deferred none) qJ rfl rfl (.inr rfl);have vQ:SR N [{ target:=.collected w.heap.size,args:=#[] }] (w5.putObj w.heap.size (.deferred none)) g5 o7.h o7 g5 a5 (w5.putObj w.heap.size (.deferred none)):=⟨i6,.refl _ _ _,Wc.dfs,Wc.size,fun i=>(Wc.slots i).le s6.le⟩;obtain⟨g7,r,v,h7,k1,k2,k3,k4,k5⟩:=Wy hT vQ hk;have S7:=((S4.trans (VP.of_inv Wc.inv Wc.le (Bu (Ao _) S4.size))).trans s6).trans (VP.of_inv k3 k4 (Bu (Ao _) ((S4.trans (VP.of_inv Wc.inv Wc.le (Bu (Ao _) S4.size))).trans s6).size));exact⟨v,k2,hR v r h7 g7 _ k1 k5 (k3.base.of_seg S7 fun h=>absurd h (Nat.lt_irrefl _)) S7.le⟩
  cases e with
  |normal=>exact fin hq
  |ret=>exact fin hq
  |exit id=>exact hq.elim
 refine⟨_,w4,Dd,?_⟩;cases b with
 |true=>exact main
 |false =>
  refine wpIn_exit ?_;show Exit.inBlock Pm _ (.exit Pm) _ _;simp only[Exit.inBlock,NM];exact main
def yv(r0:Nat)(PB:Cx)(P:Program)(N:Nat)(fn:Func)(res:AV)(b rest:Code)(st:St):Prop :=
 ∃(σF σ:Hq) (H0 Hn:List (Nat×HO)) (Pm s:Nat) (ps:Array Tmp) (Em body:Code) (gf:Nat) (caps:List AV),
  b=.block Pm (.rangeFunc (.tmp s) ps Em body)∧(D4 σF&&DA st.h 0 0&&Dj σF 0 0)=true∧Fc σF st.h=Af H0 Aa∧Af H0 Aa r0=.free∧(∀o,(ES σ&&FD σ ((r0,o)::H0))=true)∧(∀o,FD σ ((r0,o)::Hn)=true) ∧
  ren (Cn σF) st.h (st.t s)=.clo gf caps ∧
  (∀(l D:Nat) (f' : FuncId) (tm:Array Value),tm.size=N→M9 P (fun g w=>∀i,BI g w (AM (Af ((r0,.raw l (.loop (Fb f' tm ps Em body D .ready)))::H0) Aa)) (ren (Cn σF) st.h (st.t i)) (tm.getD i undef)) σ gf
   (.v (.func (.yield l) #[] #[])::caps) (Af ((r0,.raw l (.loop (Fb f' tm ps Em body D .ready)))::H0) Aa) fun _ h'=>∃b,h'=Af ((r0,.raw l (.loop (TM f' tm ps Em body D Pm b)))::Hn) Aa) ∧
  DF N rest=true∧LP [] body=true∧(∀o,MD PB rest (Y7 PB fn.results.toList fun r=>GU r res) ⟨fun i=>ren (Cn σF) st.h (st.t i),Af ((r0,o)::Hn) Aa⟩)
theorem dv (r0 : Nat) {f : Nat} {fn : Func} {c : Code} {args : List AV} {res : AV} (cx PB : Cx) (hP : cx.P = P) (hT : Cu P cx.T) (vM : PB.P = P) (vS : Cu P PB.T) (hm : P.follows .mixedOrders = true) (hx : cx.ext = false) (pJ : PB.ext = true) (hf : P.funcs[f]? = some fn) (hn : (fn.name == "runtime.NumGoroutine") = false)
  (hb:fn.body=some c) (hN:args.length≤fn.ntmps) (hc:DF fn.ntmps c=true) (n:Nat) (cq:∀g h,ren g h res=res∧strT h res=res)
  (hk:eO cx n c (Y7 cx fn.results.toList fun r=>GU r res) (yv r0 PB P fn.ntmps fn res) ⟨LR args,Aa⟩)
  (hY:∀l σ g w,cx.yp l σ g w:=by exact fun _ _ _ _=>trivial) (vU:∀l σ g w,PB.yp l σ g w:=by exact fun _ _ _ _=>trivial):LA P f args res:=by
 refine⟨⟨fn,hf,hn,by simp[hb]⟩,fun g w vals hs hv hI=>callsIn_wide.1 (callsIn_of_wp_marks (F:=Fence.wide) (n:=0) hf hb trivial ?_ rfl)⟩;have hU:AM Aa=Fj:=by funext i;unfold AM Fj Aa;simp
 have hS:SR fn.ntmps [] w g Aa ⟨LR args,Aa⟩ g { tmps:=vals++Array.replicate (fn.ntmps-vals.size) undef,defers:=[] } w:=by
  refine⟨hI,.refl _ _ _,rfl,by simp[hs];omega,fun i=>?_⟩
  have:=Ma (n:=fn.ntmps-vals.size) (args:=args) (vals:=vals.toList) (by simpa using hs) (fun i av x q1 q2=>hv i av x q1 (by simpa using q2)) i
  rw[Cw,←AO];rw[B7]at this;simpa using this
 refine aq hP hT hm (by unfold Im;rw[hx];exact fun _=>rfl) (fun l σ _ _ w _ _ _=>hY l σ _ w) (fun e st g' a w' Dy hk hS=>?_) (fun b rest st g' a w' hk hS=>?_) n c hc hS hk
 ·have out:dh cx st fn.results.toList (fun r=>GU r res)→LeavesInM (Ja none) 0 P fn a.tmps (fun e w'=>∃v r h' g',e=Ending.returned v∧(r=res∧h'=Aa)∧BI g' w' (AM h') r v∧Dx w g Aa h' g' w'∧Le Aa g w h' g' w') a.defers .returning w':=by
   intro hk;obtain⟨g2,r,v,h',q1,q2,q3,q4,q5⟩:=Wy hT hS hk;rw[hS.dfs];exact⟨v,q2,v,res,Aa,g2,rfl,⟨rfl,rfl⟩,by rw[hU];exact q1 _ _ _ _ q5,Dx.toFree (st:=⟨st.t,h'⟩) q3,⟨fun i hi=>absurd rfl hi,fun i hi=>absurd rfl hi,q4.keeps⟩⟩
  cases e with
  |normal=>exact absurd rfl Dy
  |ret=>exact out hk
  |exit id=>exact hk.elim
 ·obtain⟨σF,σ,H0,Hn,Pm,s,ps,Em,body,gf,caps,rfl,k1,k2,k0,k3,k4,k5,k6,k7,k9,k8⟩:=hk;have w8:D4 σF=true:=by simp only[Ag]at k1;exact k1.1.1
  obtain⟨nI,qK⟩:=SJ hS.inv w8;rw[k2]at qK;have Gx:∀i,BI (CO σF g') w' (AM (Af H0 Aa)) (ren (Cn σF) st.h (st.t i)) (a.tmps.getD i undef):=fun i=>by
   have:=(hS.slots i).ren nI
   rwa [k2]at this
  refine Kx (Q:=fun r h'=>r=res) (C:=fun R'=>(∀e Qu,R' e Qu→(∃v r h' g',e=Ending.returned v∧(r=res∧h'=Aa)∧BI g' Qu (AM h') r v∧Dx w g Aa h' g' Qu∧Le Aa g w h' g' Qu)) →
   (Code.block Pm (.rangeFunc (.tmp s) ps Em body)).wpIn (Ja none) 0 P (Exit.then (rest.wpIn (Ja none) 0 P (bodyPostM (Ja none) 0 P fn (fun e Qu=>∃v r h' g',e=Ending.returned v∧(r=res∧h'=Aa)∧BI g' Qu (AM h') r v∧Dx w g Aa h' g' Qu∧Le Aa g w h' g' Qu))) (bodyPostM (Ja none) 0 P fn (fun e Qu=>∃v r h' g',e=Ending.returned v∧(r=res∧h'=Aa)∧BI g' Qu (AM h') r v∧Dx w g Aa h' g' Qu∧Le Aa g w h' g' Qu))) a w')
   (fun h k h2=>h fun e w r=>h2 _ _ (k _ _ r)) hS.inv (d:=0) (nn:=0) k1 (fun _ XL=>?_) (fun v r h' g2 w2 q1 q2 q3 q4=>?_) (fun _ _ h=>h)
  ·rw[k2]at XL;exact oT r0 PB vM vS hm pJ k0 k3 k4 k5 k6 k7 k9 k8 vU hS.dfs hS.size qK Gx fun v r h' g5 w5 q1 q2 q3 q4=>XL _ _ ⟨v,res,h',g5,rfl,rfl,(q1 _ _ _ _ q2).up _,q3,q4⟩
  ·subst q1;rw[(cq _ _).1]at q4;have q5:=BI.strT q2.objs q4;rw[(cq (fun _=>none) _).2]at q5;exact⟨v,r,Aa,g2,rfl,⟨rfl,rfl⟩,by rw[hU];exact q5,Dx.toFree (st:=⟨st.t,_⟩) q2,⟨fun i hi=>absurd rfl hi,fun i hi=>absurd rfl hi,(hS.le.trans q3).keeps⟩⟩
theorem iQ{H:List (Nat×HO)}{σ:Hq}(hσ:(ES σ&&FD σ H)=true){U:Nat→Prop}(hU:∀i,U i→AM (Af H Aa) i){tm:Array Value}{env:Nat→AV} :
  ∀g w h' g' w',Dx w g (Af H Aa) (Af H Aa) g w→Dx w g (Af H Aa) h' g' w'→Le (Af H Aa) g w h' g' w' →
   (∀i,BI g w U (env i) (tm.getD i undef))→∀i,BI (CO σ g') w' U (env i) (tm.getD i undef):=by
 intro g w h' g' w' _ q1 q2 Gx;simp only[Ag]at hσ;obtain⟨_,_,j2⟩:=I0 hσ.1 hσ.2 q1 q2;exact fun i=>(Gx i).mono j2.keeps (fun _ h=>h) fun r hr=>j2.gh r (hU r hr)
end
end Go.Eng
