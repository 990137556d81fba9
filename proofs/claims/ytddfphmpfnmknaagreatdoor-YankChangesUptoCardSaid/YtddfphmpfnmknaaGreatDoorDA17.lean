/- Lemmas for the claims of this seat, without a condition: part 17 (EngZP, EngZQ, EngZS, EngZT, EngZU, EngZV, EngZW, EngZX). -/
import Derived.Test.YtddfphmpfnmknaaGreatDoorDA16
namespace Go.Eng
abbrev Ib(fn:FuncId)(tm:Array Value)(ps:Array Tmp)(GR body:Code)(D:Nat)(s:LoopState):Loop :=
 { state:=s,pending:=none,fn:=fn,tmps:=tm,params:=ps,assign:=GR,body:=body,defers:=D }
def km:List Nat→List AV→(Nat→AV)→Nat→AV
 |p::ps,v::vs,e=>km ps vs (Hh e p v)
 |_,_,e=>e
section
variable {P:Program}{N:Nat}{w:World}{g:Gh}
theorem XO{U:Nat→Prop}:∀{ps:List Nat} {args:List AV} {vals:List Value} {tm:Array Value} {env:Nat→AV},vals.length=args.length→args.length=ps.length→(∀p∈ps,p<tm.size) →
  (∀(i:Nat) (av:AV) (x:Value),args[i]?=some av→vals[i]?=some x→BH g w U av x)→(∀i,BH g w U (env i) (tm.getD i undef)) →
  ((ps.zip vals).foldl (fun t p=>t.setIfInBounds p.1 p.2) tm).size=tm.size∧∀i,BH g w U (km ps args env i) (((ps.zip vals).foldl (fun t p=>t.setIfInBounds p.1 p.2) tm).getD i undef)
 | [],args,vals,tm,env,_,h2,_,_,he=>by
  have:args=[]:=AL h2
  subst this;exact⟨rfl,he⟩
 |p::ps,[],vals,tm,env,_,h2,_,_,_=>by cases h2
 |p::ps,a::args,[],tm,env,h1,_,_,_,_=>by cases h1
 |p::ps,a::args,v::vals,tm,env,h1,h2,h3,h4,he=>by
  have hp:=h3 p (Ab ..)
  obtain⟨q1,q2⟩:=XO (ps:=ps) (args:=args) (vals:=vals) (tm:=tm.setIfInBounds p v) (env:=Hh env p a) (by simpa using h1) (by simpa using h2) (fun q hq=>by simpa using h3 q (Ai _ hq))
   (fun i av x e1 e2=>h4 (i+1) av x (by simpa using e1) (by simpa using e2)) (fun i=>by
    by_cases e:i=p
    ·subst e;have e1:Hh env i a i=a:=by simp[Hh]
     have e2:(tm.setIfInBounds i v).getD i undef=v:=by simp[Array.getD_eq_getD_getElem?,hp]
     rw[e1,e2];exact h4 0 a v rfl rfl
    ·have e1:Hh env p a i=env i:=by simp only[Hh,CM e,Ew]
     have e2:(tm.setIfInBounds p v).getD i undef=tm.getD i undef:=by
      simp[Array.getD_eq_getD_getElem?,Array.getElem?_setIfInBounds_ne (Ne.symm e)]
     rw[e1,e2];exact he i)
  exact⟨by simpa using q1,q2⟩
def Xn(P:Program)(Y:Gh→World→Prop)(σ:I7)(f:Nat)(args:List AV)(h0:Nat→HO)(Q:AV→(Nat→HO)→Prop):Prop :=
 Gk P f∧∀(g:Gh) (w:World) (vals:Array Value),vals.size=args.length→(∀(i:Nat) (av:AV) (x:Value),args[i]?=some av→vals[i]?=some x→BH g w (AT h0) av x) →
  DK w g h0 h0 g w→(∀h' g' w',DK w g h0 h' g' w'→Le h0 g w h' g' w'→Y (Dz σ g') w') →
  Calls P f vals w fun e w'=>∃v r h' g',e=.returned v∧Q r h'∧BH g' w' (AT h') r v∧DK w g h0 h' g' w'∧Le h0 g w h' g' w'
theorem gR{Y:Gh→World→Prop}{l:Nat}{f:Nat}{fn:Func}{c:Code}{args:List AV}{H0:List (Nat×HO)}{Q:AV→(Nat→HO)→Prop}(cx:Cx)(σ:I7)(hP:cx.P=P)(hT:Cz P cx.T)(hm:P.follows .mixedOrders=true)(hx:cx.ext=true)(hf:P.funcs[f]?=some fn)
  (hn : (fn.name == "runtime.NumGoroutine") = false) (hb : fn.body = some c) (hN : args.length ≤ fn.ntmps) (hc : ED fn.ntmps c = true) (hσ : (GW σ && IE σ H0) = true)
  (hy:cx.yp=fun l' σ' g w=>l'=l→σ'=σ→Y g w)
  (hk:RF cx c (XL cx fn.results.toList σ Q) ⟨OK args,Ak H0 Aa⟩):Xn P Y σ f args (Ak H0 Aa) Q :=
 ⟨⟨fn,hf,hn,by simp[hb]⟩,fun g w vals hs hv hI hp=>XZ cx σ hP hT hm hx hf hn hb hN hc hσ hk hs hv hI fun l' σ' h' g' w' _ q1 q2=>by
  rw[hy];intro _ e;subst e;exact hp h' g' w' q1 q2⟩
end
def jX(cx:Cx):Nat→Code→(Ex→St→Prop)→(Code→Code→St→Prop)→St→Prop
 |0,.seq (.seq a b) d,Q,K,st=>RF cx a (fun e El=>match e with |.normal=>K b d El |e=>Q e El) st
 |0,.seq b d,_,K,st=>K b d st
 |n+1,.seq a b,Q,K,st=>RF cx a (fun e El=>match e with |.normal=>jX cx n b Q K El |e=>Q e El) st
 |_,_,_,_,_=>False
section
variable {P:Program}{N:Nat}{ds:List Deferred}{w0:World}{g0:Gh}{h0:Nat→HO}{st:St}{g:Gh}{a:Act}{w:World}
theorem jY{cx:Cx}(hP:cx.P=P)(hT:Cz P cx.T)(hm:P.follows .mixedOrders=true)(hE:Lu cx h0)(hY:∀l σ h g w,Ev σ=true→DK w0 g0 h0 h g w→Le h0 g0 w0 h g w→cx.yp l σ (Dz σ g) w)
  {Qa:Ex→St→Prop} {K:Code→Code→St→Prop} {Q:Exit→Act→World→Prop} (hQ:∀e st g a w,e≠.normal→Qa e st→SR N ds w0 g0 h0 st g a w→Q e.real a w)
  (hK:∀b d st g a w,K b d st→SR N ds w0 g0 h0 st g a w→b.wpIn (JQ none) 0 P (Exit.then (d.wpIn (JQ none) 0 P Q) Q) a w) :
  ∀(n:Nat) (c:Code),ED N c=true→∀{st:St} {g:Gh} {a:Act} {w:World},SR N ds w0 g0 h0 st g a w→jX cx n c Qa K st→c.wpIn (JQ none) 0 P Q a w:=by
 intro n
 induction n with
 |zero =>
  intro c hc st g a w hS hk;cases c with
  |seq y d =>
   simp only[ED,Ah]at hc;cases y with
   |seq x b =>
    have hk:RF cx x (fun e El=>match e with | .normal=>K b d El | e=>Qa e El) st:=hk;simp only[ED,Ah]at hc;refine wpIn_seq (wpIn_seq (NH hP hT hm hE hY none x hc.1.1 (Qa:=fun e El=>match e with | .normal=>K b d El | e=>Qa e El) (fun e st g a w q hS=>?_) hS hk));cases e with
    |normal=>exact hK b d _ _ _ _ q hS
    |exit id=>exact hQ (.exit id) _ _ _ _ (fun e=>by cases e) q hS
    |ret=>exact hQ .ret _ _ _ _ (fun e=>by cases e) q hS
   |_=>exact wpIn_seq (hK _ d _ _ _ _ hk hS)
  |_=>exact hk.elim
 |succ n ih =>
  intro c hc st g a w hS hk;cases c with
  |seq x y =>
   simp only[ED,Ah]at hc;refine wpIn_seq (NH hP hT hm hE hY none x hc.1 (Qa:=fun e El=>match e with | .normal=>jX cx n y Qa K El | e=>Qa e El) (fun e st g a w q hS=>?_) hS hk);cases e with
   |normal=>exact ih y hc.2 hS q
   |exit id=>exact hQ (.exit id) _ _ _ _ (fun e=>by cases e) q hS
   |ret=>exact hQ .ret _ _ _ _ (fun e=>by cases e) q hS
  |_=>exact hk.elim
end
section
variable {P:Program}{N:Nat}{ds:List Deferred}{w0:World}{g0:Gh}{h0:Nat→HO}{st:St}{g:Gh}{a:Act}{w:World}
theorem SR.rebase{w1:World}{g1:Gh}{h1:Nat→HO}(hS:SR N ds w0 g0 h0 st g a w)(hI:DK w1 g1 h1 st.h g w)(hL:Le h1 g1 w1 st.h g w):SR N ds w1 g1 h1 st g a w:=⟨hI,hL,hS.dfs,hS.size,hS.slots⟩
theorem bo{cx:Cx}(hT:Cz P cx.T){H0:List (Nat×HO)}{σ:I7}(hσ:GW σ=true)(mL:IE σ H0=true){fn:Func}{Q:AV→(Nat→HO)→Prop}(hS:SR N ds w0 g0 (Ak H0 Aa) st g a w)(hk:du cx st fn.results.toList σ Q) :
  ∃v,(results fn a.tmps).run P w=.ok v w∧∃r h' g',Q r h'∧BH g' w (AT h') r v∧DK w0 g0 (Ak H0 Aa) h' g' w∧Le (Ak H0 Aa) g0 w0 h' g' w:=by
 obtain⟨g2,i1,i2⟩:=MM cx.pl.fin hS.inv;have Tj : SR N ds w0 g0 (Ak H0 Aa) ⟨st.t,OY st.h cx.pl.fin⟩ g2 a w:=⟨i1,hS.le.trans i2,hS.dfs,hS.size,fun i=>(hS.slots i).le i2⟩;obtain⟨l,vs,h1,h2,h3,h4,h5⟩:=Sh hT Tj _ hk;obtain⟨hR,j1,j2⟩:=OM hσ mL i1 Tj.le;have CP:(results fn a.tmps).run P w=.ok (if h:vs.toArray.size=1 then vs.toArray[0]else .tuple vs.toArray) w:=by
  rw[Ob,show fn.results=fn.results.toList.toArray by simp,List.mapM_toArray];simp only[Sem.run_bind,Sem.run_map,h2,Result.andThen_ok,Sem.run_pure]
 match l,vs,h1,h3,h5,CP with
 | [v],[x],h1,h3,h5,CP=>exact⟨x,by simpa using CP,_,_,_,h1,(h5 0 v x rfl rfl).ren hR,j1,j2⟩
 | [],vs,h1,h3,h5,CP =>
  have:vs=[]:=AL h3
  subst this;exact⟨.tuple #[],by simpa using CP,_,_,_,h1,BH.ren hR (.tup _ [] _ rfl fun i av x q=>by simp at q),j1,j2⟩
 |v::v' :: l,vs,h1,h3,h5,CP =>
  refine⟨.tuple vs.toArray,?_,_,_,_,h1,BH.ren hR (.tup _ _ _ (by simpa using h3) fun i av x q1 q2=>h5 i av x q1 (by simpa using q2)),j1,j2⟩;rw[CP]
  have:vs.toArray.size≠1:=by simp[h3]
  simp only[this,dif_neg,not_false_eq_true]
theorem pk{fn:Func}{mh s:Nat}{ps:Array Tmp}{GR body rest:Code}(cx:Cx)(hP:cx.P=P)(hT:Cz P cx.T)(hm:P.follows .mixedOrders=true)(hx:cx.ext=true){σ:I7}{H0 Hn:List (Nat×HO)}(hσ:(GW σ&&IE σ H0)=true)(hσn:IE σ Hn=true)
  {env:Nat→AV} {gf:Nat} {caps:List AV} (hF:env s=.clo gf caps) {Qv:AV→(Nat→HO)→Prop}
  (hIT:∀(l D:Nat) (f' : FuncId) (tm:Array Value),tm.size=N→Xn P (fun g w=>w.heap[l]?=some (.loop (Ib f' tm ps GR body D .ready))∧∀i,BH g w (AT (Ak H0 Aa)) (env i) (tm.getD i undef)) σ gf
   (.v (.func (.yield l) #[] #[])::caps) (Ak H0 Aa) fun _ h'=>h'=Ak Hn Aa)
  (hcr:ED N rest=true) (wH:OB [] body=false) (se:RF cx rest (XL cx fn.results.toList σ Qv) ⟨env,Ak Hn Aa⟩) (hY:∀l σ g w,cx.yp l σ g w)
  {a:Act} (ha:a.defers=[]) (hN:a.tmps.size=N) (hI:DK w g (Ak H0 Aa) (Ak H0 Aa) g w) (NU:∀i,BH g w (AT (Ak H0 Aa)) (env i) (a.tmps.getD i undef))
  {R:Ending→World→Prop} (hR:∀v r h' g' w',Qv r h'→BH g' w' (AT h') r v→DK w g (Ak H0 Aa) h' g' w'→Le (Ak H0 Aa) g w h' g' w'→R (.returned v) w') :
  (Code.block mh (.rangeFunc (.tmp s) ps GR body)).wpIn (JQ none) 0 P (Exit.then (rest.wpIn (JQ none) 0 P (bodyPostM (JQ none) 0 P fn R)) (bodyPostM (JQ none) 0 P fn R)) a w:=by
 simp only[Ah]at hσ;have hdl:∀f' tm D s,Wx (.loop (Ib f' tm ps GR body D s))=true:=fun _ _ _ _=>by show(!OB [] body)=true;rw[wH];rfl
 refine wpIn_block (wpIn_rangeFunc fun f' _=>?_);have hs:=NU s;rw[hF]at hs;have mz:a.eval (.tmp s)=a.tmps.getD s undef:=rfl;generalize hfv:a.tmps.getD s undef=fv at hs mz;cases hs with
 |clo _ _ _ lb Eh O0 =>
 obtain⟨i0,s0⟩:=hI.allocS (n0:=w.heap.size) (x:=w.heap.size) (.deferred (some [])) (Al _);obtain⟨i1,s1⟩:=i0.allocS (n0:=w.heap.size) (x:=w.heap.size) (.loop (Ib f' a.tmps ps GR body w.heap.size .ready)) (by rw[World.size_alloc];omega);generalize hW:(w.alloc (.deferred (some []))).alloc (.loop (Ib f' a.tmps ps GR body w.heap.size .ready))=W1 at i1 s1;have AbP:W1.heap.size=w.heap.size+2:=by rw[←hW,World.size_alloc,World.size_alloc]
 have hl:W1.heap[w.heap.size+1]?=some (.loop (Ib f' a.tmps ps GR body w.heap.size .ready)):=by
  rw[←hW]
  have:=World.alloc_heap_new (w.alloc (.deferred (some []))) (.loop (Ib f' a.tmps ps GR body w.heap.size .ready))
  rwa [World.size_alloc]at this
 have hD:W1.heap[w.heap.size]?=some (.deferred (some [])):=by
  rw[←hW,heap_alloc_old _ _ (by rw[World.size_alloc];omega)];exact World.alloc_heap_new w _
 have RL:∀b ob,W1.heap[b]?=some ob→Wx ob=true→∀r,((Ak H0 Aa) r).live→g.own r≠some b:=fun b ob hb hd r hr e=>Pm (i1.objs r) hr e hb hd;have S1:=s0.trans s1;have hit:=hIT (w.heap.size+1) w.heap.size f' a.tmps hN
 refine⟨w.heap.size+1,[{ target:=.collected w.heap.size,args:=#[] }],W1,{ target:=.fn (.func gf) lb,args:=#[.func (.yield (w.heap.size+1)) #[] #[]] },W1,gf,
  #[.func (.yield (w.heap.size+1)) #[] #[]]++lb,W1,?_,?_,fun _ _=>trivial,?_,fun e=>(by cases e),?_⟩
 ·rw[←hW];exact run_enterLoop_outer _ _ _ _ _
 ·simp only[resolve,mz];simp[go_sem]
 ·simp only[invoke];rw[GP hit.1]
 refine callsIn_wide.2 ((hit.2 g W1 _ (by simp[Eh];omega) (fun i av x e1 e2=>?_) i1 (fun h' g' w' q1 q2=>?_)).mono ?_)
 ·cases i with
  |zero =>
   simp only[A8,Bo]at e1;rw[H7]at e2
   have:x=.func (.yield (w.heap.size+1)) #[] #[]:=(Ca e2).symm
   subst e1;subst this;exact .v _ _
  |succ i =>
   have e2:lb[i]?=some x:=by rw[←e2,H7];simp
   exact(O0 i av x (by simpa using e1) e2).le S1.le
 ·obtain⟨_,_,j2⟩:=OM hσ.1 hσ.2 q1 q2;refine⟨(q1.frame _ (by omega) (RL _ _ hl (hdl _ _ _ _))).trans hl,fun i=>?_⟩;exact((NU i).le S1.le).mono j2.keeps (fun _ h=>h) j2.gh
 rintro e w2 ⟨v,r,h',g2,rfl,rfl,_,q3,q4⟩
 have cE:w2.heap[w.heap.size+1]?=some (.loop (Ib f' a.tmps ps GR body w.heap.size .ready)):=(q3.frame _ (by omega) (RL _ _ hl (hdl _ _ _ _))).trans hl;have hD2:w2.heap[w.heap.size]?=some (.deferred (some [])):=(q3.frame _ (by omega) (RL _ _ hD rfl)).trans hD;refine⟨none,_,run_endLoop cE (fun e=>by cases e),?_⟩;obtain⟨i4,s4⟩:=q3.base.put (n0:=w.heap.size) (x:=w.heap.size) (o':=.loop { Ib f' a.tmps ps GR body w.heap.size .ready with state:=.exhausted }) cE (hdl _ _ _ _) (hdl f' a.tmps w.heap.size .exhausted) (.inl (by omega));have S4:=(S1.trans (ay.of_inv q3 q4 (by omega))).trans s4;generalize hW4:w2.putObj (w.heap.size+1) (.loop { Ib f' a.tmps ps GR body w.heap.size .ready with state:=.exhausted })=w4 at i4 s4 S4;have wo:w4.heap[w.heap.size]?=some (.deferred (some [])):=by rw[←hW4,World.putObj_heap_other (by omega)];exact hD2
 have hE:Lu cx (Ak Hn Aa):=by unfold Lu;rw[hx];exact fun i hi=>⟨(GE hσn i hi).1,(GE hσn i hi).2.1⟩
 have hS4:SR N [{ target:=.collected w.heap.size,args:=#[] }] w4 g2 (Ak Hn Aa) ⟨env,Ak Hn Aa⟩ g2 { a with defers:=[{ target:=.collected w.heap.size,args:=#[] }]++a.defers } w4 :=
  ⟨i4,.refl _ _ _,by simp[ha],hN,fun i=>(NU i).le S4.le⟩
 refine NH hP hT hm hE (fun l σ _ _ w _ _ _=>hY l σ _ w) none rest hcr (fun e yJ g5 a5 w5 hq mu=>?_) hS4 se;have fin:du cx yJ fn.results.toList σ Qv→LeavesInM (JQ none) 0 P fn a5.tmps R a5.defers .returning w5:=by
  intro hk;have zo:w5.heap[w.heap.size]?=some (.deferred (some [])):=(mu.inv.frame _ (Bw.1 wo).1 (fun r hr e=>Pm (i4.objs r) hr e wo rfl)).trans wo;rw[mu.dfs];refine⟨by simp,.inl ⟨w.heap.size,_,rfl,run_takeDeferred zo,?_⟩⟩;obtain⟨i6,s6⟩:=mu.inv.base.put (n0:=w.heap.size) (x:=w.heap.size) (o':=.deferred none) zo rfl rfl (.inr rfl);have hS6:SR N [{ target:=.collected w.heap.size,args:=#[] }] (w5.putObj w.heap.size (.deferred none)) g5 yJ.h yJ g5 a5 (w5.putObj w.heap.size (.deferred none)):=⟨i6,.refl _ _ _,mu.dfs,mu.size,fun i=>(mu.slots i).le s6.le⟩;have S6:=(S4.trans (ay.of_inv mu.inv mu.le (Bx (Al _) S4.size))).trans s6;obtain⟨v,k2,r,h7,g7,k1,k5,k3,k4⟩:=bo (H0:=H0) hT hσ.1 hσ.2 (SR.rebase hS6 (i6.of_seg S6 fun h=>absurd h (Nat.lt_irrefl _)) S6.le) hk;exact⟨v,k2,hR v r h7 g7 _ k1 k5 k3 k4⟩
 cases e with
 |normal=>exact fin hq
 |ret=>exact fin hq
 |exit id=>exact hq.elim
end
section
variable {P:Program}{N:Nat}{w:World}{g:Gh}
theorem dU(o k r:Nat){H:List (Nat×HO)}(cx:Cx)(hP:cx.P=P)(hT:Cz P cx.T)(hm:P.follows .mixedOrders=true)(hx:cx.ext=true){σ:I7}(hσ:(GW σ&&IE σ H)=true){fn:FuncId}{tm:Array Value}{ps:Array Tmp}{GR body:Code}{D l:Nat}
  {env:Nat→AV} {args:List AV} {U:Nat→Prop} {Q:AV→(Nat→HO)→Prop} (xj:args.length=ps.toList.length) (hN:tm.size=N) (hpN:(ps.toList.all fun p=>Nat.blt p N)=true) (hca:ED N GR=true) (wK:ED N body=true)
  (hU:∀i,U i→AT (Ak H Aa) i)
  (hk:RF cx GR (fun e st=>match e with | .normal=>RF cx body (fun e st=>match e with | .normal=>uA st.h o k r fun h'=>Q (.v (.bool true)) (FM σ (OY h' cx.pl.fin)) | _=>False) st | _=>False) ⟨km ps.toList args env,Ak H Aa⟩)
  (hY:∀l σ g w,cx.yp l σ g w:=by exact fun _ _ _ _=>trivial) (wH:OB [] body=false:=by kernel_rfl) :
  I0 P (fun g w=>w.heap[l]?=some (.loop (Ib fn tm ps GR body D .ready))∧∀i,BH g w U (env i) (tm.getD i undef)) l args (Ak H Aa) Q:=by
 simp only[Ah]at hσ;intro g w vals hs hv hI ⟨hl,NU⟩;have DB:l<w.heap.size:=(Bw.1 hl).1;have hdl:∀s,Wx (.loop (Ib fn tm ps GR body D s))=true:=fun s=>by show(!OB [] body)=true;rw[wH];rfl
 have hE:Lu cx (Ak H Aa):=by unfold Lu;rw[hx];exact fun i hi=>⟨(GE hσ.2 i hi).1,(GE hσ.2 i hi).2.1⟩
 have RL:∀r,((Ak H Aa) r).live→g.own r≠some l:=fun r hr e=>Pm (hI.objs r) hr e hl (hdl _);have mA:∀(t0:Array Value),(ps.zip vals).foldl (fun tmps (p:Nat×Value)=>tmps.setIfInBounds p.1 p.2) t0=(ps.toList.zip vals.toList).foldl (fun t p=>t.setIfInBounds p.1 p.2) t0:=fun t0=>by
  rw[←Array.foldl_toList,Array.toList_zip]
 have hry:=run_yield (P:=P) (args:=vals) hl (by simp only[hs,xj,B3]);refine⟨fn,_,GR,body,hry,roundIn_of_wpIn trivial ?_⟩;obtain⟨z1,z2⟩:=XO (U:=AT (Ak H Aa)) (ps:=ps.toList) (args:=args) (vals:=vals.toList) (tm:=tm) (env:=env) (by simpa using hs) xj (fun p hp=>by
  have:=(AY.1 hpN) p hp
  rw[hN];simpa using this) (fun i av x e1 e2=>hv i av x e1 (by simpa using e2)) (fun i=>(NU i).mono (.refl _ _) hU (.refl _ _))
 have hS0:SR N [] w g (Ak H Aa) ⟨km ps.toList args env,Ak H Aa⟩ g { tmps:=(ps.zip vals).foldl (fun tmps (p:Nat×Value)=>tmps.setIfInBounds p.1 p.2) tm,defers:=[] } w:=by
  refine⟨hI,.refl _ _ _,rfl,?_,fun i=>?_⟩
  ·rw[mA];exact z1.trans hN
  ·rw[mA];exact z2 i
 refine NH hP hT hm hE (fun l σ _ _ w _ _ _=>hY l σ _ w) (some l) GR hca (fun e st1 g1 a1 w1 hq gv=>?_) hS0 hk;cases e with
 |exit _=>exact hq.elim
 |ret=>exact hq.elim
 |normal =>
  have uh:w1.heap[l]?=some (.loop (Ib fn tm ps GR body D .ready)):=(gv.inv.frame l DB RL).trans hl;refine⟨_,run_beginRound uh rfl,?_⟩;obtain⟨iS,sS⟩:=hI.put (n0:=w.heap.size) (x:=l) (o':=.loop (Ib fn tm ps GR body D .busy)) hl (hdl _) (hdl _) (.inr rfl);have wY:(w.putObj l (.loop (Ib fn tm ps GR body D .busy))).heap[l]?=some (.loop (Ib fn tm ps GR body D .busy)):=World.putObj_heap_same DB;have kU:(w.putObj l (.loop (Ib fn tm ps GR body D .busy))).heap.size=w.heap.size:=by simp[World.putObj]
  obtain⟨_,sB⟩:=iS.dullS (w':=w) (n0:=w.heap.size) (x:=l) ⟨rfl,rfl,rfl⟩ (by rw[kU];exact Al _) (fun b _=>by
   by_cases e:b=l
   ·subst e;exact .inr ⟨_,_,wY,hl,hdl _,hdl _⟩
   ·exact .inl (World.putObj_heap_other e).symm) (fun b _ DF=>(World.putObj_heap_other DF).symm)
  obtain⟨i2,s2⟩:=gv.inv.base.put (n0:=w.heap.size) (x:=l) (o':=.loop (Ib fn tm ps GR body D .busy)) uh (hdl _) (hdl _) (.inr rfl);have S2:=(sB.trans (ay.of_inv gv.inv gv.le (Al _))).trans s2;have cE:(w1.putObj l (.loop (Ib fn tm ps GR body D .busy))).heap[l]?=some (.loop (Ib fn tm ps GR body D .busy)):=World.putObj_heap_same (Bw.1 uh).1;have hI2:=i2.of_seg (by rw[kU];exact S2) (fun _=>cE.trans wY.symm);have wy:SR N [] (w.putObj l (.loop (Ib fn tm ps GR body D .busy))) g (Ak H Aa) st1 g1 a1 (w1.putObj l (.loop (Ib fn tm ps GR body D .busy))):=⟨hI2,S2.le,gv.dfs,gv.size,fun i=>(gv.slots i).le s2.le⟩;refine NH hP hT hm hE (fun l σ _ _ w _ _ _=>hY l σ _ w) (some l) body wK (fun e st3 g3 a3 w3 hq rg=>?_) wy hq;cases e with
  |exit _=>exact hq.elim
  |ret=>exact hq.elim
  |normal =>
   obtain⟨h3,g3',rg,hq⟩:=jc rg hq;have rS:w3.heap[l]?=some (.loop (Ib fn tm ps GR body D .busy)):=(rg.inv.frame l (by rw[kU];exact DB) RL).trans wY;refine⟨.bool true,w3.putObj l (.loop (Ib fn tm ps GR body D .ready)),run_endRound none rS,?_⟩;obtain⟨gf,if1,if2⟩:=MM cx.pl.fin rg.inv;obtain⟨i4,s4⟩:=if1.base.put (n0:=w.heap.size) (x:=l) (o':=.loop (Ib fn tm ps GR body D .ready)) rS (hdl _) (hdl _) (.inr rfl);have S4:=(sS.trans (ay.of_inv if1 (rg.le.trans if2) (by rw[kU];exact Al _))).trans s4;have hl4:(w3.putObj l (.loop (Ib fn tm ps GR body D .ready))).heap[l]?=some (.loop (Ib fn tm ps GR body D .ready)):=World.putObj_heap_same (Bw.1 rS).1;have hI4:=i4.of_seg S4 (fun _=>hl4.trans hl.symm);obtain⟨_,j1,j2⟩:=OM hσ.1 hσ.2 hI4 S4.le;exact⟨.bool true,.v (.bool true),_,_,rfl,hq,.v _ _,j1,j2⟩
end
def qg(h:Nat→HO)(o k r sz:Nat)(K:(Nat→HO)→Prop):Prop :=
 match h o with
 |.cells cs=>match Jg cs k with
  |.v (.slice none 0 0)=>match h r with
   |.free=>K (A0 (A0 h r (.var sz 0 0)) o (.cells (EK cs k (.slice (.ver r sz 0) []))))
   |_=>False
  |_=>False
 |_=>False
section
variable {P:Program}{N:Nat}{ds:List Deferred}{w0:World}{g0:Gh}{h0:Nat→HO}{st:St}{g:Gh}{a:Act}{w:World}
theorem o7(hS:SR N ds w0 g0 h0 st g a w){o k r sz:Nat}{K:(Nat→HO)→Prop}(hk:qg st.h o k r sz K):∃h' g',SR N ds w0 g0 h0 ⟨st.t,h'⟩ g' a w∧K h':=by
 unfold qg at hk;split at hk
 ·rename_i cs e0;split at hk
  ·rename_i e1;split at hk
   ·rename_i hf;have jK:o≠r:=fun e=>by rw[e,hf]at e0;cases e0
    have Rf:=Jm cs k _ e1 (by simp)
    obtain⟨m1,m2⟩:=hS.inv.upd r (.var sz 0 0) (.slice none 0 0) 0 true none g.S w none ⟨rfl,rfl,rfl,Al _⟩ (fun _ _ _=>rfl) (fun b e=>by cases e) (fun _ _ h=>h) (fun _ _ h=>.inl h) (fun b o e=>by cases e) (fun b hh e=>by first | (cases e;done) | (exact absurd hh.2 (by simp))) (by simp)
     (fun hu=>absurd hf hu) (fun _ _=>by
      obtain⟨u1,u2,u3,u4⟩:=BD g r (.slice none 0 0) 0 true none g.S;exact⟨u3,u2,none,0,u1,.inl ⟨rfl,u4⟩⟩)
    generalize RY:g.upd r (.slice none 0 0) 0 true none g.S=g1 at m1 m2;have gr:g1.tk r=true∧g1.ln r=0∧g1.ρ r=.slice none 0 0:=by rw[←RY];simp[Gh.upd]
    have nR : (A0 st.h r (.var sz 0 0)) o=.cells cs:=by rw[BZ _ _ _ _ jK,e0]
    obtain⟨g3,p1,p2⟩:=OD m1 nR Rf (new:=.slice (.ver r sz 0) []) (fun y hy=>by
     cases hy
     exact .ver _ r sz 0 [] _ (.snil _ _ _) (fun c hc=>by cases hc) (by unfold AT;rw[Bd];simp) gr.1 (AD _) (fun _=>gr.2.2.symm))
    exact⟨_,g3,⟨p1,hS.le.trans (m2.trans p2),hS.dfs,hS.size,fun i=>(hS.slots i).le (m2.trans p2)⟩,hk⟩
   ·exact hk.elim
  ·exact hk.elim
 ·exact hk.elim
def uK(o k r sz:Nat)(cf:Cx)(P:Program)(N:Nat)(fn:Func)(σ:I7)(Q:AV→(Nat→HO)→Prop)(b rest:Code)(st:St):Prop :=
 qg st.h o k r sz fun h1 =>
  ∃(σF σr:I7) (H0 Hn:List (Nat×HO)) (mh s:Nat) (ps:Array Tmp) (GR body:Code) (gf:Nat) (caps:List AV),
  b=.block mh (.rangeFunc (.tmp s) ps GR body)∧(Ev σF&&DI h1 0 0&&Dv σF 0 0)=true∧FM σF h1=Ak H0 Aa∧(GW σr&&IE σr H0)=true∧IE σr Hn=true ∧
  ren (Cq σF) h1 (st.t s)=.clo gf caps ∧
  (∀(l D:Nat) (f' : FuncId) (tm:Array Value),tm.size=N→Xn P (fun g w=>w.heap[l]?=some (.loop (Ib f' tm ps GR body D .ready))∧∀i,BH g w (AT (Ak H0 Aa)) (ren (Cq σF) h1 (st.t i)) (tm.getD i undef)) σr gf
   (.v (.func (.yield l) #[] #[])::caps) (Ak H0 Aa) fun _ h'=>h'=Ak Hn Aa) ∧
  ED N rest=true∧OB [] body=false∧RF cf rest (XL cf fn.results.toList σr fun r h'=>Q (ren (Cq σ) (Ef σF 0 0 h1 h') (ren (Fj σF 0 0) h' r)) (FM σ (Ef σF 0 0 h1 h')))
   ⟨fun i=>ren (Cq σF) h1 (st.t i),Ak Hn Aa⟩
theorem bL (o k r sz : Nat) {f : Nat} {fn : Func} {c : Code} {args : List AV} {H : List (Nat × HO)} {Q : AV → (Nat → HO) → Prop} (cx cf : Cx) (σ : I7) (hP : cx.P = P) (hT : Cz P cx.T) (hP2 : cf.P = P) (hT2 : Cz P cf.T) (hm : P.follows .mixedOrders = true) (hx : cx.ext = true) (qc : cf.ext = true) (hf : P.funcs[f]? = some fn) (hn : (fn.name == "runtime.NumGoroutine") = false)
  (hb:fn.body=some c) (hN:args.length≤fn.ntmps) (hc:ED fn.ntmps c=true) (hσ:(GW σ&&IE σ H)=true) (n:Nat)
  (hk:jX cx n c (XL cx fn.results.toList σ fun r h'=>∃r',G1 r r'∧Q r' h') (uK o k r sz cf P fn.ntmps fn σ fun r h'=>∃r',G1 r r'∧Q r' h') ⟨OK args,Ak H Aa⟩)
  (hY:∀l σ g w,cx.yp l σ g w:=by exact fun _ _ _ _=>trivial) (hY2:∀l σ g w,cf.yp l σ g w:=by exact fun _ _ _ _=>trivial):A6 P f args (Ak H Aa) Q:=by
 refine A6.mono (Q:=fun r h'=>∃r',G1 r r'∧Q r' h') ?_ fun _ _ ⟨r',s,q⟩=>⟨r',s,q⟩;simp only[Ah]at hσ;refine⟨⟨fn,hf,hn,by simp[hb]⟩,fun g w vals hs hv hI=>callsIn_wide.1 (callsIn_of_wp_marks (F:=Fence.wide) (n:=0) hf hb trivial ?_ rfl)⟩;have hE:Lu cx (Ak H Aa):=by unfold Lu;rw[hx];exact fun i hi=>⟨(GE hσ.2 i hi).1,(GE hσ.2 i hi).2.1⟩
 have hS:SR fn.ntmps [] w g (Ak H Aa) ⟨OK args,Ak H Aa⟩ g { tmps:=vals++Array.replicate (fn.ntmps-vals.size) undef,defers:=[] } w:=by
  refine⟨hI,.refl _ _ _,rfl,by simp[hs];omega,fun i=>?_⟩
  have:=OL (n:=fn.ntmps-vals.size) (args:=args) (vals:=vals.toList) (by simpa using hs) (fun i av x q1 q2=>hv i av x q1 (by simpa using q2)) i
  rw[Cs,←AR];rw[BX]at this;simpa using this
 refine jY hP hT hm hE (fun l σ _ _ w _ _ _=>hY l σ _ w) (fun e st g' a w' DF hk hS=>?_) (fun b rest st g' a w' hk hS=>?_) n c hc hS hk
 ·have out:du cx st fn.results.toList σ (fun r h'=>∃r',G1 r r'∧Q r' h')→LeavesInM (JQ none) 0 P fn a.tmps (fun e w'=>∃v r h' g',e=Ending.returned v∧(∃r',G1 r r'∧Q r' h')∧BH g' w' (AT h') r v∧DK w g (Ak H Aa) h' g' w'∧Le (Ak H Aa) g w h' g' w') a.defers .returning w':=by
   intro hk;obtain⟨v,q2,r,h',g2,q1,q3,q4,q5⟩:=bo hT hσ.1 hσ.2 hS hk;rw[hS.dfs];exact⟨v,q2,v,r,h',g2,rfl,q1,q3,q4,q5⟩
  cases e with
  |normal=>exact absurd rfl DF
  |ret=>exact out hk
  |exit id=>exact hk.elim
 ·obtain⟨h1,g',hS,hk⟩:=o7 hS hk;obtain⟨σF,σr,H0,Hn,mh,s,ps,GR,body,gf,caps,rfl,k1,k2,k3,k4,k5,k6,k7,k9,k8⟩:=hk;have hσF:Ev σF=true:=by simp only[Ah]at k1;exact k1.1.1
  obtain⟨wx,t7⟩:=WI hS.inv hσF;rw[k2]at t7;have NU:∀i,BH (Dz σF g') w' (AT (Ak H0 Aa)) (ren (Cq σF) h1 (st.t i)) (a.tmps.getD i undef):=fun i=>by
   have:=(hS.slots i).ren wx
   rwa [k2]at this
  refine MH (Q:=fun r h'=>∃r',G1 (ren (Cq σ) (Ef σF 0 0 h1 h') (ren (Fj σF 0 0) h' r)) r'∧Q r' (FM σ (Ef σF 0 0 h1 h'))) (C:=fun R'=>(∀e bH,R' e bH→(∃v r h' g',e=Ending.returned v∧(∃r',G1 r r'∧Q r' h')∧BH g' bH (AT h') r v∧DK w g (Ak H Aa) h' g' bH∧Le (Ak H Aa) g w h' g' bH)) →
   (Code.block mh (.rangeFunc (.tmp s) ps GR body)).wpIn (JQ none) 0 P (Exit.then (rest.wpIn (JQ none) 0 P (bodyPostM (JQ none) 0 P fn (fun e bH=>∃v r h' g',e=Ending.returned v∧(∃r',G1 r r'∧Q r' h')∧BH g' bH (AT h') r v∧DK w g (Ak H Aa) h' g' bH∧Le (Ak H Aa) g w h' g' bH))) (bodyPostM (JQ none) 0 P fn (fun e bH=>∃v r h' g',e=Ending.returned v∧(∃r',G1 r r'∧Q r' h')∧BH g' bH (AT h') r v∧DK w g (Ak H Aa) h' g' bH∧Le (Ak H Aa) g w h' g' bH))) a w')
   (fun h k h2=>h fun e w r=>h2 _ _ (k _ _ r)) hS.inv (d:=0) (nn:=0) k1 (fun _ mF=>?_) (fun v r h' g2 w2 q1 q2 q3 q4=>?_) (fun _ _ h=>h)
  ·rw[k2]at mF;exact pk cf hP2 hT2 hm qc k3 k4 k5 k6 k7 k9 k8 hY2 hS.dfs hS.size t7 NU fun v r h' g5 w5 q1 q2 q3 q4=>mF _ _ ⟨v,r,h',g5,rfl,q1,q2,q3,q4⟩
  ·obtain⟨hR,j1,j2⟩:=OM hσ.1 hσ.2 q2 (hS.le.trans q3);exact⟨v,_,_,_,rfl,q1,q4.ren hR,j1,j2⟩
end
end Go.Eng
namespace Go.Eng
open Go.Sort
end Go.Eng
namespace Go.Eng
end Go.Eng
namespace Go.Eng
open Go.Proofs
variable {P:Program}
theorem Jq.lend{f:Nat}{sz:Nat}{es:List (List AV)}{vs:List Value}{x:Value}(hp:Jq P f [.agg (.slice .none es::vs.map .v)] (.v x)) :
  A6 P f [.agg (.msl 1000 es.length::vs.map .v)] (Ak [(1000,.arr sz es)] Aa) fun r h'=>r=.v x∧h'=Ak [(1000,.arr sz es)] Aa:=by
 refine⟨hp.1,fun g w us hs hv hI=>?_⟩;have ho:Ej g w (AT (Ak [(1000,.arr sz es)] Aa)) 1000 (.arr sz es):=hI.objs 1000;have hl:∀r,(Ak [(1000,HO.arr sz es)] Aa r).live→r=1000:=fun r hr=>by
  unfold Ak at hr;cases e:Nat.beq r 1000 with
  |true=>exact AM e
  |false=>rw[e]at hr;exact hr.elim
 obtain⟨t,rV,Eh,rz⟩:=ho
 match us,hs with
 | ⟨[u]⟩,_ =>
 have h0:=hv 0 _ u rfl rfl;generalize hU:AT (Ak [(1000,HO.arr sz es)] Aa)=U at h0;generalize hc:AV.msl 1000 es.length::vs.map AV.v=cs at h0;cases h0 with
 |agg _ _ us h1 h2 h3 =>
  subst hc;have Kr:0<us.size:=by rw[h1];simp
  have hm:=h3 0 _ us[0] rfl (Bs Kr);generalize hy:us[0]=y at hm;cases hm with
  |msl _ _ _ a cap q1 q2 q3 q4 q5 =>
   have hρ:=q5 rV.symm
   -- the ghost in which the array is stable
   obtain⟨S1,gv,wy,hR⟩:∃S1:Nat→Nat→Prop,(∀b o,g.S b o→S1 b o)∧(∀b o,S1 b o→b<w.heap.size)∧BH { g with S:=S1 } w Fy (.slice .none es) (.slice a es.length cap):=by
    rcases rz with ⟨e1,e2,e3⟩ | ⟨b,K8,E,xs,e1,e2,e3,e4,e5,e6,e7⟩
    ·subst e1;exact⟨g.S,fun _ _ h=>h,hI.slt,.snil _ _ _⟩
    ·rw[e1]at hρ;cases hρ;have hK:EO g w { g with S:=fun c o=>g.S c o∨c=b } w:=fun c o h=>⟨.inl h,rfl,fun _ _ h=>h⟩
     refine⟨fun c o=>g.S c o∨c=b,fun _ _ h=>.inl h,fun c o h=>h.elim (hI.slt c o) fun h=>?_,?_⟩
     ·subst h;exact(Bw.1 e4).1
     ·exact BH.slice_row e4 Eh e3 (e6.mono hK (fun _ h=>h) (fun _ h=>h.elim)) fun o _=>.inr rfl
   have hK:EO g w { g with S:=S1 } w:=fun c o h=>⟨gv _ _ h,rfl,fun _ _ h=>h⟩;have hA:BH { g with S:=S1 } w (AT Aa) (.agg (.slice .none es::vs.map .v)) (.agg us):=by
    refine .agg _ _ _ (by rw[h1];rfl) h2 fun i av z k1 k2=>?_
    match i,k1 with
    |0,k1 =>
     have:us[0]?=some us[0]:=Bs Kr
     rw[this]at k2;cases k2;cases k1;rw[hy];exact hR.up _
    |i+1,k1 =>
     have k3:=h3 (i+1) av z k1 k2
     have:∃q,av=.v q:=by
      have k1' : (vs.map AV.v)[i]?=some av:=k1;rw[AI,AU]at k1';exact k1'.imp fun _ h=>h.2.symm
     obtain⟨q,rfl⟩:=this;rw[k3.v_eq];exact .v _ _
   have t7:DK w { g with S:=S1 } Aa Aa { g with S:=S1 } w :=
    ⟨rfl,rfl,rfl,Al _,fun _ _ _=>rfl,wy,fun _=>trivial,fun _ _ _ h=>h.elim,fun _ _ h=>h.elim,fun _ _ h=>.inl h,hI.glob.keep hK⟩
   refine(hp.2 { g with S:=S1 } w ⟨[Value.agg us]⟩ rfl (fun i av z k1 k2=>by
    match i,k1,k2 with
    |0,k1,k2=>cases k1;cases k2;exact hA) t7).mono ?_
   rintro e w' ⟨v,r,h',g',rfl,⟨rfl,rfl⟩,p1,p2,p3⟩
   have d9:∀b,b<w.heap.size→w'.heap[b]?=w.heap[b]?:=fun b hb=>p2.frame b hb fun _ h=>h.elim;have wu:EO g w g w':=fun b o hS=>by
    have:=d9 b (hI.slt b o hS)
    exact⟨hS,by simp[World.cell?,this],fun es ck h=>this.trans h⟩
   refine⟨v,.v x,_,g,rfl,⟨rfl,rfl⟩,by rw[p1.v_eq];exact .v _ _,?_,⟨.refl _ _,fun _ h=>h,wu⟩⟩;refine⟨p2.os,p2.tape,p2.output,p2.size,fun b hb _=>d9 b hb,fun b o h=>BB (hI.slt b o h) p2.size,fun r=>?_,hI.inj,fun r b h1 h2=>?_,fun _ _ h=>.inl h,hI.glob.keep wu⟩
   ·exact(hI.objs r).same wu (fun _ h=>h) (.refl _ _) rfl rfl rfl rfl fun b zw Tq=>⟨d9 b (hI.loc r b zw Tq).1,fun _ h=>h⟩
   ·exact⟨BB (hI.loc r b h1 h2).1 p2.size,.inr ⟨r,h1,h2⟩⟩
end Go.Eng
