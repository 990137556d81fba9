/- Lemmas for the claims of this seat, without a condition: part 16 (EngZP, EngZQ, EngZS, EngZT, EngZU, EngZV). -/
import Derived.Test.YtmcbkdbfaneofaaGreatDoorEA15
namespace Go.Eng
abbrev HP(fn:FuncId)(tm:Array Value)(ps:Array Tmp)(Gy body:Code)(D:Nat)(s:LoopState):Loop :=
 { state:=s,pending:=none,fn:=fn,tmps:=tm,params:=ps,assign:=Gy,body:=body,defers:=D }
def jO:List Nat→List AV→(Nat→AV)→Nat→AV
 |p::ps,v::vs,e=>jO ps vs (G1 e p v)
 |_,_,e=>e
section
variable {P:Program}{N:Nat}{w:World}{g:Gh}
theorem Xp{U:Nat→Prop}:∀{ps:List Nat} {args:List AV} {vals:List Value} {tm:Array Value} {env:Nat→AV},vals.length=args.length→args.length=ps.length→(∀p∈ps,p<tm.size) →
  (∀(i:Nat) (av:AV) (x:Value),args[i]?=some av→vals[i]?=some x→BH g w U av x)→(∀i,BH g w U (env i) (tm.getD i undef)) →
  ((ps.zip vals).foldl (fun t p=>t.setIfInBounds p.1 p.2) tm).size=tm.size∧∀i,BH g w U (jO ps args env i) (((ps.zip vals).foldl (fun t p=>t.setIfInBounds p.1 p.2) tm).getD i undef)
 | [],args,vals,tm,env,_,h2,_,_,he=>by
  have:args=[]:=AB h2
  subst this;exact⟨rfl,he⟩
 |p::ps,[],vals,tm,env,_,h2,_,_,_=>by cases h2
 |p::ps,a::args,[],tm,env,h1,_,_,_,_=>by cases h1
 |p::ps,a::args,v::vals,tm,env,h1,h2,h3,h4,he=>by
  have hp:=h3 p (Aa ..)
  obtain⟨q1,q2⟩:=Xp (ps:=ps) (args:=args) (vals:=vals) (tm:=tm.setIfInBounds p v) (env:=G1 env p a) (by simpa using h1) (by simpa using h2) (fun q hq=>by simpa using h3 q (Ae _ hq))
   (fun i av x e1 e2=>h4 (i+1) av x (by simpa using e1) (by simpa using e2)) (fun i=>by
    by_cases e:i=p
    ·subst e;have e1:G1 env i a i=a:=by simp[G1]
     have e2:(tm.setIfInBounds i v).getD i undef=v:=by simp[Array.getD_eq_getD_getElem?,hp]
     rw[e1,e2];exact h4 0 a v rfl rfl
    ·have e1:G1 env p a i=env i:=by simp only[G1,CL e,En]
     have e2:(tm.setIfInBounds p v).getD i undef=tm.getD i undef:=by
      simp[Array.getD_eq_getD_getElem?,Array.getElem?_setIfInBounds_ne (Ne.symm e)]
     rw[e1,e2];exact he i)
  exact⟨by simpa using q1,q2⟩
def WS(P:Program)(Y:Gh→World→Prop)(σ:IT)(f:Nat)(args:List AV)(h0:Nat→HO)(Q:AV→(Nat→HO)→Prop):Prop :=
 FX P f∧∀(g:Gh) (w:World) (vals:Array Value),vals.size=args.length→(∀(i:Nat) (av:AV) (x:Value),args[i]?=some av→vals[i]?=some x→BH g w (AR h0) av x) →
  DJ w g h0 h0 g w→(∀h' g' w',DJ w g h0 h' g' w'→Le h0 g w h' g' w'→Y (Dx σ g') w') →
  Calls P f vals w fun e w'=>∃v r h' g',e=.returned v∧Q r h'∧BH g' w' (AR h') r v∧DJ w g h0 h' g' w'∧Le h0 g w h' g' w'
theorem fY{Y:Gh→World→Prop}{l:Nat}{f:Nat}{fn:Func}{c:Code}{args:List AV}{H0:List (Nat×HO)}{Q:AV→(Nat→HO)→Prop}(cx:Cx)(σ:IT)(hP:cx.P=P)(hT:Cz P cx.T)(hm:P.follows .mixedOrders=true)(hx:cx.ext=true)(hf:P.funcs[f]?=some fn)
  (hn : (fn.name == "runtime.NumGoroutine") = false) (hb : fn.body = some c) (hN : args.length ≤ fn.ntmps) (hc : Es fn.ntmps c = true) (hσ : (GD σ && Ip σ H0) = true)
  (hy:cx.yp=fun l' σ' g w=>l'=l→σ'=σ→Y g w)
  (hk:Rf cx c (Xm cx fn.results.toList σ Q) ⟨Ot args,Ai H0 Ab⟩):WS P Y σ f args (Ai H0 Ab) Q :=
 ⟨⟨fn,hf,hn,by simp[hb]⟩,fun g w vals hs hv hI hp=>Xz cx σ hP hT hm hx hf hn hb hN hc hσ hk hs hv hI fun l' σ' h' g' w' _ q1 q2=>by
  rw[hy];intro _ e;subst e;exact hp h' g' w' q1 q2⟩
end
def jv(cx:Cx):Nat→Code→(Ex→St→Prop)→(Code→Code→St→Prop)→St→Prop
 |0,.seq (.seq a b) d,Q,K,st=>Rf cx a (fun e Ea=>match e with |.normal=>K b d Ea |e=>Q e Ea) st
 |0,.seq b d,_,K,st=>K b d st
 |n+1,.seq a b,Q,K,st=>Rf cx a (fun e Ea=>match e with |.normal=>jv cx n b Q K Ea |e=>Q e Ea) st
 |_,_,_,_,_=>False
section
variable {P:Program}{N:Nat}{ds:List Deferred}{w0:World}{g0:Gh}{h0:Nat→HO}{st:St}{g:Gh}{a:Act}{w:World}
theorem jw{cx:Cx}(hP:cx.P=P)(hT:Cz P cx.T)(hm:P.follows .mixedOrders=true)(hE:Lp cx h0)(hY:∀l σ h g w,Ek σ=true→DJ w0 g0 h0 h g w→Le h0 g0 w0 h g w→cx.yp l σ (Dx σ g) w)
  {Qa:Ex→St→Prop} {K:Code→Code→St→Prop} {Q:Exit→Act→World→Prop} (hQ:∀e st g a w,e≠.normal→Qa e st→SR N ds w0 g0 h0 st g a w→Q e.real a w)
  (hK:∀b d st g a w,K b d st→SR N ds w0 g0 h0 st g a w→b.wpIn (JB none) 0 P (Exit.then (d.wpIn (JB none) 0 P Q) Q) a w) :
  ∀(n:Nat) (c:Code),Es N c=true→∀{st:St} {g:Gh} {a:Act} {w:World},SR N ds w0 g0 h0 st g a w→jv cx n c Qa K st→c.wpIn (JB none) 0 P Q a w:=by
 intro n
 induction n with
 |zero =>
  intro c hc st g a w hS hk;cases c with
  |seq y d =>
   simp only[Es,Ag]at hc;cases y with
   |seq x b =>
    have hk:Rf cx x (fun e Ea=>match e with | .normal=>K b d Ea | e=>Qa e Ea) st:=hk;simp only[Es,Ag]at hc;refine wpIn_seq (wpIn_seq (Ny hP hT hm hE hY none x hc.1.1 (Qa:=fun e Ea=>match e with | .normal=>K b d Ea | e=>Qa e Ea) (fun e st g a w q hS=>?_) hS hk));cases e with
    |normal=>exact hK b d _ _ _ _ q hS
    |exit id=>exact hQ (.exit id) _ _ _ _ (fun e=>by cases e) q hS
    |ret=>exact hQ .ret _ _ _ _ (fun e=>by cases e) q hS
   |_=>exact wpIn_seq (hK _ d _ _ _ _ hk hS)
  |_=>exact hk.elim
 |succ n ih =>
  intro c hc st g a w hS hk;cases c with
  |seq x y =>
   simp only[Es,Ag]at hc;refine wpIn_seq (Ny hP hT hm hE hY none x hc.1 (Qa:=fun e Ea=>match e with | .normal=>jv cx n y Qa K Ea | e=>Qa e Ea) (fun e st g a w q hS=>?_) hS hk);cases e with
   |normal=>exact ih y hc.2 hS q
   |exit id=>exact hQ (.exit id) _ _ _ _ (fun e=>by cases e) q hS
   |ret=>exact hQ .ret _ _ _ _ (fun e=>by cases e) q hS
  |_=>exact hk.elim
end
section
variable {P:Program}{N:Nat}{ds:List Deferred}{w0:World}{g0:Gh}{h0:Nat→HO}{st:St}{g:Gh}{a:Act}{w:World}
theorem SR.rebase{w1:World}{g1:Gh}{h1:Nat→HO}(hS:SR N ds w0 g0 h0 st g a w)(hI:DJ w1 g1 h1 st.h g w)(hL:Le h1 g1 w1 st.h g w):SR N ds w1 g1 h1 st g a w:=⟨hI,hL,hS.dfs,hS.size,hS.slots⟩
theorem aQ{cx:Cx}(hT:Cz P cx.T){H0:List (Nat×HO)}{σ:IT}(hσ:GD σ=true)(l7:Ip σ H0=true){fn:Func}{Q:AV→(Nat→HO)→Prop}(hS:SR N ds w0 g0 (Ai H0 Ab) st g a w)(hk:c8 cx st fn.results.toList σ Q) :
  ∃v,(results fn a.tmps).run P w=.ok v w∧∃r h' g',Q r h'∧BH g' w (AR h') r v∧DJ w0 g0 (Ai H0 Ab) h' g' w∧Le (Ai H0 Ab) g0 w0 h' g' w:=by
 obtain⟨g2,i1,i2⟩:=MI cx.pl.fin hS.inv;have SH : SR N ds w0 g0 (Ai H0 Ab) ⟨st.t,OI st.h cx.pl.fin⟩ g2 a w:=⟨i1,hS.le.trans i2,hS.dfs,hS.size,fun i=>(hS.slots i).le i2⟩;obtain⟨l,vs,h1,h2,h3,h4,h5⟩:=RG hT SH _ hk;obtain⟨hR,j1,j2⟩:=Ov hσ l7 i1 SH.le;have CO:(results fn a.tmps).run P w=.ok (if h:vs.toArray.size=1 then vs.toArray[0]else .tuple vs.toArray) w:=by
  rw[NY,show fn.results=fn.results.toList.toArray by simp,List.mapM_toArray];simp only[Sem.run_bind,Sem.run_map,h2,Result.andThen_ok,Sem.run_pure]
 match l,vs,h1,h3,h5,CO with
 | [v],[x],h1,h3,h5,CO=>exact⟨x,by simpa using CO,_,_,_,h1,(h5 0 v x rfl rfl).ren hR,j1,j2⟩
 | [],vs,h1,h3,h5,CO =>
  have:vs=[]:=AB h3
  subst this;exact⟨.tuple #[],by simpa using CO,_,_,_,h1,BH.ren hR (.tup _ [] _ rfl fun i av x q=>by simp at q),j1,j2⟩
 |v::v' :: l,vs,h1,h3,h5,CO =>
  refine⟨.tuple vs.toArray,?_,_,_,_,h1,BH.ren hR (.tup _ _ _ (by simpa using h3) fun i av x q1 q2=>h5 i av x q1 (by simpa using q2)),j1,j2⟩;rw[CO]
  have:vs.toArray.size≠1:=by simp[h3]
  simp only[this,dif_neg,not_false_eq_true]
theorem oq{fn:Func}{lz s:Nat}{ps:Array Tmp}{Gy body rest:Code}(cx:Cx)(hP:cx.P=P)(hT:Cz P cx.T)(hm:P.follows .mixedOrders=true)(hx:cx.ext=true){σ:IT}{H0 Hn:List (Nat×HO)}(hσ:(GD σ&&Ip σ H0)=true)(ya:Ip σ Hn=true)
  {env:Nat→AV} {gf:Nat} {caps:List AV} (hF:env s=.clo gf caps) {Qv:AV→(Nat→HO)→Prop}
  (zl:∀(l D:Nat) (f' : FuncId) (tm:Array Value),tm.size=N→WS P (fun g w=>w.heap[l]?=some (.loop (HP f' tm ps Gy body D .ready))∧∀i,BH g w (AR (Ai H0 Ab)) (env i) (tm.getD i undef)) σ gf
   (.v (.func (.yield l) #[] #[])::caps) (Ai H0 Ab) fun _ h'=>h'=Ai Hn Ab)
  (hcr:Es N rest=true) (uu:Oh [] body=false) (qQ:Rf cx rest (Xm cx fn.results.toList σ Qv) ⟨env,Ai Hn Ab⟩) (hY:∀l σ g w,cx.yp l σ g w)
  {a:Act} (ha:a.defers=[]) (hN:a.tmps.size=N) (hI:DJ w g (Ai H0 Ab) (Ai H0 Ab) g w) (NJ:∀i,BH g w (AR (Ai H0 Ab)) (env i) (a.tmps.getD i undef))
  {R:Ending→World→Prop} (hR:∀v r h' g' w',Qv r h'→BH g' w' (AR h') r v→DJ w g (Ai H0 Ab) h' g' w'→Le (Ai H0 Ab) g w h' g' w'→R (.returned v) w') :
  (Code.block lz (.rangeFunc (.tmp s) ps Gy body)).wpIn (JB none) 0 P (Exit.then (rest.wpIn (JB none) 0 P (bodyPostM (JB none) 0 P fn R)) (bodyPostM (JB none) 0 P fn R)) a w:=by
 simp only[Ag]at hσ;have hdl:∀f' tm D s,VZ (.loop (HP f' tm ps Gy body D s))=true:=fun _ _ _ _=>by show(!Oh [] body)=true;rw[uu];rfl
 refine wpIn_block (wpIn_rangeFunc fun f' _=>?_);have hs:=NJ s;rw[hF]at hs;have lM:a.eval (.tmp s)=a.tmps.getD s undef:=rfl;generalize hfv:a.tmps.getD s undef=fv at hs lM;cases hs with
 |clo _ _ _ lb EF OK =>
 obtain⟨i0,s0⟩:=hI.allocS (n0:=w.heap.size) (x:=w.heap.size) (.deferred (some [])) (Aj _);obtain⟨i1,s1⟩:=i0.allocS (n0:=w.heap.size) (x:=w.heap.size) (.loop (HP f' a.tmps ps Gy body w.heap.size .ready)) (by rw[World.size_alloc];omega);generalize hW:(w.alloc (.deferred (some []))).alloc (.loop (HP f' a.tmps ps Gy body w.heap.size .ready))=W1 at i1 s1;have Aac:W1.heap.size=w.heap.size+2:=by rw[←hW,World.size_alloc,World.size_alloc]
 have hl:W1.heap[w.heap.size+1]?=some (.loop (HP f' a.tmps ps Gy body w.heap.size .ready)):=by
  rw[←hW]
  have:=World.alloc_heap_new (w.alloc (.deferred (some []))) (.loop (HP f' a.tmps ps Gy body w.heap.size .ready))
  rwa [World.size_alloc]at this
 have hD:W1.heap[w.heap.size]?=some (.deferred (some [])):=by
  rw[←hW,heap_alloc_old _ _ (by rw[World.size_alloc];omega)];exact World.alloc_heap_new w _
 have OL:∀b ob,W1.heap[b]?=some ob→VZ ob=true→∀r,((Ai H0 Ab) r).live→g.own r≠some b:=fun b ob hb hd r hr e=>OX (i1.objs r) hr e hb hd;have S1:=s0.trans s1;have hit:=zl (w.heap.size+1) w.heap.size f' a.tmps hN
 refine⟨w.heap.size+1,[{ target:=.collected w.heap.size,args:=#[] }],W1,{ target:=.fn (.func gf) lb,args:=#[.func (.yield (w.heap.size+1)) #[] #[]] },W1,gf,
  #[.func (.yield (w.heap.size+1)) #[] #[]]++lb,W1,?_,?_,fun _ _=>trivial,?_,fun e=>(by cases e),?_⟩
 ·rw[←hW];exact run_enterLoop_outer _ _ _ _ _
 ·simp only[resolve,lM];simp[go_sem]
 ·simp only[invoke];rw[Gw hit.1]
 refine callsIn_wide.2 ((hit.2 g W1 _ (by simp[EF];omega) (fun i av x e1 e2=>?_) i1 (fun h' g' w' q1 q2=>?_)).mono ?_)
 ·cases i with
  |zero =>
   simp only[A8,Bm]at e1;rw[HM]at e2
   have:x=.func (.yield (w.heap.size+1)) #[] #[]:=(BM e2).symm
   subst e1;subst this;exact .v _ _
  |succ i =>
   have e2:lb[i]?=some x:=by rw[←e2,HM];simp
   exact(OK i av x (by simpa using e1) e2).le S1.le
 ·obtain⟨_,_,j2⟩:=Ov hσ.1 hσ.2 q1 q2;refine⟨(q1.frame _ (by omega) (OL _ _ hl (hdl _ _ _ _))).trans hl,fun i=>?_⟩;exact((NJ i).le S1.le).mono j2.keeps (fun _ h=>h) j2.gh
 rintro e w2 ⟨v,r,h',g2,rfl,rfl,_,q3,q4⟩
 have cn:w2.heap[w.heap.size+1]?=some (.loop (HP f' a.tmps ps Gy body w.heap.size .ready)):=(q3.frame _ (by omega) (OL _ _ hl (hdl _ _ _ _))).trans hl;have zf:w2.heap[w.heap.size]?=some (.deferred (some [])):=(q3.frame _ (by omega) (OL _ _ hD rfl)).trans hD;refine⟨none,_,run_endLoop cn (fun e=>by cases e),?_⟩;obtain⟨i4,s4⟩:=q3.base.put (n0:=w.heap.size) (x:=w.heap.size) (o':=.loop { HP f' a.tmps ps Gy body w.heap.size .ready with state:=.exhausted }) cn (hdl _ _ _ _) (hdl f' a.tmps w.heap.size .exhausted) (.inl (by omega));have S4:=(S1.trans (ZX.of_inv q3 q4 (by omega))).trans s4;generalize hW4:w2.putObj (w.heap.size+1) (.loop { HP f' a.tmps ps Gy body w.heap.size .ready with state:=.exhausted })=w4 at i4 s4 S4;have uf:w4.heap[w.heap.size]?=some (.deferred (some [])):=by rw[←hW4,World.putObj_heap_other (by omega)];exact zf
 have hE:Lp cx (Ai Hn Ab):=by unfold Lp;rw[hx];exact fun i hi=>⟨(Gb ya i hi).1,(Gb ya i hi).2.1⟩
 have zt:SR N [{ target:=.collected w.heap.size,args:=#[] }] w4 g2 (Ai Hn Ab) ⟨env,Ai Hn Ab⟩ g2 { a with defers:=[{ target:=.collected w.heap.size,args:=#[] }]++a.defers } w4 :=
  ⟨i4,.refl _ _ _,by simp[ha],hN,fun i=>(NJ i).le S4.le⟩
 refine Ny hP hT hm hE (fun l σ _ _ w _ _ _=>hY l σ _ w) none rest hcr (fun e wV g5 a5 w5 hq lI=>?_) zt qQ;have fin:c8 cx wV fn.results.toList σ Qv→LeavesInM (JB none) 0 P fn a5.tmps R a5.defers .returning w5:=by
  intro hk;have xm:w5.heap[w.heap.size]?=some (.deferred (some [])):=(lI.inv.frame _ (Bx.1 uf).1 (fun r hr e=>OX (i4.objs r) hr e uf rfl)).trans uf;rw[lI.dfs];refine⟨by simp,.inl ⟨w.heap.size,_,rfl,run_takeDeferred xm,?_⟩⟩;obtain⟨i6,s6⟩:=lI.inv.base.put (n0:=w.heap.size) (x:=w.heap.size) (o':=.deferred none) xm rfl rfl (.inr rfl);have zu:SR N [{ target:=.collected w.heap.size,args:=#[] }] (w5.putObj w.heap.size (.deferred none)) g5 wV.h wV g5 a5 (w5.putObj w.heap.size (.deferred none)):=⟨i6,.refl _ _ _,lI.dfs,lI.size,fun i=>(lI.slots i).le s6.le⟩;have S6:=(S4.trans (ZX.of_inv lI.inv lI.le (AU (Aj _) S4.size))).trans s6;obtain⟨v,k2,r,h7,g7,k1,k5,k3,k4⟩:=aQ (H0:=H0) hT hσ.1 hσ.2 (SR.rebase zu (i6.of_seg S6 fun h=>absurd h (Nat.lt_irrefl _)) S6.le) hk;exact⟨v,k2,hR v r h7 g7 _ k1 k5 k3 k4⟩
 cases e with
 |normal=>exact fin hq
 |ret=>exact fin hq
 |exit id=>exact hq.elim
end
section
variable {P:Program}{N:Nat}{w:World}{g:Gh}
theorem dH(o k r:Nat){H:List (Nat×HO)}(cx:Cx)(hP:cx.P=P)(hT:Cz P cx.T)(hm:P.follows .mixedOrders=true)(hx:cx.ext=true){σ:IT}(hσ:(GD σ&&Ip σ H)=true){fn:FuncId}{tm:Array Value}{ps:Array Tmp}{Gy body:Code}{D l:Nat}
  {env:Nat→AV} {args:List AV} {U:Nat→Prop} {Q:AV→(Nat→HO)→Prop} (uZ:args.length=ps.toList.length) (hN:tm.size=N) (hpN:(ps.toList.all fun p=>Nat.blt p N)=true) (zD:Es N Gy=true) (ux:Es N body=true)
  (hU:∀i,U i→AR (Ai H Ab) i)
  (hk:Rf cx Gy (fun e st=>match e with | .normal=>Rf cx body (fun e st=>match e with | .normal=>sX st.h o k r fun h'=>Q (.v (.bool true)) (Fx σ (OI h' cx.pl.fin)) | _=>False) st | _=>False) ⟨jO ps.toList args env,Ai H Ab⟩)
  (hY:∀l σ g w,cx.yp l σ g w:=by exact fun _ _ _ _=>trivial) (uu:Oh [] body=false:=by kernel_rfl) :
  IJ P (fun g w=>w.heap[l]?=some (.loop (HP fn tm ps Gy body D .ready))∧∀i,BH g w U (env i) (tm.getD i undef)) l args (Ai H Ab) Q:=by
 simp only[Ag]at hσ;intro g w vals hs hv hI ⟨hl,NJ⟩;have DI:l<w.heap.size:=(Bx.1 hl).1;have hdl:∀s,VZ (.loop (HP fn tm ps Gy body D s))=true:=fun s=>by show(!Oh [] body)=true;rw[uu];rfl
 have hE:Lp cx (Ai H Ab):=by unfold Lp;rw[hx];exact fun i hi=>⟨(Gb hσ.2 i hi).1,(Gb hσ.2 i hi).2.1⟩
 have OL:∀r,((Ai H Ab) r).live→g.own r≠some l:=fun r hr e=>OX (hI.objs r) hr e hl (hdl _);have lN:∀(t0:Array Value),(ps.zip vals).foldl (fun tmps (p:Nat×Value)=>tmps.setIfInBounds p.1 p.2) t0=(ps.toList.zip vals.toList).foldl (fun t p=>t.setIfInBounds p.1 p.2) t0:=fun t0=>by
  rw[←Array.foldl_toList,Array.toList_zip]
 have hry:=run_yield (P:=P) (args:=vals) hl (by simp only[hs,uZ,B4]);refine⟨fn,_,Gy,body,hry,roundIn_of_wpIn trivial ?_⟩;obtain⟨z1,z2⟩:=Xp (U:=AR (Ai H Ab)) (ps:=ps.toList) (args:=args) (vals:=vals.toList) (tm:=tm) (env:=env) (by simpa using hs) uZ (fun p hp=>by
  have:=(Br.1 hpN) p hp
  rw[hN];simpa using this) (fun i av x e1 e2=>hv i av x e1 (by simpa using e2)) (fun i=>(NJ i).mono (.refl _ _) hU (.refl _ _))
 have zq:SR N [] w g (Ai H Ab) ⟨jO ps.toList args env,Ai H Ab⟩ g { tmps:=(ps.zip vals).foldl (fun tmps (p:Nat×Value)=>tmps.setIfInBounds p.1 p.2) tm,defers:=[] } w:=by
  refine⟨hI,.refl _ _ _,rfl,?_,fun i=>?_⟩
  ·rw[lN];exact z1.trans hN
  ·rw[lN];exact z2 i
 refine Ny hP hT hm hE (fun l σ _ _ w _ _ _=>hY l σ _ w) (some l) Gy zD (fun e st1 g1 a1 w1 hq jY=>?_) zq hk;cases e with
 |exit _=>exact hq.elim
 |ret=>exact hq.elim
 |normal =>
  have sw:w1.heap[l]?=some (.loop (HP fn tm ps Gy body D .ready)):=(jY.inv.frame l DI OL).trans hl;refine⟨_,run_beginRound sw rfl,?_⟩;obtain⟨iS,sS⟩:=hI.put (n0:=w.heap.size) (x:=l) (o':=.loop (HP fn tm ps Gy body D .busy)) hl (hdl _) (hdl _) (.inr rfl);have uI:(w.putObj l (.loop (HP fn tm ps Gy body D .busy))).heap[l]?=some (.loop (HP fn tm ps Gy body D .busy)):=World.putObj_heap_same DI;have kh:(w.putObj l (.loop (HP fn tm ps Gy body D .busy))).heap.size=w.heap.size:=by simp[World.putObj]
  obtain⟨_,sB⟩:=iS.dullS (w':=w) (n0:=w.heap.size) (x:=l) ⟨rfl,rfl,rfl⟩ (by rw[kh];exact Aj _) (fun b _=>by
   by_cases e:b=l
   ·subst e;exact .inr ⟨_,_,uI,hl,hdl _,hdl _⟩
   ·exact .inl (World.putObj_heap_other e).symm) (fun b _ DC=>(World.putObj_heap_other DC).symm)
  obtain⟨i2,s2⟩:=jY.inv.base.put (n0:=w.heap.size) (x:=l) (o':=.loop (HP fn tm ps Gy body D .busy)) sw (hdl _) (hdl _) (.inr rfl);have S2:=(sB.trans (ZX.of_inv jY.inv jY.le (Aj _))).trans s2;have cn:(w1.putObj l (.loop (HP fn tm ps Gy body D .busy))).heap[l]?=some (.loop (HP fn tm ps Gy body D .busy)):=World.putObj_heap_same (Bx.1 sw).1;have zj:=i2.of_seg (by rw[kh];exact S2) (fun _=>cn.trans uI.symm);have zr:SR N [] (w.putObj l (.loop (HP fn tm ps Gy body D .busy))) g (Ai H Ab) st1 g1 a1 (w1.putObj l (.loop (HP fn tm ps Gy body D .busy))):=⟨zj,S2.le,jY.dfs,jY.size,fun i=>(jY.slots i).le s2.le⟩;refine Ny hP hT hm hE (fun l σ _ _ w _ _ _=>hY l σ _ w) (some l) body ux (fun e st3 g3 a3 w3 hq qa=>?_) zr hq;cases e with
  |exit _=>exact hq.elim
  |ret=>exact hq.elim
  |normal =>
   obtain⟨h3,g3',qa,hq⟩:=iy qa hq;have sx:w3.heap[l]?=some (.loop (HP fn tm ps Gy body D .busy)):=(qa.inv.frame l (by rw[kh];exact DI) OL).trans uI;refine⟨.bool true,w3.putObj l (.loop (HP fn tm ps Gy body D .ready)),run_endRound none sx,?_⟩;obtain⟨gf,yb,if2⟩:=MI cx.pl.fin qa.inv;obtain⟨i4,s4⟩:=yb.base.put (n0:=w.heap.size) (x:=l) (o':=.loop (HP fn tm ps Gy body D .ready)) sx (hdl _) (hdl _) (.inr rfl);have S4:=(sS.trans (ZX.of_inv yb (qa.le.trans if2) (by rw[kh];exact Aj _))).trans s4;have zV:(w3.putObj l (.loop (HP fn tm ps Gy body D .ready))).heap[l]?=some (.loop (HP fn tm ps Gy body D .ready)):=World.putObj_heap_same (Bx.1 sx).1;have zk:=i4.of_seg S4 (fun _=>zV.trans hl.symm);obtain⟨_,j1,j2⟩:=Ov hσ.1 hσ.2 zk S4.le;exact⟨.bool true,.v (.bool true),_,_,rfl,hq,.v _ _,j1,j2⟩
end
def pf(h:Nat→HO)(o k r sz:Nat)(K:(Nat→HO)→Prop):Prop :=
 match h o with
 |.cells cs=>match I0 cs k with
  |.v (.slice none 0 0)=>match h r with
   |.free=>K (AW (AW h r (.var sz 0 0)) o (.cells (Ey cs k (.slice (.ver r sz 0) []))))
   |_=>False
  |_=>False
 |_=>False
section
variable {P:Program}{N:Nat}{ds:List Deferred}{w0:World}{g0:Gh}{h0:Nat→HO}{st:St}{g:Gh}{a:Act}{w:World}
theorem nX(hS:SR N ds w0 g0 h0 st g a w){o k r sz:Nat}{K:(Nat→HO)→Prop}(hk:pf st.h o k r sz K):∃h' g',SR N ds w0 g0 h0 ⟨st.t,h'⟩ g' a w∧K h':=by
 unfold pf at hk;split at hk
 ·rename_i cs e0;split at hk
  ·rename_i e1;split at hk
   ·rename_i hf;have jh:o≠r:=fun e=>by rw[e,hf]at e0;cases e0
    have XG:=I7 cs k _ e1 (by simp)
    obtain⟨m1,m2⟩:=hS.inv.upd r (.var sz 0 0) (.slice none 0 0) 0 true none g.S w none ⟨rfl,rfl,rfl,Aj _⟩ (fun _ _ _=>rfl) (fun b e=>by cases e) (fun _ _ h=>h) (fun _ _ h=>.inl h) (fun b o e=>by cases e) (fun b hh e=>by first | (cases e;done) | (exact absurd hh.2 (by simp))) (by simp)
     (fun hu=>absurd hf hu) (fun _ _=>by
      obtain⟨u1,u2,u3,u4⟩:=Bz g r (.slice none 0 0) 0 true none g.S;exact⟨u3,u2,none,0,u1,.inl ⟨rfl,u4⟩⟩)
    generalize SP:g.upd r (.slice none 0 0) 0 true none g.S=g1 at m1 m2;have gr:g1.tk r=true∧g1.ln r=0∧g1.ρ r=.slice none 0 0:=by rw[←SP];simp[Gh.upd]
    have mZ : (AW st.h r (.var sz 0 0)) o=.cells cs:=by rw[BY _ _ _ _ jh,e0]
    obtain⟨g3,p1,p2⟩:=Oi m1 mZ XG (new:=.slice (.ver r sz 0) []) (fun y hy=>by
     cases hy
     exact .ver _ r sz 0 [] _ (.snil _ _ _) (fun c hc=>by cases hc) (by unfold AR;rw[Bd];simp) gr.1 (AO _) (fun _=>gr.2.2.symm))
    exact⟨_,g3,⟨p1,hS.le.trans (m2.trans p2),hS.dfs,hS.size,fun i=>(hS.slots i).le (m2.trans p2)⟩,hk⟩
   ·exact hk.elim
  ·exact hk.elim
 ·exact hk.elim
def tc(o k r sz:Nat)(bS:Cx)(P:Program)(N:Nat)(fn:Func)(σ:IT)(Q:AV→(Nat→HO)→Prop)(b rest:Code)(st:St):Prop :=
 pf st.h o k r sz fun h1 =>
  ∃(σF σr:IT) (H0 Hn:List (Nat×HO)) (lz s:Nat) (ps:Array Tmp) (Gy body:Code) (gf:Nat) (caps:List AV),
  b=.block lz (.rangeFunc (.tmp s) ps Gy body)∧(Ek σF&&DF h1 0 0&&Dk σF 0 0)=true∧Fx σF h1=Ai H0 Ab∧(GD σr&&Ip σr H0)=true∧Ip σr Hn=true ∧
  ren (Cu σF) h1 (st.t s)=.clo gf caps ∧
  (∀(l D:Nat) (f' : FuncId) (tm:Array Value),tm.size=N→WS P (fun g w=>w.heap[l]?=some (.loop (HP f' tm ps Gy body D .ready))∧∀i,BH g w (AR (Ai H0 Ab)) (ren (Cu σF) h1 (st.t i)) (tm.getD i undef)) σr gf
   (.v (.func (.yield l) #[] #[])::caps) (Ai H0 Ab) fun _ h'=>h'=Ai Hn Ab) ∧
  Es N rest=true∧Oh [] body=false∧Rf bS rest (Xm bS fn.results.toList σr fun r h'=>Q (ren (Cu σ) (D6 σF 0 0 h1 h') (ren (E2 σF 0 0) h' r)) (Fx σ (D6 σF 0 0 h1 h')))
   ⟨fun i=>ren (Cu σF) h1 (st.t i),Ai Hn Ab⟩
theorem bw (o k r sz : Nat) {f : Nat} {fn : Func} {c : Code} {args : List AV} {H : List (Nat × HO)} {Q : AV → (Nat → HO) → Prop} (cx bS : Cx) (σ : IT) (hP : cx.P = P) (hT : Cz P cx.T) (zo : bS.P = P) (zv : Cz P bS.T) (hm : P.follows .mixedOrders = true) (hx : cx.ext = true) (o7 : bS.ext = true) (hf : P.funcs[f]? = some fn) (hn : (fn.name == "runtime.NumGoroutine") = false)
  (hb:fn.body=some c) (hN:args.length≤fn.ntmps) (hc:Es fn.ntmps c=true) (hσ:(GD σ&&Ip σ H)=true) (n:Nat)
  (hk:jv cx n c (Xm cx fn.results.toList σ fun r h'=>∃r',Hm r r'∧Q r' h') (tc o k r sz bS P fn.ntmps fn σ fun r h'=>∃r',Hm r r'∧Q r' h') ⟨Ot args,Ai H Ab⟩)
  (hY:∀l σ g w,cx.yp l σ g w:=by exact fun _ _ _ _=>trivial) (zx:∀l σ g w,bS.yp l σ g w:=by exact fun _ _ _ _=>trivial):Be P f args (Ai H Ab) Q:=by
 refine Be.mono (Q:=fun r h'=>∃r',Hm r r'∧Q r' h') ?_ fun _ _ ⟨r',s,q⟩=>⟨r',s,q⟩;simp only[Ag]at hσ;refine⟨⟨fn,hf,hn,by simp[hb]⟩,fun g w vals hs hv hI=>callsIn_wide.1 (callsIn_of_wp_marks (F:=Fence.wide) (n:=0) hf hb trivial ?_ rfl)⟩;have hE:Lp cx (Ai H Ab):=by unfold Lp;rw[hx];exact fun i hi=>⟨(Gb hσ.2 i hi).1,(Gb hσ.2 i hi).2.1⟩
 have hS:SR fn.ntmps [] w g (Ai H Ab) ⟨Ot args,Ai H Ab⟩ g { tmps:=vals++Array.replicate (fn.ntmps-vals.size) undef,defers:=[] } w:=by
  refine⟨hI,.refl _ _ _,rfl,by simp[hs];omega,fun i=>?_⟩
  have:=Ou (n:=fn.ntmps-vals.size) (args:=args) (vals:=vals.toList) (by simpa using hs) (fun i av x q1 q2=>hv i av x q1 (by simpa using q2)) i
  rw[Cv,←A3];rw[Cj]at this;simpa using this
 refine jw hP hT hm hE (fun l σ _ _ w _ _ _=>hY l σ _ w) (fun e st g' a w' DC hk hS=>?_) (fun b rest st g' a w' hk hS=>?_) n c hc hS hk
 ·have out:c8 cx st fn.results.toList σ (fun r h'=>∃r',Hm r r'∧Q r' h')→LeavesInM (JB none) 0 P fn a.tmps (fun e w'=>∃v r h' g',e=Ending.returned v∧(∃r',Hm r r'∧Q r' h')∧BH g' w' (AR h') r v∧DJ w g (Ai H Ab) h' g' w'∧Le (Ai H Ab) g w h' g' w') a.defers .returning w':=by
   intro hk;obtain⟨v,q2,r,h',g2,q1,q3,q4,q5⟩:=aQ hT hσ.1 hσ.2 hS hk;rw[hS.dfs];exact⟨v,q2,v,r,h',g2,rfl,q1,q3,q4,q5⟩
  cases e with
  |normal=>exact absurd rfl DC
  |ret=>exact out hk
  |exit id=>exact hk.elim
 ·obtain⟨h1,g',hS,hk⟩:=nX hS hk;obtain⟨σF,σr,H0,Hn,lz,s,ps,Gy,body,gf,caps,rfl,k1,k2,k3,k4,k5,k6,k7,k9,k8⟩:=hk;have hσF:Ek σF=true:=by simp only[Ag]at k1;exact k1.1.1
  obtain⟨uk,xo⟩:=Wa hS.inv hσF;rw[k2]at xo;have NJ:∀i,BH (Dx σF g') w' (AR (Ai H0 Ab)) (ren (Cu σF) h1 (st.t i)) (a.tmps.getD i undef):=fun i=>by
   have:=(hS.slots i).ren uk
   rwa [k2]at this
  refine MC (Q:=fun r h'=>∃r',Hm (ren (Cu σ) (D6 σF 0 0 h1 h') (ren (E2 σF 0 0) h' r)) r'∧Q r' (Fx σ (D6 σF 0 0 h1 h'))) (C:=fun R'=>(∀e bp,R' e bp→(∃v r h' g',e=Ending.returned v∧(∃r',Hm r r'∧Q r' h')∧BH g' bp (AR h') r v∧DJ w g (Ai H Ab) h' g' bp∧Le (Ai H Ab) g w h' g' bp)) →
   (Code.block lz (.rangeFunc (.tmp s) ps Gy body)).wpIn (JB none) 0 P (Exit.then (rest.wpIn (JB none) 0 P (bodyPostM (JB none) 0 P fn (fun e bp=>∃v r h' g',e=Ending.returned v∧(∃r',Hm r r'∧Q r' h')∧BH g' bp (AR h') r v∧DJ w g (Ai H Ab) h' g' bp∧Le (Ai H Ab) g w h' g' bp))) (bodyPostM (JB none) 0 P fn (fun e bp=>∃v r h' g',e=Ending.returned v∧(∃r',Hm r r'∧Q r' h')∧BH g' bp (AR h') r v∧DJ w g (Ai H Ab) h' g' bp∧Le (Ai H Ab) g w h' g' bp))) a w')
   (fun h k h2=>h fun e w r=>h2 _ _ (k _ _ r)) hS.inv (d:=0) (nn:=0) k1 (fun _ lV=>?_) (fun v r h' g2 w2 q1 q2 q3 q4=>?_) (fun _ _ h=>h)
  ·rw[k2]at lV;exact oq bS zo zv hm o7 k3 k4 k5 k6 k7 k9 k8 zx hS.dfs hS.size xo NJ fun v r h' g5 w5 q1 q2 q3 q4=>lV _ _ ⟨v,r,h',g5,rfl,q1,q2,q3,q4⟩
  ·obtain⟨hR,j1,j2⟩:=Ov hσ.1 hσ.2 q2 (hS.le.trans q3);exact⟨v,_,_,_,rfl,q1,q4.ren hR,j1,j2⟩
end
section
variable {P:Program}{N:Nat}{w:World}{g:Gh}
end
end Go.Eng
namespace Go.Eng
open Go.Sort
section
variable {P:Program}
end
end Go.Eng
