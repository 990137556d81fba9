/- Lemmas for the claims of this seat, without a condition: part 16 (EngZP, EngZQ, EngZS, EngZT, EngZU, EngZV, EngZW). -/
import Derived.Test.YtkmnnpmneamgoaaGreatDoorA15
namespace Go.Eng
abbrev E2(fn:FuncId)(tm:Array Value)(ps:Array Tmp)(Eb body:Code)(D:Nat)(s:LoopState):Loop :=
 { state:=s,pending:=none,fn:=fn,tmps:=tm,params:=ps,assign:=Eb,body:=body,defers:=D }
def bx:List Nat→List AV→(Nat→AV)→Nat→AV
 |p::ps,v::vs,e=>bx ps vs (HG e p v)
 |_,_,e=>e
section
variable {P:Program}{N:Nat}{w:World}{g:Gh}
theorem Sf{U:Nat→Prop}:∀{ps:List Nat} {args:List AV} {vals:List Value} {tm:Array Value} {env:Nat→AV},vals.length=args.length→args.length=ps.length→(∀p∈ps,p<tm.size) →
  (∀(i:Nat) (av:AV) (x:Value),args[i]?=some av→vals[i]?=some x→BF g w U av x)→(∀i,BF g w U (env i) (tm.getD i undef)) →
  ((ps.zip vals).foldl (fun t p=>t.setIfInBounds p.1 p.2) tm).size=tm.size∧∀i,BF g w U (bx ps args env i) (((ps.zip vals).foldl (fun t p=>t.setIfInBounds p.1 p.2) tm).getD i undef)
 | [],args,vals,tm,env,_,h2,_,_,he=>by
  have:args=[]:=AJ h2
  subst this;exact⟨rfl,he⟩
 |p::ps,[],vals,tm,env,_,h2,_,_,_=>by cases h2
 |p::ps,a::args,[],tm,env,h1,_,_,_,_=>by cases h1
 |p::ps,a::args,v::vals,tm,env,h1,h2,h3,h4,he=>by
  have hp:=h3 p (Ab ..)
  obtain⟨q1,q2⟩:=Sf (ps:=ps) (args:=args) (vals:=vals) (tm:=tm.setIfInBounds p v) (env:=HG env p a) (by simpa using h1) (by simpa using h2) (fun q hq=>by simpa using h3 q (Ag _ hq))
   (fun i av x e1 e2=>h4 (i+1) av x (by simpa using e1) (by simpa using e2)) (fun i=>by
    by_cases e:i=p
    ·subst e;have e1:HG env i a i=a:=by simp[HG]
     have e2:(tm.setIfInBounds i v).getD i undef=v:=by simp[Array.getD_eq_getD_getElem?,hp]
     rw[e1,e2];exact h4 0 a v rfl rfl
    ·have e1:HG env p a i=env i:=by simp only[HG,Cc e,D1]
     have e2:(tm.setIfInBounds p v).getD i undef=tm.getD i undef:=by
      simp[Array.getD_eq_getD_getElem?,Array.getElem?_setIfInBounds_ne (Ne.symm e)]
     rw[e1,e2];exact he i)
  exact⟨by simpa using q1,q2⟩


def MU(P:Program)(Y:Gh→World→Prop)(σ:Hh)(f:Nat)(args:List AV)(h0:Nat→HO)(Q:AV→(Nat→HO)→Prop):Prop :=
 Gb P f∧∀(g:Gh) (w:World) (vals:Array Value),vals.size=args.length→(∀(i:Nat) (av:AV) (x:Value),args[i]?=some av→vals[i]?=some x→BF g w (AK h0) av x) →
  Dk w g h0 h0 g w→(∀h' g' w',Dk w g h0 h' g' w'→Le h0 g w h' g' w'→Y (CA σ g') w') →
  Calls P f vals w fun e w'=>∃v r h' g',e=.returned v∧Q r h'∧BF g' w' (AK h') r v∧Dk w g h0 h' g' w'∧Le h0 g w h' g' w'
theorem fO{Y:Gh→World→Prop}{l:Nat}{f:Nat}{fn:Func}{c:Code}{args:List AV}{H0:List (Nat×HO)}{Q:AV→(Nat→HO)→Prop}(cx:Cx)(σ:Hh)(hP:cx.P=P)(hT:Cn P cx.T)(hm:P.follows .mixedOrders=true)(hx:cx.ext=true)(hf:P.funcs[f]?=some fn)
  (hn : (fn.name == "runtime.NumGoroutine") = false) (hb : fn.body = some c) (hN : args.length ≤ fn.ntmps) (hc : Dx fn.ntmps c = true) (hσ : (EH σ && FA σ H0) = true)
  (hy:cx.yp=fun l' σ' g w=>l'=l→σ'=σ→Y g w)
  (hk:MX cx c (TV cx fn.results.toList σ Q) ⟨LA args,Ad H0 Aa⟩):MU P Y σ f args (Ad H0 Aa) Q :=
 ⟨⟨fn,hf,hn,by simp[hb]⟩,fun g w vals hs hv hI hp=>Ov cx σ hP hT hm hx hf hn hb hN hc hσ hk hs hv hI fun l' σ' h' g' w' _ q1 q2=>by
  rw[hy];intro _ e;subst e;exact hp h' g' w' q1 q2⟩

end
end Go.Eng

namespace Go.Eng
def dP(cx:Cx):Nat→Code→(Ex→St→Prop)→(Code→Code→St→Prop)→St→Prop
 |0,.seq (.seq a b) d,Q,K,st=>MX cx a (fun e Fo=>match e with |.normal=>K b d Fo |e=>Q e Fo) st
 |0,.seq b d,_,K,st=>K b d st
 |n+1,.seq a b,Q,K,st=>MX cx a (fun e Fo=>match e with |.normal=>dP cx n b Q K Fo |e=>Q e Fo) st
 |_,_,_,_,_=>False
section
variable {P:Program}{N:Nat}{ds:List Deferred}{w0:World}{g0:Gh}{h0:Nat→HO}{st:St}{g:Gh}{a:Act}{w:World}
theorem ZD{cx:Cx}(hP:cx.P=P)(hT:Cn P cx.T)(hm:P.follows .mixedOrders=true)(hE:H9 cx h0)(hY:∀l σ h g w,DZ σ=true→Dk w0 g0 h0 h g w→Le h0 g0 w0 h g w→cx.yp l σ (CA σ g) w)
  {Qa:Ex→St→Prop} {K:Code→Code→St→Prop} {Q:Exit→Act→World→Prop} (hQ:∀e st g a w,e≠.normal→Qa e st→SR N ds w0 g0 h0 st g a w→Q e.real a w)
  (hK:∀b d st g a w,K b d st→SR N ds w0 g0 h0 st g a w→b.wpIn (IZ none) 0 P (Exit.then (d.wpIn (IZ none) 0 P Q) Q) a w) :
  ∀(n:Nat) (c:Code),Dx N c=true→∀{st:St} {g:Gh} {a:Act} {w:World},SR N ds w0 g0 h0 st g a w→dP cx n c Qa K st→c.wpIn (IZ none) 0 P Q a w:=by
 intro n
 induction n with
 |zero =>
  intro c hc st g a w hS hk;cases c with
  |seq y d =>
   simp only[Dx,Af]at hc;cases y with
   |seq x b =>
    have hk:MX cx x (fun e Fo=>match e with | .normal=>K b d Fo | e=>Qa e Fo) st:=hk;simp only[Dx,Af]at hc;refine wpIn_seq (wpIn_seq (JX hP hT hm hE hY none x hc.1.1 (Qa:=fun e Fo=>match e with | .normal=>K b d Fo | e=>Qa e Fo) (fun e st g a w q hS=>?_) hS hk));cases e with
    |normal=>exact hK b d _ _ _ _ q hS
    |exit id=>exact hQ (.exit id) _ _ _ _ (fun e=>by cases e) q hS
    |ret=>exact hQ .ret _ _ _ _ (fun e=>by cases e) q hS
   |_=>exact wpIn_seq (hK _ d _ _ _ _ hk hS)
  |_=>exact hk.elim
 |succ n ih =>
  intro c hc st g a w hS hk;cases c with
  |seq x y =>
   simp only[Dx,Af]at hc;refine wpIn_seq (JX hP hT hm hE hY none x hc.1 (Qa:=fun e Fo=>match e with | .normal=>dP cx n y Qa K Fo | e=>Qa e Fo) (fun e st g a w q hS=>?_) hS hk);cases e with
   |normal=>exact ih y hc.2 hS q
   |exit id=>exact hQ (.exit id) _ _ _ _ (fun e=>by cases e) q hS
   |ret=>exact hQ .ret _ _ _ _ (fun e=>by cases e) q hS
  |_=>exact hk.elim
def strT(h:Nat→HO):AV→AV
 |.tup cs=>.tup (cs.map (str h))
 |a=>str h a
theorem BF.strT{h:Nat→HO}(ho:∀r,D4 g w (AK h) r (h r)){av:AV}{x:Value}(r:BF g w (AK h) av x):BF g w E8 (Eng.strT h av) x:=by
 cases av with
 |tup cs =>
  cases r with
  |tup _ _ vs hs hr =>
   exact .tup _ _ vs (by simp[hs]) fun i av x q1 q2=>by
    rw[AH,AW]at q1;obtain⟨a,e1,rfl⟩:=q1;exact BF.str ho (hr i a x e1 q2)
 |_=>exact BF.str ho r
end
end Go.Eng

namespace Go.Eng
section
variable {P:Program}{N:Nat}{ds:List Deferred}{w0:World}{g0:Gh}{h0:Nat→HO}{st:St}{g:Gh}{a:Act}{w:World}
theorem SR.rebase{w1:World}{g1:Gh}{h1:Nat→HO}(hS:SR N ds w0 g0 h0 st g a w)(hI:Dk w1 g1 h1 st.h g w)(hL:Le h1 g1 w1 st.h g w):SR N ds w1 g1 h1 st g a w:=⟨hI,hL,hS.dfs,hS.size,hS.slots⟩
theorem ap{cx:Cx}(hT:Cn P cx.T){H0:List (Nat×HO)}{σ:Hh}(hσ:EH σ=true)(lJ:FA σ H0=true){fn:Func}{Q:AV→(Nat→HO)→Prop}(hS:SR N ds w0 g0 (Ad H0 Aa) st g a w)(hk:cD cx st fn.results.toList σ Q) :
  ∃v,(results fn a.tmps).run P w=.ok v w∧∃r h' g',Q r h'∧BF g' w (AK h') r v∧Dk w0 g0 (Ad H0 Aa) h' g' w∧Le (Ad H0 Aa) g0 w0 h' g' w:=by
 obtain⟨g2,i1,i2⟩:=JI cx.pl.fin hS.inv;have Sw : SR N ds w0 g0 (Ad H0 Aa) ⟨st.t,MM st.h cx.pl.fin⟩ g2 a w:=⟨i1,hS.le.trans i2,hS.dfs,hS.size,fun i=>(hS.slots i).le i2⟩;obtain⟨l,vs,h1,h2,h3,h4,h5⟩:=Rt hT Sw _ hk;obtain⟨hR,j1,j2⟩:=IS hσ lJ i1 Sw.le;have CV:(results fn a.tmps).run P w=.ok (if h:vs.toArray.size=1 then vs.toArray[0]else .tuple vs.toArray) w:=by
  rw[NN,show fn.results=fn.results.toList.toArray by simp,List.mapM_toArray];simp only[Sem.run_bind,Sem.run_map,h2,Result.andThen_ok,Sem.run_pure]
 match l,vs,h1,h3,h5,CV with
 | [v],[x],h1,h3,h5,CV=>exact⟨x,by simpa using CV,_,_,_,h1,(h5 0 v x rfl rfl).ren hR,j1,j2⟩
 | [],vs,h1,h3,h5,CV =>
  have:vs=[]:=AJ h3
  subst this;exact⟨.tuple #[],by simpa using CV,_,_,_,h1,BF.ren hR (.tup _ [] _ rfl fun i av x q=>by simp at q),j1,j2⟩
 |v::v' :: l,vs,h1,h3,h5,CV =>
  refine⟨.tuple vs.toArray,?_,_,_,_,h1,BF.ren hR (.tup _ _ _ (by simpa using h3) fun i av x q1 q2=>h5 i av x q1 (by simpa using q2)),j1,j2⟩;rw[CV]
  have:vs.toArray.size≠1:=by simp[h3]
  simp only[this,dif_neg,not_false_eq_true]
theorem nR{fn:Func}{O4 s:Nat}{ps:Array Tmp}{Eb body rest:Code}(cx:Cx)(hP:cx.P=P)(hT:Cn P cx.T)(hm:P.follows .mixedOrders=true)(hx:cx.ext=true){σ:Hh}{H0 Hn:List (Nat×HO)}(hσ:(EH σ&&FA σ H0)=true)(qT:FA σ Hn=true)
  {env:Nat→AV} {gf:Nat} {caps:List AV} (hF:env s=.clo gf caps) {Qv:AV→(Nat→HO)→Prop}
  (tZ:∀(l D:Nat) (f' : FuncId) (tm:Array Value),tm.size=N→MU P (fun g w=>w.heap[l]?=some (.loop (E2 f' tm ps Eb body D .ready))∧∀i,BF g w (AK (Ad H0 Aa)) (env i) (tm.getD i undef)) σ gf
   (.v (.func (.yield l) #[] #[])::caps) (Ad H0 Aa) fun _ h'=>h'=Ad Hn Aa)
  (hcr:Dx N rest=true) (iP:Lz [] body=false) (fK:MX cx rest (TV cx fn.results.toList σ Qv) ⟨env,Ad Hn Aa⟩) (hY:∀l σ g w,cx.yp l σ g w)
  {a:Act} (ha:a.defers=[]) (hN:a.tmps.size=N) (hI:Dk w g (Ad H0 Aa) (Ad H0 Aa) g w) (Gr:∀i,BF g w (AK (Ad H0 Aa)) (env i) (a.tmps.getD i undef))
  {R:Ending→World→Prop} (hR:∀v r h' g' w',Qv r h'→BF g' w' (AK h') r v→Dk w g (Ad H0 Aa) h' g' w'→Le (Ad H0 Aa) g w h' g' w'→R (.returned v) w') :
  (Code.block O4 (.rangeFunc (.tmp s) ps Eb body)).wpIn (IZ none) 0 P (Exit.then (rest.wpIn (IZ none) 0 P (bodyPostM (IZ none) 0 P fn R)) (bodyPostM (IZ none) 0 P fn R)) a w:=by
 simp only[Af]at hσ;have hdl:∀f' tm D s,TU (.loop (E2 f' tm ps Eb body D s))=true:=fun _ _ _ _=>by show(!Lz [] body)=true;rw[iP];rfl
 refine wpIn_block (wpIn_rangeFunc fun f' _=>?_);have hs:=Gr s;rw[hF]at hs;have Xb:a.eval (.tmp s)=a.tmps.getD s undef:=rfl;generalize hfv:a.tmps.getD s undef=fv at hs Xb;cases hs with
 |clo _ _ _ lb Ew MN =>
 obtain⟨i0,s0⟩:=hI.allocS (n0:=w.heap.size) (x:=w.heap.size) (.deferred (some [])) (Ak _);obtain⟨i1,s1⟩:=i0.allocS (n0:=w.heap.size) (x:=w.heap.size) (.loop (E2 f' a.tmps ps Eb body w.heap.size .ready)) (by rw[World.size_alloc];omega);generalize hW:(w.alloc (.deferred (some []))).alloc (.loop (E2 f' a.tmps ps Eb body w.heap.size .ready))=W1 at i1 s1;have nl:W1.heap.size=w.heap.size+2:=by rw[←hW,World.size_alloc,World.size_alloc]
 have hl:W1.heap[w.heap.size+1]?=some (.loop (E2 f' a.tmps ps Eb body w.heap.size .ready)):=by
  rw[←hW]
  have:=World.alloc_heap_new (w.alloc (.deferred (some []))) (.loop (E2 f' a.tmps ps Eb body w.heap.size .ready))
  rwa [World.size_alloc]at this
 have hD:W1.heap[w.heap.size]?=some (.deferred (some [])):=by
  rw[←hW,heap_alloc_old _ _ (by rw[World.size_alloc];omega)];exact World.alloc_heap_new w _
 have Nw:∀b ob,W1.heap[b]?=some ob→TU ob=true→∀r,((Ad H0 Aa) r).live→g.own r≠some b:=fun b ob hb hd r hr e=>KE (i1.objs r) hr e hb hd;have S1:=s0.trans s1;have hit:=tZ (w.heap.size+1) w.heap.size f' a.tmps hN
 refine⟨w.heap.size+1,[{ target:=.collected w.heap.size,args:=#[] }],W1,{ target:=.fn (.func gf) lb,args:=#[.func (.yield (w.heap.size+1)) #[] #[]] },W1,gf,
  #[.func (.yield (w.heap.size+1)) #[] #[]]++lb,W1,?_,?_,fun _ _=>trivial,?_,fun e=>(by cases e),?_⟩
 ·rw[←hW];exact run_enterLoop_outer _ _ _ _ _
 ·simp only[resolve,Xb];simp[go_sem]
 ·simp only[invoke];rw[F0 hit.1]
 refine callsIn_wide.2 ((hit.2 g W1 _ (by simp[Ew];omega) (fun i av x e1 e2=>?_) i1 (fun h' g' w' q1 q2=>?_)).mono ?_)
 ·cases i with
  |zero =>
   simp only[Bi,Bq]at e1;rw[EO]at e2
   have:x=.func (.yield (w.heap.size+1)) #[] #[]:=(CC e2).symm
   subst e1;subst this;exact .v _ _
  |succ i =>
   have e2:lb[i]?=some x:=by rw[←e2,EO];simp
   exact(MN i av x (by simpa using e1) e2).le S1.le
 ·obtain⟨_,_,j2⟩:=IS hσ.1 hσ.2 q1 q2;refine⟨(q1.frame _ (by omega) (Nw _ _ hl (hdl _ _ _ _))).trans hl,fun i=>?_⟩;exact((Gr i).le S1.le).mono j2.keeps (fun _ h=>h) j2.gh
 rintro e w2 ⟨v,r,h',g2,rfl,rfl,_,q3,q4⟩
 have YU:w2.heap[w.heap.size+1]?=some (.loop (E2 f' a.tmps ps Eb body w.heap.size .ready)):=(q3.frame _ (by omega) (Nw _ _ hl (hdl _ _ _ _))).trans hl;have tU:w2.heap[w.heap.size]?=some (.deferred (some [])):=(q3.frame _ (by omega) (Nw _ _ hD rfl)).trans hD;refine⟨none,_,run_endLoop YU (fun e=>by cases e),?_⟩;obtain⟨i4,s4⟩:=q3.base.put (n0:=w.heap.size) (x:=w.heap.size) (o':=.loop { E2 f' a.tmps ps Eb body w.heap.size .ready with state:=.exhausted }) YU (hdl _ _ _ _) (hdl f' a.tmps w.heap.size .exhausted) (.inl (by omega));have S4:=(S1.trans (Vp.of_inv q3 q4 (by omega))).trans s4;generalize hW4:w2.putObj (w.heap.size+1) (.loop { E2 f' a.tmps ps Eb body w.heap.size .ready with state:=.exhausted })=w4 at i4 s4 S4;have mQ:w4.heap[w.heap.size]?=some (.deferred (some [])):=by rw[←hW4,World.putObj_heap_other (by omega)];exact tU
 have hE:H9 cx (Ad Hn Aa):=by unfold H9;rw[hx];exact fun i hi=>⟨(EU qT i hi).1,(EU qT i hi).2.1⟩
 have ud:SR N [{ target:=.collected w.heap.size,args:=#[] }] w4 g2 (Ad Hn Aa) ⟨env,Ad Hn Aa⟩ g2 { a with defers:=[{ target:=.collected w.heap.size,args:=#[] }]++a.defers } w4 :=
  ⟨i4,.refl _ _ _,by simp[ha],hN,fun i=>(Gr i).le S4.le⟩
 refine JX hP hT hm hE (fun l σ _ _ w _ _ _=>hY l σ _ w) none rest hcr (fun e nZ g5 a5 w5 hq VM=>?_) ud fK;have fin:cD cx nZ fn.results.toList σ Qv→LeavesInM (IZ none) 0 P fn a5.tmps R a5.defers .returning w5:=by
  intro hk;have pQ:w5.heap[w.heap.size]?=some (.deferred (some [])):=(VM.inv.frame _ (Bl.1 mQ).1 (fun r hr e=>KE (i4.objs r) hr e mQ rfl)).trans mQ;rw[VM.dfs];refine⟨by simp,.inl ⟨w.heap.size,_,rfl,run_takeDeferred pQ,?_⟩⟩;obtain⟨i6,s6⟩:=VM.inv.base.put (n0:=w.heap.size) (x:=w.heap.size) (o':=.deferred none) pQ rfl rfl (.inr rfl);have ue:SR N [{ target:=.collected w.heap.size,args:=#[] }] (w5.putObj w.heap.size (.deferred none)) g5 nZ.h nZ g5 a5 (w5.putObj w.heap.size (.deferred none)):=⟨i6,.refl _ _ _,VM.dfs,VM.size,fun i=>(VM.slots i).le s6.le⟩;have S6:=(S4.trans (Vp.of_inv VM.inv VM.le (Bh (Ak _) S4.size))).trans s6;obtain⟨v,k2,r,h7,g7,k1,k5,k3,k4⟩:=ap (H0:=H0) hT hσ.1 hσ.2 (SR.rebase ue (i6.of_seg S6 fun h=>absurd h (Nat.lt_irrefl _)) S6.le) hk;exact⟨v,k2,hR v r h7 g7 _ k1 k5 k3 k4⟩
 cases e with
 |normal=>exact fin hq
 |ret=>exact fin hq
 |exit id=>exact hq.elim
end
end Go.Eng

namespace Go.Eng
section
variable {P:Program}{N:Nat}{w:World}{g:Gh}
theorem dj(o k r:Nat){H:List (Nat×HO)}(cx:Cx)(hP:cx.P=P)(hT:Cn P cx.T)(hm:P.follows .mixedOrders=true)(hx:cx.ext=true){σ:Hh}(hσ:(EH σ&&FA σ H)=true){fn:FuncId}{tm:Array Value}{ps:Array Tmp}{Eb body:Code}{D l:Nat}
  {env:Nat→AV} {args:List AV} {U:Nat→Prop} {Q:AV→(Nat→HO)→Prop} (jY:args.length=ps.toList.length) (hN:tm.size=N) (vd:(ps.toList.all fun p=>Nat.blt p N)=true) (uu:Dx N Eb=true) (qg:Dx N body=true)
  (hU:∀i,U i→AK (Ad H Aa) i)
  (hk:MX cx Eb (fun e st=>match e with | .normal=>MX cx body (fun e st=>match e with | .normal=>sq st.h o k r fun h'=>Q (.v (.bool true)) (E3 σ (MM h' cx.pl.fin)) | _=>False) st | _=>False) ⟨bx ps.toList args env,Ad H Aa⟩)
  (hY:∀l σ g w,cx.yp l σ g w:=by exact fun _ _ _ _=>trivial) (iP:Lz [] body=false:=by kernel_rfl) :
  GH P (fun g w=>w.heap[l]?=some (.loop (E2 fn tm ps Eb body D .ready))∧∀i,BF g w U (env i) (tm.getD i undef)) l args (Ad H Aa) Q:=by
 simp only[Af]at hσ;intro g w vals hs hv hI ⟨hl,Gr⟩;have Dt:l<w.heap.size:=(Bl.1 hl).1;have hdl:∀s,TU (.loop (E2 fn tm ps Eb body D s))=true:=fun s=>by show(!Lz [] body)=true;rw[iP];rfl
 have hE:H9 cx (Ad H Aa):=by unfold H9;rw[hx];exact fun i hi=>⟨(EU hσ.2 i hi).1,(EU hσ.2 i hi).2.1⟩
 have Nw:∀r,((Ad H Aa) r).live→g.own r≠some l:=fun r hr e=>KE (hI.objs r) hr e hl (hdl _);have Xe:∀(t0:Array Value),(ps.zip vals).foldl (fun tmps (p:Nat×Value)=>tmps.setIfInBounds p.1 p.2) t0=(ps.toList.zip vals.toList).foldl (fun t p=>t.setIfInBounds p.1 p.2) t0:=fun t0=>by
  rw[←NV,Array.toList_zip]
 have vr:=run_yield (P:=P) (args:=vals) hl (by simp only[hs,jY,Cs]);refine⟨fn,_,Eb,body,vr,roundIn_of_wpIn trivial ?_⟩;obtain⟨z1,z2⟩:=Sf (U:=AK (Ad H Aa)) (ps:=ps.toList) (args:=args) (vals:=vals.toList) (tm:=tm) (env:=env) (by simpa using hs) jY (fun p hp=>by
  have:=(BB.1 vd) p hp
  rw[hN];simpa using this) (fun i av x e1 e2=>hv i av x e1 (by simpa using e2)) (fun i=>(Gr i).mono (.refl _ _) hU (.refl _ _))
 have ub:SR N [] w g (Ad H Aa) ⟨bx ps.toList args env,Ad H Aa⟩ g { tmps:=(ps.zip vals).foldl (fun tmps (p:Nat×Value)=>tmps.setIfInBounds p.1 p.2) tm,defers:=[] } w:=by
  refine⟨hI,.refl _ _ _,rfl,?_,fun i=>?_⟩
  ·rw[Xe];exact z1.trans hN
  ·rw[Xe];exact z2 i
 refine JX hP hT hm hE (fun l σ _ _ w _ _ _=>hY l σ _ w) (some l) Eb uu (fun e st1 g1 a1 w1 hq Ya=>?_) ub hk;cases e with
 |exit _=>exact hq.elim
 |ret=>exact hq.elim
 |normal =>
  have uL:w1.heap[l]?=some (.loop (E2 fn tm ps Eb body D .ready)):=(Ya.inv.frame l Dt Nw).trans hl;refine⟨_,run_beginRound uL rfl,?_⟩;obtain⟨iS,sS⟩:=hI.put (n0:=w.heap.size) (x:=l) (o':=.loop (E2 fn tm ps Eb body D .busy)) hl (hdl _) (hdl _) (.inr rfl);have uM:(w.putObj l (.loop (E2 fn tm ps Eb body D .busy))).heap[l]?=some (.loop (E2 fn tm ps Eb body D .busy)):=World.putObj_heap_same Dt;have j9:(w.putObj l (.loop (E2 fn tm ps Eb body D .busy))).heap.size=w.heap.size:=by simp[World.putObj]
  obtain⟨_,sB⟩:=iS.dullS (w':=w) (n0:=w.heap.size) (x:=l) ⟨rfl,rfl,rfl⟩ (by rw[j9];exact Ak _) (fun b _=>by
   by_cases e:b=l
   ·subst e;exact .inr ⟨_,_,uM,hl,hdl _,hdl _⟩
   ·exact .inl (World.putObj_heap_other e).symm) (fun b _ Dn=>(World.putObj_heap_other Dn).symm)
  obtain⟨i2,s2⟩:=Ya.inv.base.put (n0:=w.heap.size) (x:=l) (o':=.loop (E2 fn tm ps Eb body D .busy)) uL (hdl _) (hdl _) (.inr rfl);have S2:=(sB.trans (Vp.of_inv Ya.inv Ya.le (Ak _))).trans s2;have YU:(w1.putObj l (.loop (E2 fn tm ps Eb body D .busy))).heap[l]?=some (.loop (E2 fn tm ps Eb body D .busy)):=World.putObj_heap_same (Bl.1 uL).1;have zt:=i2.of_seg (by rw[j9];exact S2) (fun _=>YU.trans uM.symm);have uc:SR N [] (w.putObj l (.loop (E2 fn tm ps Eb body D .busy))) g (Ad H Aa) st1 g1 a1 (w1.putObj l (.loop (E2 fn tm ps Eb body D .busy))):=⟨zt,S2.le,Ya.dfs,Ya.size,fun i=>(Ya.slots i).le s2.le⟩;refine JX hP hT hm hE (fun l σ _ _ w _ _ _=>hY l σ _ w) (some l) body qg (fun e st3 g3 a3 w3 hq du=>?_) uc hq;cases e with
  |exit _=>exact hq.elim
  |ret=>exact hq.elim
  |normal =>
   obtain⟨h3,g3',du,hq⟩:=ik du hq;have r7:w3.heap[l]?=some (.loop (E2 fn tm ps Eb body D .busy)):=(du.inv.frame l (by rw[j9];exact Dt) Nw).trans uM;refine⟨.bool true,w3.putObj l (.loop (E2 fn tm ps Eb body D .ready)),run_endRound none r7,?_⟩;obtain⟨gf,oL,qU⟩:=JI cx.pl.fin du.inv;obtain⟨i4,s4⟩:=oL.base.put (n0:=w.heap.size) (x:=l) (o':=.loop (E2 fn tm ps Eb body D .ready)) r7 (hdl _) (hdl _) (.inr rfl);have S4:=(sS.trans (Vp.of_inv oL (du.le.trans qU) (by rw[j9];exact Ak _))).trans s4;have zU:(w3.putObj l (.loop (E2 fn tm ps Eb body D .ready))).heap[l]?=some (.loop (E2 fn tm ps Eb body D .ready)):=World.putObj_heap_same (Bl.1 r7).1;have zu:=i4.of_seg S4 (fun _=>zU.trans hl.symm);obtain⟨_,j1,j2⟩:=IS hσ.1 hσ.2 zu S4.le;exact⟨.bool true,.v (.bool true),_,_,rfl,hq,.v _ _,j1,j2⟩

end
def oN(h:Nat→HO)(o k r sz:Nat)(K:(Nat→HO)→Prop):Prop :=
 match h o with
 |.cells cs=>match IX cs k with
  |.v (.slice none 0 0)=>match h r with
   |.free=>K (AT (AT h r (.var sz 0 0)) o (.cells (Er cs k (.slice (.ver r sz 0) []))))
   |_=>False
  |_=>False
 |_=>False
section
variable {P:Program}{N:Nat}{ds:List Deferred}{w0:World}{g0:Gh}{h0:Nat→HO}{st:St}{g:Gh}{a:Act}{w:World}
theorem nD(hS:SR N ds w0 g0 h0 st g a w){o k r sz:Nat}{K:(Nat→HO)→Prop}(hk:oN st.h o k r sz K):∃h' g',SR N ds w0 g0 h0 ⟨st.t,h'⟩ g' a w∧K h':=by
 unfold oN at hk;split at hk
 ·rename_i cs e0;split at hk
  ·rename_i e1;split at hk
   ·rename_i hf;have iT:o≠r:=fun e=>by rw[e,hf]at e0;cases e0
    have VP:=I4 cs k _ e1 (by simp)
    obtain⟨m1,m2⟩:=hS.inv.upd r (.var sz 0 0) (.slice none 0 0) 0 true none g.S w none ⟨rfl,rfl,rfl,Ak _⟩ (fun _ _ _=>rfl) (fun b e=>by cases e) (fun _ _ h=>h) (fun _ _ h=>.inl h) (fun b o e=>by cases e) (fun b hh e=>by first | (cases e;done) | (exact absurd hh.2 (by simp))) (by simp)
     (fun hu=>absurd hf hu) (fun _ _=>by
      obtain⟨u1,u2,u3,u4⟩:=BJ g r (.slice none 0 0) 0 true none g.S;exact⟨u3,u2,none,0,u1,.inl ⟨rfl,u4⟩⟩)
    generalize TZ:g.upd r (.slice none 0 0) 0 true none g.S=g1 at m1 m2;have gr:g1.tk r=true∧g1.ln r=0∧g1.ρ r=.slice none 0 0:=by rw[←TZ];simp[Gh.upd]
    have mH : (AT st.h r (.var sz 0 0)) o=.cells cs:=by rw[B3 _ _ _ _ iT,e0]
    obtain⟨g3,p1,p2⟩:=Ob m1 mH VP (new:=.slice (.ver r sz 0) []) (fun y hy=>by
     cases hy
     exact .ver _ r sz 0 [] _ (.snil _ _ _) (fun c hc=>by cases hc) (by unfold AK;rw[A9];simp) gr.1 (AS _) (fun _=>gr.2.2.symm))
    exact⟨_,g3,⟨p1,hS.le.trans (m2.trans p2),hS.dfs,hS.size,fun i=>(hS.slots i).le (m2.trans p2)⟩,hk⟩
   ·exact hk.elim
  ·exact hk.elim
 ·exact hk.elim
def sC(o k r sz:Nat)(Ph:Cx)(P:Program)(N:Nat)(fn:Func)(σ:Hh)(Q:AV→(Nat→HO)→Prop)(b rest:Code)(st:St):Prop :=
 oN st.h o k r sz fun h1 =>
  ∃(σF σr:Hh) (H0 Hn:List (Nat×HO)) (O4 s:Nat) (ps:Array Tmp) (Eb body:Code) (gf:Nat) (caps:List AV),
  b=.block O4 (.rangeFunc (.tmp s) ps Eb body)∧(DZ σF&&Dq h1 0 0&&CZ σF 0 0)=true∧E3 σF h1=Ad H0 Aa∧(EH σr&&FA σr H0)=true∧FA σr Hn=true ∧
  ren (Ch σF) h1 (st.t s)=.clo gf caps ∧
  (∀(l D:Nat) (f' : FuncId) (tm:Array Value),tm.size=N→MU P (fun g w=>w.heap[l]?=some (.loop (E2 f' tm ps Eb body D .ready))∧∀i,BF g w (AK (Ad H0 Aa)) (ren (Ch σF) h1 (st.t i)) (tm.getD i undef)) σr gf
   (.v (.func (.yield l) #[] #[])::caps) (Ad H0 Aa) fun _ h'=>h'=Ad Hn Aa) ∧
  Dx N rest=true∧Lz [] body=false∧MX Ph rest (TV Ph fn.results.toList σr fun r h'=>Q (ren (Ch σ) (D2 σF 0 0 h1 h') (ren (E7 σF 0 0) h' r)) (E3 σ (D2 σF 0 0 h1 h')))
   ⟨fun i=>ren (Ch σF) h1 (st.t i),Ad Hn Aa⟩
theorem aR (o k r sz : Nat) {f : Nat} {fn : Func} {c : Code} {args : List AV} {H : List (Nat × HO)} {Q : AV → (Nat → HO) → Prop} (cx Ph : Cx) (σ : Hh) (hP : cx.P = P) (hT : Cn P cx.T) (ua : Ph.P = P) (ug : Cn P Ph.T) (hm : P.follows .mixedOrders = true) (hx : cx.ext = true) (oJ : Ph.ext = true) (hf : P.funcs[f]? = some fn) (hn : (fn.name == "runtime.NumGoroutine") = false)
  (hb:fn.body=some c) (hN:args.length≤fn.ntmps) (hc:Dx fn.ntmps c=true) (hσ:(EH σ&&FA σ H)=true) (n:Nat)
  (hk:dP cx n c (TV cx fn.results.toList σ fun r h'=>∃r',GO r r'∧Q r' h') (sC o k r sz Ph P fn.ntmps fn σ fun r h'=>∃r',GO r r'∧Q r' h') ⟨LA args,Ad H Aa⟩)
  (hY:∀l σ g w,cx.yp l σ g w:=by exact fun _ _ _ _=>trivial) (ui:∀l σ g w,Ph.yp l σ g w:=by exact fun _ _ _ _=>trivial):Bn P f args (Ad H Aa) Q:=by
 refine Bn.mono (Q:=fun r h'=>∃r',GO r r'∧Q r' h') ?_ fun _ _ ⟨r',s,q⟩=>⟨r',s,q⟩;simp only[Af]at hσ;refine⟨⟨fn,hf,hn,by simp[hb]⟩,fun g w vals hs hv hI=>callsIn_wide.1 (callsIn_of_wp_marks (F:=Fence.wide) (n:=0) hf hb trivial ?_ rfl)⟩;have hE:H9 cx (Ad H Aa):=by unfold H9;rw[hx];exact fun i hi=>⟨(EU hσ.2 i hi).1,(EU hσ.2 i hi).2.1⟩
 have hS:SR fn.ntmps [] w g (Ad H Aa) ⟨LA args,Ad H Aa⟩ g { tmps:=vals++Array.replicate (fn.ntmps-vals.size) undef,defers:=[] } w:=by
  refine⟨hI,.refl _ _ _,rfl,by simp[hs];omega,fun i=>?_⟩
  have:=LV (n:=fn.ntmps-vals.size) (args:=args) (vals:=vals.toList) (by simpa using hs) (fun i av x q1 q2=>hv i av x q1 (by simpa using q2)) i
  rw[Cp,←A4];rw[B1]at this;simpa using this
 refine ZD hP hT hm hE (fun l σ _ _ w _ _ _=>hY l σ _ w) (fun e st g' a w' Dn hk hS=>?_) (fun b rest st g' a w' hk hS=>?_) n c hc hS hk
 ·have out:cD cx st fn.results.toList σ (fun r h'=>∃r',GO r r'∧Q r' h')→LeavesInM (IZ none) 0 P fn a.tmps (fun e w'=>∃v r h' g',e=Ending.returned v∧(∃r',GO r r'∧Q r' h')∧BF g' w' (AK h') r v∧Dk w g (Ad H Aa) h' g' w'∧Le (Ad H Aa) g w h' g' w') a.defers .returning w':=by
   intro hk;obtain⟨v,q2,r,h',g2,q1,q3,q4,q5⟩:=ap hT hσ.1 hσ.2 hS hk;rw[hS.dfs];exact⟨v,q2,v,r,h',g2,rfl,q1,q3,q4,q5⟩
  cases e with
  |normal=>exact absurd rfl Dn
  |ret=>exact out hk
  |exit id=>exact hk.elim
 ·obtain⟨h1,g',hS,hk⟩:=nD hS hk;obtain⟨σF,σr,H0,Hn,O4,s,ps,Eb,body,gf,caps,rfl,k1,k2,k3,k4,k5,k6,k7,k9,k8⟩:=hk;have vE:DZ σF=true:=by simp only[Af]at k1;exact k1.1.1
  obtain⟨mS,pR⟩:=Sv hS.inv vE;rw[k2]at pR;have Gr:∀i,BF (CA σF g') w' (AK (Ad H0 Aa)) (ren (Ch σF) h1 (st.t i)) (a.tmps.getD i undef):=fun i=>by
   have:=(hS.slots i).ren mS
   rwa [k2]at this
  refine Kl (Q:=fun r h'=>∃r',GO (ren (Ch σ) (D2 σF 0 0 h1 h') (ren (E7 σF 0 0) h' r)) r'∧Q r' (E3 σ (D2 σF 0 0 h1 h'))) (C:=fun R'=>(∀e Qb,R' e Qb→(∃v r h' g',e=Ending.returned v∧(∃r',GO r r'∧Q r' h')∧BF g' Qb (AK h') r v∧Dk w g (Ad H Aa) h' g' Qb∧Le (Ad H Aa) g w h' g' Qb)) →
   (Code.block O4 (.rangeFunc (.tmp s) ps Eb body)).wpIn (IZ none) 0 P (Exit.then (rest.wpIn (IZ none) 0 P (bodyPostM (IZ none) 0 P fn (fun e Qb=>∃v r h' g',e=Ending.returned v∧(∃r',GO r r'∧Q r' h')∧BF g' Qb (AK h') r v∧Dk w g (Ad H Aa) h' g' Qb∧Le (Ad H Aa) g w h' g' Qb))) (bodyPostM (IZ none) 0 P fn (fun e Qb=>∃v r h' g',e=Ending.returned v∧(∃r',GO r r'∧Q r' h')∧BF g' Qb (AK h') r v∧Dk w g (Ad H Aa) h' g' Qb∧Le (Ad H Aa) g w h' g' Qb))) a w')
   (fun h k h2=>h fun e w r=>h2 _ _ (k _ _ r)) hS.inv (d:=0) (nn:=0) k1 (fun _ Xm=>?_) (fun v r h' g2 w2 q1 q2 q3 q4=>?_) (fun _ _ h=>h)
  ·rw[k2]at Xm;exact nR Ph ua ug hm oJ k3 k4 k5 k6 k7 k9 k8 ui hS.dfs hS.size pR Gr fun v r h' g5 w5 q1 q2 q3 q4=>Xm _ _ ⟨v,r,h',g5,rfl,q1,q2,q3,q4⟩
  ·obtain⟨hR,j1,j2⟩:=IS hσ.1 hσ.2 q2 (hS.le.trans q3);exact⟨v,_,_,_,rfl,q1,q4.ren hR,j1,j2⟩
end
end Go.Eng

namespace Go.Eng
section
variable {P:Program}{N:Nat}{w:World}{g:Gh}
theorem Pa{Y:Gh→World→Prop}{l:Nat}{f:Nat}{fn:Func}{c:Code}{args:List AV}{H0:List (Nat×HO)}{Q:AV→(Nat→HO)→Prop}(cx:Cx)(σ σy:Hh)(hP:cx.P=P)(hT:Cn P cx.T)(hm:P.follows .mixedOrders=true)(hx:cx.ext=true)(hf:P.funcs[f]?=some fn)
  (hn : (fn.name == "runtime.NumGoroutine") = false) (hb : fn.body = some c) (hN : args.length ≤ fn.ntmps) (hc : Dx fn.ntmps c = true) (hσ : (EH σ && FA σ H0) = true)
  (hy:cx.yp=fun l' σ' g w=>l'=l→σ'=σy→Y g w)
  (FK:∀g w h' g' w',Dk w g (Ad H0 Aa) (Ad H0 Aa) g w→Dk w g (Ad H0 Aa) h' g' w'→Le (Ad H0 Aa) g w h' g' w'→Y g w→Y (CA σy g') w')
  (hk:MX cx c (TV cx fn.results.toList σ Q) ⟨LA args,Ad H0 Aa⟩):FS P Y f args (Ad H0 Aa) Q :=
 ⟨⟨fn,hf,hn,by simp[hb]⟩,fun g w vals hs hv hI hY=>Ov cx σ hP hT hm hx hf hn hb hN hc hσ hk hs hv hI fun l' σ' h' g' w' _ q1 q2=>by
  rw[hy];intro _ e;subst e;exact FK g w h' g' w' hI q1 q2 hY⟩
theorem FS.imp{Y:Gh→World→Prop}{f:Nat}{args:List AV}{h0:Nat→HO}{Q Q' : AV→(Nat→HO)→Prop}(h:FS P Y f args h0 Q)(hq:∀r h',Q r h'→Q' r h'):FS P Y f args h0 Q' :=
 ⟨h.1,fun g w vals a b c d=>(h.2 g w vals a b c d).mono fun _ _ ⟨v,r,h',g',e,q,k⟩=>⟨v,r,h',g',e,hq r h' q,k⟩⟩
theorem FS.pre{Y Y' : Gh→World→Prop}{f:Nat}{args:List AV}{h0:Nat→HO}{Q:AV→(Nat→HO)→Prop}(h:FS P Y f args h0 Q)(hp:∀g w,Y' g w→Y g w):FS P Y' f args h0 Q :=
 ⟨h.1,fun g w vals a b c d=>h.2 g w vals a b c (hp g w d)⟩
theorem bU{Y0 Y:Gh→World→Prop}{l:Nat}{f:Nat}{fn:Func}{c:Code}{args:List AV}{H0:List (Nat×HO)}{Q:AV→(Nat→HO)→Prop}(cx:Cx)(σ σy:Hh)(hP:cx.P=P)(hT:Cn P cx.T)(hm:P.follows .mixedOrders=true)(hx:cx.ext=true)(hf:P.funcs[f]?=some fn)
  (hn : (fn.name == "runtime.NumGoroutine") = false) (hb : fn.body = some c) (hN : args.length ≤ fn.ntmps) (hc : Dx fn.ntmps c = true) (hσ : (EH σ && FA σ H0) = true)
  (hy:cx.yp=fun l' σ' g w=>l'=l→σ'=σy→Y g w) (tr:∀g w,Y0 (CA σ g) w→Y (CA σy g) w)
  (hk:MX cx c (TV cx fn.results.toList σ Q) ⟨LA args,Ad H0 Aa⟩):MU P Y0 σ f args (Ad H0 Aa) Q :=
 ⟨⟨fn,hf,hn,by simp[hb]⟩,fun g w vals hs hv hI hp=>Ov cx σ hP hT hm hx hf hn hb hN hc hσ hk hs hv hI fun l' σ' h' g' w' _ q1 q2=>by
  rw[hy];intro _ e;subst e;exact tr _ _ (hp h' g' w' q1 q2)⟩
theorem kN{σ σ' : Hh}{U:Nat→Prop}(h:∀i,U i→Gx σ' i=Gx σ i){R:World→Prop}{tm:Array Value}{env:Nat→AV} :
  ∀g w,(R w∧∀i,BF (CA σ g) w U (env i) (tm.getD i undef))→(R w∧∀i,BF (CA σ' g) w U (env i) (tm.getD i undef)):=fun g w ⟨h1,h2⟩ =>
 ⟨h1,fun i=>(h2 i).mono (show EP (CA σ g) w (CA σ' g) w from fun b o hs=>⟨hs,rfl,fun _ _ e=>e⟩) (fun _ h=>h) fun j hj=>by
  have e:=h j hj;unfold CA;dsimp only;rw[e];exact⟨rfl,Ak _,fun _=>rfl,fun _=>rfl⟩⟩
end
end Go.Eng

namespace Go.Eng
open Go.Sort
section
variable {P:Program}
theorem Yj{f fF:Nat}{caps:List AV}{es:List (List AV)}{sz:Nat}{n' : Nat}{Q:List (List AV)→Prop}(hE:Gb P f)(Dn:es≠[])(Xk : n'≤es.length)
  (h1:∀(g:Gh) (w:World) (b cap:Nat) (F lb:Array Value),CE g w E8 es.flatten F.toList→F.size=es.length*sz→Holds id w b 0 F→b<w.heap.size→es.length≤cap→(∀o,¬g.S b o)→(∀b' o,g.S b' o→b' < w.heap.size)→lb.size=caps.length →
   (∀(i:Nat) (av:AV) (x:Value),caps[i]?=some av→lb[i]?=some x→BF g w (AK (Ad [(1000,.arr sz es)] Aa)) av x)→Calls P f #[.slice (some ⟨b,0,none⟩) es.length cap,.func (.func fF) #[] lb] w fun e w' =>
   e=.returned (.slice (some ⟨b,0,none⟩) n' cap)∧∃(F' : Array Value) (EA : List (List AV)) (n:Nat) (os:Array Obj),F'.size=F.size∧Q EA∧EA.length=es.length∧(∀cs∈EA,cs.length=sz) ∧
    (∀(g:Gh) (w:World),CE g w E8 es.flatten F.toList→CE g w E8 EA.flatten F'.toList)∧w'=grow (putRow id (Sort.ahead w n) b 0 F') os) :
  Bn P f [.msl 1000 es.length,.clo fF caps] (Ad [(1000,.arr sz es)] Aa) fun r h'=>r=.msl 2000 n'∧∃EA,Q EA∧h'=Ad [(1000,.dead),(2000,.arr sz (EA.take n'))] Aa:=by
 refine⟨hE,fun g w us hs hv hI=>?_⟩;have ho:=hI.objs 1000;have he:Ad [(1000,HO.arr sz es)] Aa 1000=.arr sz es:=rfl;rw[he]at ho;obtain⟨t1,l1,al,a2⟩:=ho;simp only[Al,Ar]at hs;have qO:0<us.size:=by omega
 have bP:=hv 0 (.msl 1000 es.length) us[0] rfl (Ba qO);have hval:us[0]=g.ρ 1000:=by
  generalize us[0]=x at bP;cases bP with
  |msl _ r n a cap hu ht hn ha hx=>exact hx l1.symm
 have hu1:1<us.size:=by omega
 have Xn:=hv 1 (.clo fF caps) us[1] rfl (Ba hu1);obtain⟨lb,uN,Rg,ly⟩:∃lb:Array Value,us[1]=.func (.func fF) #[] lb∧lb.size=caps.length∧∀(i:Nat) (av:AV) (x:Value),caps[i]?=some av→lb[i]?=some x→BF g w (AK (Ad [(1000,.arr sz es)] Aa)) av x:=by
  generalize us[1]=x at Xn;cases Xn with
  |clo _ _ _ lb Ew MN=>exact⟨lb,rfl,Ew,MN⟩
 have Kw:us=#[g.ρ 1000,.func (.func fF) #[] lb]:=by
  refine RA (by simp;omega) fun i h1 h2=>?_
  match i,h1 with
  |0,_=>rw[hval];rfl
  |1,_=>rw[uN];rfl
  |i+2,h1=>simp at hs;omega
 rw[Kw];rcases a2 with ⟨b1,b2,b3⟩ | ⟨b,cap,E,vs,b1,b2,b3,b4,b5,b6,b7⟩
 ·exact absurd b1 Dn
 ·have hl:(Ad [(1000,HO.arr sz es)] Aa 1000).live:=trivial;have Dt:=(hI.loc 1000 b hl b2).1;have HI:es.length*sz≤vs.size:=by rw[b5];exact Bc _ b3
  have hF:((vs.toList.take (es.length*sz)).toArray).size=es.length*sz:=by simp;omega
  have hH:Holds id w b 0 (vs.toList.take (es.length*sz)).toArray:=fun j hj=>by
   have hj:j<es.length*sz:=by rw[hF]at hj;exact hj
   refine⟨?_,?_⟩
   ·have m8:j<vs.size:=by omega
    simp only[World.cell?,b4,Bd,N2,CT,FL];rw[Ba m8,DH _ j (by rw[hF];exact hj)];simp
   ·simp[World.frozen?,b4]
  rw[b1];refine(h1 g w b cap _ lb (by simpa using b6) hF hH Dt b3 b7 hI.slt Rg ly).mono ?_
  rintro e w' ⟨rfl,F',EA,n,os,f1,f2,f3,f4,f5,rfl⟩
  have lp : F'.size=es.length*sz:=f1.trans hF;have lD:=J8 F' vs (by omega);have iO : (grow (putRow id (Sort.ahead w n) b 0 F') os).heap[b]?=some (.cells (putCells id 0 F' vs) E (0,0)):=by
   rw[heap_grow_old _ _ (by rw[size_putRow];exact Dt)];show(w.heap.modify b (onCells (putCells id 0 F')))[b]?=_;rw[Lj,Aw rfl,b4];rfl
  have nf:∀k,k<w.heap.size→k≠b→(grow (putRow id (Sort.ahead w n) b 0 F') os).heap[k]?=w.heap[k]?:=fun k hk Dn=>by
   rw[heap_grow_old _ _ (by rw[size_putRow];exact hk)];simp[putRow,mapBlock,Array.getElem?_modify,Ne.symm Dn]
  have Ew:w.heap.size≤(grow (putRow id (Sort.ahead w n) b 0 F') os).heap.size:=by rw[size_grow,size_putRow];show w.heap.size≤w.heap.size+_;omega
  obtain⟨k1,k2⟩:=hI.upd 1000 (.arr sz EA) (g.ρ 1000) (g.ln 1000) (g.tk 1000) (g.own 1000) g.S (grow (putRow id (Sort.ahead w n) b 0 F') os) (some b) ⟨rfl,rfl,rfl,Ew⟩
   (fun k hk Dn=>nf k hk (fun e=>Dn (by rw[e]))) (fun b' e=>by cases e;exact⟨hl,b2⟩) (fun _ _ h=>h) (fun _ _ h=>.inl h) (fun b' o e hs=>by cases e;exact absurd hs (b7 o))
   (fun b' _ e=>by rw[b2]at e;cases e;exact⟨BK Dt Ew,.inl ⟨hl,b2⟩⟩) (by simp) (fun _=>⟨rfl,Ak _,fun _=>rfl,fun _=>rfl⟩) (fun hg hk=>by
    refine⟨by simp[Gh.upd,t1],by simp[Gh.upd,l1,f3],f4,.inr ⟨b,cap,E,_,by simp[Gh.upd,b1,f3],by simp[Gh.upd,b2],by omega,iO,by rw[lD.2,b5],?_,b7⟩⟩
    have:=f5 g w (by simpa using b6)
    rw[f3,←lp,lD.1];exact this.mono hk (fun _ h=>h) (fun _ h=>h.elim))
  rw[Nv]at k1 k2;generalize Xf : g.upd 1000 (g.ρ 1000) (g.ln 1000) (g.tk 1000) (g.own 1000) g.S=g' at k1 k2;have lB : g'.own 1000=some b:=by rw[←Xf];simp[Gh.upd,b2]
  have fG:=k1.objs 1000;have dw:Ad [(1000,HO.arr sz EA)] Aa 1000=.arr sz EA:=rfl;rw[dw]at fG;obtain⟨m1,m2,m3,m4⟩:=fG;have hρ:g'.ρ 1000=.slice (some ⟨b,0,none⟩) es.length cap:=by rw[←Xf];simp[Gh.upd,b1]
  have na : EA≠[]:=fun e=>Dn (AJ (by rw[←f3,e];rfl));rcases m4 with ⟨m4,_⟩ | ⟨b',Oa,E',iL,c1,c2,c3,c4,c5,c6,c7⟩
  ·exact absurd m4 na
  ·rw[hρ]at c1;simp only[Value.slice.injEq,Bq,Addr.mk.injEq,RL]at c1;obtain⟨tg,yU,th⟩:=c1;subst tg;subst th;have VR : (EA.take n').length=n':=by rw[AN];omega
   obtain⟨k3,k4⟩:=k1.move 1000 2000 (by decide) rfl trivial lB (.arr sz (EA.take n')) (.slice (some ⟨b,0,none⟩) n' cap) n' true (by simp) (fun hk=>by
    refine⟨by simp[Gh.upd],by simp[Gh.upd,VR],fun cs hcs=>m3 cs (DQ hcs),.inr ⟨b,cap,E',iL,by simp[Gh.upd,VR],by simp[Gh.upd],by omega,c4,c5,?_,c7⟩⟩
    have:=(c6.mono hk (fun _ h=>h) (fun _ h=>h.elim)).take (n'*sz)
    rw[IU EA n' m3,N1,Ug (Bc _ (by omega))]at this;rw[VR];exact this)
   have fC:AT (AT (Ad [(1000,HO.arr sz EA)] Aa) 1000 .dead) 2000 (.arr sz (EA.take n'))=Ad [(1000,.dead),(2000,.arr sz (EA.take n'))] Aa:=by
    funext i
    by_cases e1:i=2000
    ·subst e1;rw[A9];rfl
    ·rw[B3 _ _ _ _ e1]
     by_cases e2:i=1000
     ·subst e2;rw[A9];rfl
     ·rw[B3 _ _ _ _ e2];simp[Ad,Cc e1,Cc e2]
   rw[fC]at k3 k4;exact⟨_,.msl 2000 n',_,_,rfl,⟨rfl,EA,f2,rfl⟩,.msl _ 2000 n' (some ⟨b,0,none⟩) cap (by intro c;cases c) (by simp[Gh.upd]) (by simp[Gh.upd]) (.inr ⟨b,rfl⟩) (fun _=>by simp[Gh.upd]),k3,k2.trans k4⟩
end
end Go.Eng

namespace Go.Eng
abbrev Tn(fn:FuncId)(tm:Array Value)(ps:Array Tmp)(Eb body:Code)(D O4:Nat):Bool→Loop
 |true=>E2 fn tm ps Eb body D .ready
 |false=>{ E2 fn tm ps Eb body D .done with pending:=some (.exit O4) }
section
variable {P:Program}{N:Nat}{ds:List Deferred}{w0 w:World}{g0 g:Gh}{h0 h:Nat→HO}
theorem Rw(hI:Dk w0 g0 h0 h g w){r l:Nat}{ob ob' : Obj}(hr:h r=.raw l ob)(hb:mg ob'=true) :
  ∃g',Dk w0 g0 h0 (AT h r (.raw l ob')) g' (w.putObj l ob')∧Le h g w (AT h r (.raw l ob')) g' (w.putObj l ob'):=by
 have ho:=hI.objs r;rw[hr]at ho;obtain⟨t,a1,a2,_,a4⟩:=ho;have hl:(h r).live:=by rw[hr];trivial
 have Dt:l<w.heap.size:=(Bl.1 a2).1;have Ew:(w.putObj l ob').heap.size=w.heap.size:=by simp[World.putObj]
 obtain⟨m1,m2⟩:=hI.upd r (.raw l ob') (g.ρ r) (g.ln r) (g.tk r) (g.own r) g.S (w.putObj l ob') (some l) ⟨rfl,rfl,rfl,by rw[Ew];exact Ak _⟩
  (fun k _ Dn=>World.putObj_heap_other fun e=>Dn (by rw[e])) (fun b e=>by cases e;exact⟨hl,a1⟩) (fun _ _ h=>h) (fun _ _ h=>.inl h) (fun b o e hs=>by cases e;exact absurd hs (a4 o))
  (fun b _ e=>⟨by rw[Ew];exact(hI.loc r b hl e).1,.inl ⟨hl,e⟩⟩) (fun e=>by cases e) (fun _=>⟨rfl,Ak _,fun _=>rfl,fun _=>rfl⟩) (fun _ _=>by
   obtain⟨_,_,u3,u4⟩:=BJ g r (g.ρ r) (g.ln r) (g.tk r) (g.own r) g.S;exact⟨u3.trans t,u4.trans a1,World.putObj_heap_same Dt,hb,a4⟩)
 exact⟨_,m1,m2⟩
theorem Tl(hI:Dk w0 g0 h0 h g w){r l:Nat}{ob:Obj}(hr:h r=.raw l ob):w.heap[l]?=some ob:=by
 have ho:=hI.objs r;rw[hr]at ho;exact ho.2.2.1
theorem di(r0:Nat){H:List (Nat×HO)}(cx:Cx)(hP:cx.P=P)(hT:Cn P cx.T)(hm:P.follows .mixedOrders=true)(hx:cx.ext=true){σ:Hh}(hσ:(EH σ&&FA σ H)=true){fn:FuncId}{tm:Array Value}{ps:Array Tmp}{Eb body:Code}{D l:Nat}
  {env:Nat→AV} {args:List AV} {U:Nat→Prop} {Q:AV→(Nat→HO)→Prop} (bP:Ad H Aa r0=.raw l (.loop (E2 fn tm ps Eb body D .ready))) (jY:args.length=ps.toList.length) (hN:tm.size=N) (vd:(ps.toList.all fun p=>Nat.blt p N)=true) (uu:Dx N Eb=true) (qg:Dx N body=true)
  (hU:∀i,U i→AK (Ad H Aa) i)
  (hk:MX cx Eb (fun e st=>match e with
   |.normal=>st.h r0=.raw l (.loop (E2 fn tm ps Eb body D .ready))∧MX cx body (fun e st=>match e with
    |.normal=>st.h r0=.raw l (.loop (E2 fn tm ps Eb body D .busy))∧Q (.v (.bool true)) (E3 σ (MM (AT st.h r0 (.raw l (.loop (Tn fn tm ps Eb body D 0 true)))) cx.pl.fin))
    |.exit id=>st.h r0=.raw l (.loop (E2 fn tm ps Eb body D .busy))∧Q (.v (.bool false)) (E3 σ (MM (AT st.h r0 (.raw l (.loop (Tn fn tm ps Eb body D id false)))) cx.pl.fin))
    |.ret=>False) ⟨st.t,AT st.h r0 (.raw l (.loop (E2 fn tm ps Eb body D .busy)))⟩
   |_=>False) ⟨bx ps.toList args env,Ad H Aa⟩)
  (hY:∀l σ g w,cx.yp l σ g w:=by exact fun _ _ _ _=>trivial) (iP:Lz [] body=true:=by kernel_rfl) :
  GH P (fun g w=>∀i,BF g w U (env i) (tm.getD i undef)) l args (Ad H Aa) Q:=by
 simp only[Af]at hσ;intro g w vals hs hv hI Gr;have hl:=Tl hI bP;have hE:H9 cx (Ad H Aa):=by unfold H9;rw[hx];exact fun i hi=>⟨(EU hσ.2 i hi).1,(EU hσ.2 i hi).2.1⟩
 have Xe:∀(t0:Array Value),(ps.zip vals).foldl (fun tmps (p:Nat×Value)=>tmps.setIfInBounds p.1 p.2) t0=(ps.toList.zip vals.toList).foldl (fun t p=>t.setIfInBounds p.1 p.2) t0:=fun t0=>by
  rw[←NV,Array.toList_zip]
 have vr:=run_yield (P:=P) (args:=vals) hl (by simp only[hs,jY,Cs]);refine⟨fn,_,Eb,body,vr,roundIn_of_wpIn trivial ?_⟩;obtain⟨z1,z2⟩:=Sf (U:=AK (Ad H Aa)) (ps:=ps.toList) (args:=args) (vals:=vals.toList) (tm:=tm) (env:=env) (by simpa using hs) jY (fun p hp=>by
  have:=(BB.1 vd) p hp
  rw[hN];simpa using this) (fun i av x e1 e2=>hv i av x e1 (by simpa using e2)) (fun i=>(Gr i).mono (.refl _ _) hU (.refl _ _))
 have ub:SR N [] w g (Ad H Aa) ⟨bx ps.toList args env,Ad H Aa⟩ g { tmps:=(ps.zip vals).foldl (fun tmps (p:Nat×Value)=>tmps.setIfInBounds p.1 p.2) tm,defers:=[] } w:=by
  refine⟨hI,.refl _ _ _,rfl,?_,fun i=>?_⟩
  ·rw[Xe];exact z1.trans hN
  ·rw[Xe];exact z2 i
 refine JX hP hT hm hE (fun l σ _ _ w _ _ _=>hY l σ _ w) (some l) Eb uu (fun e st1 g1 a1 w1 hq Ya=>?_) ub hk;cases e with
 |exit _=>exact hq.elim
 |ret=>exact hq.elim
 |normal =>
  obtain⟨Xn,hq⟩:=hq;refine⟨_,run_beginRound (Tl Ya.inv Xn) rfl,?_⟩;obtain⟨g2,i2,s2⟩:=Rw Ya.inv Xn (ob':=.loop (E2 fn tm ps Eb body D .busy)) iP;have uc:SR N [] w g (Ad H Aa) ⟨st1.t,AT st1.h r0 (.raw l (.loop (E2 fn tm ps Eb body D .busy)))⟩ g2 a1 (w1.putObj l (.loop (E2 fn tm ps Eb body D .busy))) :=
   ⟨i2,Ya.le.trans s2,Ya.dfs,Ya.size,fun i=>(Ya.slots i).le s2⟩
  refine JX hP hT hm hE (fun l σ _ _ w _ _ _=>hY l σ _ w) (some l) body qg (fun e st3 g3 a3 w3 hq du=>?_) uc hq;cases e with
  |ret=>exact hq.elim
  |normal =>
   obtain⟨qH,hq⟩:=hq;refine⟨.bool true,_,run_endRound none (Tl du.inv qH),?_⟩;obtain⟨g4,i4,s4⟩:=Rw du.inv qH (ob':=.loop (E2 fn tm ps Eb body D .ready)) iP;obtain⟨gf,oL,qU⟩:=JI cx.pl.fin i4;obtain⟨_,j1,j2⟩:=IS hσ.1 hσ.2 oL ((du.le.trans s4).trans qU);exact⟨.bool true,.v (.bool true),_,_,rfl,hq,.v _ _,j1,j2⟩
  |exit id =>
   obtain⟨qH,hq⟩:=hq;refine⟨.bool false,_,run_endRound (some (.exit id)) (Tl du.inv qH),?_⟩;obtain⟨g4,i4,s4⟩:=Rw du.inv qH (ob':=.loop (Tn fn tm ps Eb body D id false)) iP;obtain⟨gf,oL,qU⟩:=JI cx.pl.fin i4;obtain⟨_,j1,j2⟩:=IS hσ.1 hσ.2 oL ((du.le.trans s4).trans qU);exact⟨.bool false,.v (.bool false),_,_,rfl,hq,.v _ _,j1,j2⟩
theorem bO(r:Nat)(o o' : HO)(H:List (Nat×HO)):AT (Ad ((r,o)::H) Aa) r o'=Ad ((r,o')::H) Aa:=funext fun i=>by
 show(bif Nat.beq i r then o' else bif Nat.beq i r then o else Ad H Aa i)=bif Nat.beq i r then o' else Ad H Aa i;cases Nat.beq i r<;>rfl
theorem UJ(r:Nat)(o:HO)(H:List (Nat×HO)):Ad ((r,o)::H) Aa r=o:=by
 show(bif Nat.beq r r then o else Ad H Aa r)=o;rw[CU];rfl
theorem nQ(r0:Nat){fn:Func}{O4 s:Nat}{ps:Array Tmp}{Eb body rest:Code}(cx:Cx)(hP:cx.P=P)(hT:Cn P cx.T)(hm:P.follows .mixedOrders=true)(hx:cx.ext=true){σ:Hh}{H0 Hn:List (Nat×HO)}(bP:Ad H0 Aa r0=.free)(hσ:∀o,(EH σ&&FA σ ((r0,o)::H0))=true)(qT:∀o,FA σ ((r0,o)::Hn)=true)
  {env:Nat→AV} {gf:Nat} {caps:List AV} (hF:env s=.clo gf caps) {Qv:AV→Prop}
  (tZ:∀(l D:Nat) (f' : FuncId) (tm:Array Value),tm.size=N→MU P (fun g w=>∀i,BF g w (AK (Ad ((r0,.raw l (.loop (E2 f' tm ps Eb body D .ready)))::H0) Aa)) (env i) (tm.getD i undef)) σ gf
   (.v (.func (.yield l) #[] #[])::caps) (Ad ((r0,.raw l (.loop (E2 f' tm ps Eb body D .ready)))::H0) Aa) fun _ h'=>∃b,h'=Ad ((r0,.raw l (.loop (Tn f' tm ps Eb body D O4 b)))::Hn) Aa)
  (hcr:Dx N rest=true) (iP:Lz [] body=true) (fK:∀o,MX cx rest (YD cx fn.results.toList Qv) ⟨env,Ad ((r0,o)::Hn) Aa⟩) (hY:∀l σ g w,cx.yp l σ g w)
  {a:Act} (ha:a.defers=[]) (hN:a.tmps.size=N) (hI:Dk w g (Ad H0 Aa) (Ad H0 Aa) g w) (Gr:∀i,BF g w (AK (Ad H0 Aa)) (env i) (a.tmps.getD i undef))
  {R:Ending→World→Prop} (hR:∀v r h' g' w',Qv r→BF g' w' E8 r v→Dk w g (Ad H0 Aa) h' g' w'→Le (Ad H0 Aa) g w h' g' w'→R (.returned v) w') :
  (Code.block O4 (.rangeFunc (.tmp s) ps Eb body)).wpIn (IZ none) 0 P (Exit.then (rest.wpIn (IZ none) 0 P (bodyPostM (IZ none) 0 P fn R)) (bodyPostM (IZ none) 0 P fn R)) a w:=by
 have yb:EH σ=true∧∀o,FA σ ((r0,o)::H0)=true:=⟨(Bool.and_eq_true_iff.1 (hσ .free)).1,fun o=>(Bool.and_eq_true_iff.1 (hσ o)).2⟩;refine wpIn_block (wpIn_rangeFunc fun f' _=>?_);have hs:=Gr s;rw[hF]at hs;have Xb:a.eval (.tmp s)=a.tmps.getD s undef:=rfl;generalize hfv:a.tmps.getD s undef=fv at hs Xb;cases hs with
 |clo _ _ _ lb Ew MN =>
 obtain⟨i0,s0⟩:=hI.allocS (n0:=w.heap.size) (x:=w.heap.size) (.deferred (some [])) (Ak _);obtain⟨rec,Pt⟩:∃rec,rec=E2 f' a.tmps ps Eb body w.heap.size .ready:=⟨_,rfl⟩;have np:(w.alloc (.deferred (some []))).heap.size=w.heap.size+1:=World.size_alloc ..;obtain⟨W1,hW⟩:∃W1,W1=(w.alloc (.deferred (some []))).alloc (.loop rec):=⟨_,rfl⟩;have nl:W1.heap.size=w.heap.size+2:=by rw[hW,World.size_alloc,World.size_alloc]
 have hl:W1.heap[w.heap.size+1]?=some (.loop rec):=by
  rw[hW]
  have:=World.alloc_heap_new (w.alloc (.deferred (some []))) (.loop rec)
  rwa [World.size_alloc]at this
 have hD:W1.heap[w.heap.size]?=some (.deferred (some [])):=by
  rw[hW,heap_alloc_old _ _ (by rw[World.size_alloc];omega)];exact World.alloc_heap_new w _
 obtain⟨i1,e1⟩:=i0.upd r0 (.raw (w.heap.size+1) (.loop rec)) (.pointer none) (g.ln r0) false (some (w.heap.size+1)) g.S W1 none (by rw[hW];exact⟨rfl,rfl,rfl,by simp only[World.size_alloc];omega⟩)
  (fun k hk _=>by rw[hW];exact heap_alloc_old _ _ hk) (fun b e=>by cases e) (fun _ _ h=>h) (fun _ _ h=>.inl h) (fun b o e=>by cases e) (fun b _ e=>by cases e;exact⟨by rw[nl];omega,.inr (by rw[np];exact Ak _)⟩) (fun e=>by cases e) (fun hu=>absurd bP hu) (fun _ _=>by
   obtain⟨_,_,u3,u4⟩:=BJ g r0 (.pointer none) (g.ln r0) false (some (w.heap.size+1)) g.S;exact⟨u3,u4,hl,by rw[Pt];exact iP,fun o hs=>by have:=i0.slt _ _ hs;rw[np]at this;omega⟩)
 generalize fA:g.upd r0 (.pointer none) (g.ln r0) false (some (w.heap.size+1)) g.S=g2 at i1 e1;have zm:AT (Ad H0 Aa) r0 (.raw (w.heap.size+1) (.loop rec))=Ad ((r0,.raw (w.heap.size+1) (.loop rec))::H0) Aa:=rfl;rw[zm]at i1 e1;have S1:=s0.trans (Vp.of_inv i1 e1 (by rw[np];omega));have i2:=i1.base;have Nw:∀b ob,W1.heap[b]?=some ob→TU ob=true→∀r,((Ad ((r0,.raw (w.heap.size+1) (.loop rec))::H0) Aa) r).live→g2.own r≠some b:=fun b ob hb hd r hr e=>KE (i2.objs r) hr e hb hd;have hit:=tZ (w.heap.size+1) w.heap.size f' a.tmps hN;rw[←Pt]at hit
 refine⟨w.heap.size+1,[{ target:=.collected w.heap.size,args:=#[] }],W1,{ target:=.fn (.func gf) lb,args:=#[.func (.yield (w.heap.size+1)) #[] #[]] },W1,gf,
  #[.func (.yield (w.heap.size+1)) #[] #[]]++lb,W1,?_,?_,fun _ _=>trivial,?_,fun e=>(by cases e),?_⟩
 ·rw[hW,Pt];exact run_enterLoop_outer _ _ _ _ _
 ·simp only[resolve,Xb];simp[go_sem]
 ·simp only[invoke];rw[F0 hit.1]
 refine callsIn_wide.2 ((hit.2 g2 W1 _ (by simp[Ew];omega) (fun i av x e1 e2=>?_) i2 (fun h' g' w' q1 q2=>?_)).mono ?_)
 ·cases i with
  |zero =>
   simp only[Bi,Bq]at e1;rw[EO]at e2
   have:x=.func (.yield (w.heap.size+1)) #[] #[]:=(CC e2).symm
   subst e1;subst this;exact .v _ _
  |succ i =>
   have e2:lb[i]?=some x:=by rw[←e2,EO];simp
   exact(MN i av x (by simpa using e1) e2).le S1.le
 ·obtain⟨_,_,j2⟩:=IS yb.1 (yb.2 _) q1 q2;exact fun i=>((Gr i).le S1.le).mono j2.keeps (fun _ h=>h) j2.gh
 rintro e w2 ⟨v,r,h',g3,rfl,⟨b,rfl⟩,_,q3,q4⟩
 have YU:=Tl q3 (UJ _ _ _);have tU:w2.heap[w.heap.size]?=some (.deferred (some [])):=(q3.frame _ (by omega) (Nw _ _ hD rfl)).trans hD;have uV:(Tn f' a.tmps ps Eb body w.heap.size O4 b).state≠.busy:=by cases b<;>(intro e;cases e)
 obtain⟨g4,i4,s4⟩:=Rw q3 (UJ _ _ _) (ob':=.loop { Tn f' a.tmps ps Eb body w.heap.size O4 b with state:=.exhausted }) (by cases b<;>exact iP)
 rw[bO]at i4 s4;generalize hex:HO.raw (w.heap.size+1) (.loop { Tn f' a.tmps ps Eb body w.heap.size O4 b with state:=.exhausted })=ex at i4 s4;have S4:=S1.trans (Vp.of_inv i4 (q4.trans s4) (by rw[nl];omega));have CV:=run_endLoop (P:=P) YU uV;generalize hW4:w2.putObj (w.heap.size+1) (.loop { Tn f' a.tmps ps Eb body w.heap.size O4 b with state:=.exhausted })=w4 at i4 s4 S4 CV;have mQ:w4.heap[w.heap.size]?=some (.deferred (some [])):=by rw[←hW4,World.putObj_heap_other (by omega)];exact tU
 have i5:=i4.base;have hE:H9 cx (Ad ((r0,ex)::Hn) Aa):=by unfold H9;rw[hx];exact fun i hi=>⟨(EU (qT ex) i hi).1,(EU (qT ex) i hi).2.1⟩
 have ud:SR N [{ target:=.collected w.heap.size,args:=#[] }] w4 g4 (Ad ((r0,ex)::Hn) Aa) ⟨env,Ad ((r0,ex)::Hn) Aa⟩ g4 { a with defers:=[{ target:=.collected w.heap.size,args:=#[] }]++a.defers } w4 :=
  ⟨i5,.refl _ _ _,by simp[ha],hN,fun i=>(Gr i).le S4.le⟩
 have main:rest.wpIn (IZ none) 0 P (bodyPostM (IZ none) 0 P fn R) { a with defers:=[{ target:=.collected w.heap.size,args:=#[] }]++a.defers } w4:=by
  refine JX hP hT hm hE (fun l σ _ _ w _ _ _=>hY l σ _ w) none rest hcr (fun e nZ g5 a5 w5 hq VM=>?_) ud (fK ex);have fin:cE cx nZ fn.results.toList Qv→LeavesInM (IZ none) 0 P fn a5.tmps R a5.defers .returning w5:=by
   intro hk;have pQ:w5.heap[w.heap.size]?=some (.deferred (some [])):=(VM.inv.frame _ (Bl.1 mQ).1 (fun r hr e=>KE (i5.objs r) hr e mQ rfl)).trans mQ;rw[VM.dfs];refine⟨by simp,.inl ⟨w.heap.size,_,rfl,run_takeDeferred pQ,?_⟩⟩;obtain⟨i6,s6⟩:=VM.inv.base.put (n0:=w.heap.size) (x:=w.heap.size) (o':=.deferred none) pQ rfl rfl (.inr rfl);have ue:SR N [{ target:=.collected w.heap.size,args:=#[] }] (w5.putObj w.heap.size (.deferred none)) g5 nZ.h nZ g5 a5 (w5.putObj w.heap.size (.deferred none)):=⟨i6,.refl _ _ _,VM.dfs,VM.size,fun i=>(VM.slots i).le s6.le⟩;obtain⟨g7,r,v,h7,k1,k2,k3,k4,k5⟩:=V7 hT ue hk;have S7:=((S4.trans (Vp.of_inv VM.inv VM.le (Bh (Ak _) S4.size))).trans s6).trans (Vp.of_inv k3 k4 (Bh (Ak _) ((S4.trans (Vp.of_inv VM.inv VM.le (Bh (Ak _) S4.size))).trans s6).size));exact⟨v,k2,hR v r h7 g7 _ k1 k5 (k3.base.of_seg S7 fun h=>absurd h (Nat.lt_irrefl _)) S7.le⟩
  cases e with
  |normal=>exact fin hq
  |ret=>exact fin hq
  |exit id=>exact hq.elim
 refine⟨_,w4,CV,?_⟩;cases b with
 |true=>exact main
 |false =>
  refine wpIn_exit ?_;show Exit.inBlock O4 _ (.exit O4) _ _;simp only[Exit.inBlock,LI];exact main
def wZ(r0:Nat)(Ph:Cx)(P:Program)(N:Nat)(fn:Func)(res:AV)(b rest:Code)(st:St):Prop :=
 ∃(σF σ:Hh) (H0 Hn:List (Nat×HO)) (O4 s:Nat) (ps:Array Tmp) (Eb body:Code) (gf:Nat) (caps:List AV),
  b=.block O4 (.rangeFunc (.tmp s) ps Eb body)∧(DZ σF&&Dq st.h 0 0&&CZ σF 0 0)=true∧E3 σF st.h=Ad H0 Aa∧Ad H0 Aa r0=.free∧(∀o,(EH σ&&FA σ ((r0,o)::H0))=true)∧(∀o,FA σ ((r0,o)::Hn)=true) ∧
  ren (Ch σF) st.h (st.t s)=.clo gf caps ∧
  (∀(l D:Nat) (f' : FuncId) (tm:Array Value),tm.size=N→MU P (fun g w=>∀i,BF g w (AK (Ad ((r0,.raw l (.loop (E2 f' tm ps Eb body D .ready)))::H0) Aa)) (ren (Ch σF) st.h (st.t i)) (tm.getD i undef)) σ gf
   (.v (.func (.yield l) #[] #[])::caps) (Ad ((r0,.raw l (.loop (E2 f' tm ps Eb body D .ready)))::H0) Aa) fun _ h'=>∃b,h'=Ad ((r0,.raw l (.loop (Tn f' tm ps Eb body D O4 b)))::Hn) Aa) ∧
  Dx N rest=true∧Lz [] body=true∧(∀o,MX Ph rest (YD Ph fn.results.toList fun r=>GO r res) ⟨fun i=>ren (Ch σF) st.h (st.t i),Ad ((r0,o)::Hn) Aa⟩)
theorem cN (r0 : Nat) {f : Nat} {fn : Func} {c : Code} {args : List AV} {res : AV} (cx Ph : Cx) (hP : cx.P = P) (hT : Cn P cx.T) (ua : Ph.P = P) (ug : Cn P Ph.T) (hm : P.follows .mixedOrders = true) (hx : cx.ext = false) (oJ : Ph.ext = true) (hf : P.funcs[f]? = some fn) (hn : (fn.name == "runtime.NumGoroutine") = false)
  (hb:fn.body=some c) (hN:args.length≤fn.ntmps) (hc:Dx fn.ntmps c=true) (n:Nat) (bQ:∀g h,ren g h res=res∧strT h res=res)
  (hk:dP cx n c (YD cx fn.results.toList fun r=>GO r res) (wZ r0 Ph P fn.ntmps fn res) ⟨LA args,Aa⟩)
  (hY:∀l σ g w,cx.yp l σ g w:=by exact fun _ _ _ _=>trivial) (ui:∀l σ g w,Ph.yp l σ g w:=by exact fun _ _ _ _=>trivial):Ln P f args res:=by
 refine⟨⟨fn,hf,hn,by simp[hb]⟩,fun g w vals hs hv hI=>callsIn_wide.1 (callsIn_of_wp_marks (F:=Fence.wide) (n:=0) hf hb trivial ?_ rfl)⟩;have hU:AK Aa=E8:=by funext i;unfold AK E8 Aa;simp
 have hS:SR fn.ntmps [] w g Aa ⟨LA args,Aa⟩ g { tmps:=vals++Array.replicate (fn.ntmps-vals.size) undef,defers:=[] } w:=by
  refine⟨hI,.refl _ _ _,rfl,by simp[hs];omega,fun i=>?_⟩
  have:=LV (n:=fn.ntmps-vals.size) (args:=args) (vals:=vals.toList) (by simpa using hs) (fun i av x q1 q2=>hv i av x q1 (by simpa using q2)) i
  rw[Cp,←A4];rw[B1]at this;simpa using this
 refine ZD hP hT hm (by unfold H9;rw[hx];exact fun _=>rfl) (fun l σ _ _ w _ _ _=>hY l σ _ w) (fun e st g' a w' Dn hk hS=>?_) (fun b rest st g' a w' hk hS=>?_) n c hc hS hk
 ·have out:cE cx st fn.results.toList (fun r=>GO r res)→LeavesInM (IZ none) 0 P fn a.tmps (fun e w'=>∃v r h' g',e=Ending.returned v∧(r=res∧h'=Aa)∧BF g' w' (AK h') r v∧Dk w g Aa h' g' w'∧Le Aa g w h' g' w') a.defers .returning w':=by
   intro hk;obtain⟨g2,r,v,h',q1,q2,q3,q4,q5⟩:=V7 hT hS hk;rw[hS.dfs];exact⟨v,q2,v,res,Aa,g2,rfl,⟨rfl,rfl⟩,by rw[hU];exact q1 _ _ _ _ q5,Dk.toFree (st:=⟨st.t,h'⟩) q3,⟨fun i hi=>absurd rfl hi,fun i hi=>absurd rfl hi,q4.keeps⟩⟩
  cases e with
  |normal=>exact absurd rfl Dn
  |ret=>exact out hk
  |exit id=>exact hk.elim
 ·obtain⟨σF,σ,H0,Hn,O4,s,ps,Eb,body,gf,caps,rfl,k1,k2,k0,k3,k4,k5,k6,k7,k9,k8⟩:=hk;have vE:DZ σF=true:=by simp only[Af]at k1;exact k1.1.1
  obtain⟨mS,pR⟩:=Sv hS.inv vE;rw[k2]at pR;have Gr:∀i,BF (CA σF g') w' (AK (Ad H0 Aa)) (ren (Ch σF) st.h (st.t i)) (a.tmps.getD i undef):=fun i=>by
   have:=(hS.slots i).ren mS
   rwa [k2]at this
  refine Kl (Q:=fun r h'=>r=res) (C:=fun R'=>(∀e Qb,R' e Qb→(∃v r h' g',e=Ending.returned v∧(r=res∧h'=Aa)∧BF g' Qb (AK h') r v∧Dk w g Aa h' g' Qb∧Le Aa g w h' g' Qb)) →
   (Code.block O4 (.rangeFunc (.tmp s) ps Eb body)).wpIn (IZ none) 0 P (Exit.then (rest.wpIn (IZ none) 0 P (bodyPostM (IZ none) 0 P fn (fun e Qb=>∃v r h' g',e=Ending.returned v∧(r=res∧h'=Aa)∧BF g' Qb (AK h') r v∧Dk w g Aa h' g' Qb∧Le Aa g w h' g' Qb))) (bodyPostM (IZ none) 0 P fn (fun e Qb=>∃v r h' g',e=Ending.returned v∧(r=res∧h'=Aa)∧BF g' Qb (AK h') r v∧Dk w g Aa h' g' Qb∧Le Aa g w h' g' Qb))) a w')
   (fun h k h2=>h fun e w r=>h2 _ _ (k _ _ r)) hS.inv (d:=0) (nn:=0) k1 (fun _ Xm=>?_) (fun v r h' g2 w2 q1 q2 q3 q4=>?_) (fun _ _ h=>h)
  ·rw[k2]at Xm;exact nQ r0 Ph ua ug hm oJ k0 k3 k4 k5 k6 k7 k9 k8 ui hS.dfs hS.size pR Gr fun v r h' g5 w5 q1 q2 q3 q4=>Xm _ _ ⟨v,res,h',g5,rfl,rfl,(q1 _ _ _ _ q2).up _,q3,q4⟩
  ·subst q1;rw[(bQ _ _).1]at q4;have q5:=BF.strT q2.objs q4;rw[(bQ (fun _=>none) _).2]at q5;exact⟨v,r,Aa,g2,rfl,⟨rfl,rfl⟩,by rw[hU];exact q5,Dk.toFree (st:=⟨st.t,_⟩) q2,⟨fun i hi=>absurd rfl hi,fun i hi=>absurd rfl hi,(hS.le.trans q3).keeps⟩⟩
theorem gX{H:List (Nat×HO)}{σ:Hh}(hσ:(EH σ&&FA σ H)=true){U:Nat→Prop}(hU:∀i,U i→AK (Ad H Aa) i){tm:Array Value}{env:Nat→AV} :
  ∀g w h' g' w',Dk w g (Ad H Aa) (Ad H Aa) g w→Dk w g (Ad H Aa) h' g' w'→Le (Ad H Aa) g w h' g' w' →
   (∀i,BF g w U (env i) (tm.getD i undef))→∀i,BF (CA σ g') w' U (env i) (tm.getD i undef):=by
 intro g w h' g' w' _ q1 q2 Gr;simp only[Af]at hσ;obtain⟨_,_,j2⟩:=IS hσ.1 hσ.2 q1 q2;exact fun i=>(Gr i).mono j2.keeps (fun _ h=>h) fun r hr=>j2.gh r (hU r hr)
end
end Go.Eng
