/- Lemmas for the claims of this seat, without a condition: part 17 (EngZP, EngZQ, EngZS, EngZT, EngZU, EngZV, EngZW, EngZX). -/
import Derived.Test.YtddfphmpfnmknaaGreatDoorCA16
namespace Go.Eng
abbrev HR(fn:FuncId)(tm:Array Value)(ps:Array Tmp)(Gz body:Code)(D:Nat)(s:LoopState):Loop :=
 { state:=s,pending:=none,fn:=fn,tmps:=tm,params:=ps,assign:=Gz,body:=body,defers:=D }
def jz:List Nat→List AV→(Nat→AV)→Nat→AV
 |p::ps,v::vs,e=>jz ps vs (G0 e p v)
 |_,_,e=>e
section
variable {P:Program}{N:Nat}{w:World}{g:Gh}
theorem Xf{U:Nat→Prop}:∀{ps:List Nat} {args:List AV} {vals:List Value} {tm:Array Value} {env:Nat→AV},vals.length=args.length→args.length=ps.length→(∀p∈ps,p<tm.size) →
  (∀(i:Nat) (av:AV) (x:Value),args[i]?=some av→vals[i]?=some x→BD g w U av x)→(∀i,BD g w U (env i) (tm.getD i undef)) →
  ((ps.zip vals).foldl (fun t p=>t.setIfInBounds p.1 p.2) tm).size=tm.size∧∀i,BD g w U (jz ps args env i) (((ps.zip vals).foldl (fun t p=>t.setIfInBounds p.1 p.2) tm).getD i undef)
 | [],args,vals,tm,env,_,h2,_,_,he=>by
  have:args=[]:=AN h2
  subst this;exact⟨rfl,he⟩
 |p::ps,[],vals,tm,env,_,h2,_,_,_=>by cases h2
 |p::ps,a::args,[],tm,env,h1,_,_,_,_=>by cases h1
 |p::ps,a::args,v::vals,tm,env,h1,h2,h3,h4,he=>by
  have hp:=h3 p (Ab ..)
  obtain⟨q1,q2⟩:=Xf (ps:=ps) (args:=args) (vals:=vals) (tm:=tm.setIfInBounds p v) (env:=G0 env p a) (by simpa using h1) (by simpa using h2) (fun q hq=>by simpa using h3 q (Ag _ hq))
   (fun i av x e1 e2=>h4 (i+1) av x (by simpa using e1) (by simpa using e2)) (fun i=>by
    by_cases e:i=p
    ·subst e;have e1:G0 env i a i=a:=by simp[G0]
     have e2:(tm.setIfInBounds i v).getD i undef=v:=by simp[Array.getD_eq_getD_getElem?,hp]
     rw[e1,e2];exact h4 0 a v rfl rfl
    ·have e1:G0 env p a i=env i:=by simp only[G0,Cw e,El]
     have e2:(tm.setIfInBounds p v).getD i undef=tm.getD i undef:=by
      simp[Array.getD_eq_getD_getElem?,Array.getElem?_setIfInBounds_ne (Ne.symm e)]
     rw[e1,e2];exact he i)
  exact⟨by simpa using q1,q2⟩
def WN(P:Program)(Y:Gh→World→Prop)(σ:IR)(f:Nat)(args:List AV)(h0:Nat→HO)(Q:AV→(Nat→HO)→Prop):Prop :=
 F3 P f∧∀(g:Gh) (w:World) (vals:Array Value),vals.size=args.length→(∀(i:Nat) (av:AV) (x:Value),args[i]?=some av→vals[i]?=some x→BD g w (AP h0) av x) →
  DA w g h0 h0 g w→(∀h' g' w',DA w g h0 h' g' w'→Le h0 g w h' g' w'→Y (Dn σ g') w') →
  Calls P f vals w fun e w'=>∃v r h' g',e=.returned v∧Q r h'∧BD g' w' (AP h') r v∧DA w g h0 h' g' w'∧Le h0 g w h' g' w'
theorem fS{Y:Gh→World→Prop}{l:Nat}{f:Nat}{fn:Func}{c:Code}{args:List AV}{H0:List (Nat×HO)}{Q:AV→(Nat→HO)→Prop}(cx:Cx)(σ:IR)(hP:cx.P=P)(hT:Ck P cx.T)(hm:P.follows .mixedOrders=true)(hx:cx.ext=true)(hf:P.funcs[f]?=some fn)
  (hn : (fn.name == "runtime.NumGoroutine") = false) (hb : fn.body = some c) (hN : args.length ≤ fn.ntmps) (hc : Er fn.ntmps c = true) (hσ : (GE σ && In σ H0) = true)
  (hy:cx.yp=fun l' σ' g w=>l'=l→σ'=σ→Y g w)
  (hk:QX cx c (Xc cx fn.results.toList σ Q) ⟨Ol args,Ai H0 Aa⟩):WN P Y σ f args (Ai H0 Aa) Q :=
 ⟨⟨fn,hf,hn,by simp[hb]⟩,fun g w vals hs hv hI hp=>Xu cx σ hP hT hm hx hf hn hb hN hc hσ hk hs hv hI fun l' σ' h' g' w' _ q1 q2=>by
  rw[hy];intro _ e;subst e;exact hp h' g' w' q1 q2⟩
end
def jj(cx:Cx):Nat→Code→(Ex→St→Prop)→(Code→Code→St→Prop)→St→Prop
 |0,.seq (.seq a b) d,Q,K,st=>QX cx a (fun e Eb=>match e with |.normal=>K b d Eb |e=>Q e Eb) st
 |0,.seq b d,_,K,st=>K b d st
 |n+1,.seq a b,Q,K,st=>QX cx a (fun e Eb=>match e with |.normal=>jj cx n b Q K Eb |e=>Q e Eb) st
 |_,_,_,_,_=>False
section
variable {P:Program}{N:Nat}{ds:List Deferred}{w0:World}{g0:Gh}{h0:Nat→HO}{st:St}{g:Gh}{a:Act}{w:World}
theorem jk{cx:Cx}(hP:cx.P=P)(hT:Ck P cx.T)(hm:P.follows .mixedOrders=true)(hE:Ll cx h0)(hY:∀l σ h g w,Ek σ=true→DA w0 g0 h0 h g w→Le h0 g0 w0 h g w→cx.yp l σ (Dn σ g) w)
  {Qa:Ex→St→Prop} {K:Code→Code→St→Prop} {Q:Exit→Act→World→Prop} (hQ:∀e st g a w,e≠.normal→Qa e st→SR N ds w0 g0 h0 st g a w→Q e.real a w)
  (hK:∀b d st g a w,K b d st→SR N ds w0 g0 h0 st g a w→b.wpIn (JB none) 0 P (Exit.then (d.wpIn (JB none) 0 P Q) Q) a w) :
  ∀(n:Nat) (c:Code),Er N c=true→∀{st:St} {g:Gh} {a:Act} {w:World},SR N ds w0 g0 h0 st g a w→jj cx n c Qa K st→c.wpIn (JB none) 0 P Q a w:=by
 intro n
 induction n with
 |zero =>
  intro c hc st g a w hS hk;cases c with
  |seq y d =>
   simp only[Er,Af]at hc;cases y with
   |seq x b =>
    have hk:QX cx x (fun e Eb=>match e with | .normal=>K b d Eb | e=>Qa e Eb) st:=hk;simp only[Er,Af]at hc;refine wpIn_seq (wpIn_seq (Np hP hT hm hE hY none x hc.1.1 (Qa:=fun e Eb=>match e with | .normal=>K b d Eb | e=>Qa e Eb) (fun e st g a w q hS=>?_) hS hk));cases e with
    |normal=>exact hK b d _ _ _ _ q hS
    |exit id=>exact hQ (.exit id) _ _ _ _ (fun e=>by cases e) q hS
    |ret=>exact hQ .ret _ _ _ _ (fun e=>by cases e) q hS
   |_=>exact wpIn_seq (hK _ d _ _ _ _ hk hS)
  |_=>exact hk.elim
 |succ n ih =>
  intro c hc st g a w hS hk;cases c with
  |seq x y =>
   simp only[Er,Af]at hc;refine wpIn_seq (Np hP hT hm hE hY none x hc.1 (Qa:=fun e Eb=>match e with | .normal=>jj cx n y Qa K Eb | e=>Qa e Eb) (fun e st g a w q hS=>?_) hS hk);cases e with
   |normal=>exact ih y hc.2 hS q
   |exit id=>exact hQ (.exit id) _ _ _ _ (fun e=>by cases e) q hS
   |ret=>exact hQ .ret _ _ _ _ (fun e=>by cases e) q hS
  |_=>exact hk.elim
end
section
variable {P:Program}{N:Nat}{ds:List Deferred}{w0:World}{g0:Gh}{h0:Nat→HO}{st:St}{g:Gh}{a:Act}{w:World}
theorem SR.rebase{w1:World}{g1:Gh}{h1:Nat→HO}(hS:SR N ds w0 g0 h0 st g a w)(hI:DA w1 g1 h1 st.h g w)(hL:Le h1 g1 w1 st.h g w):SR N ds w1 g1 h1 st g a w:=⟨hI,hL,hS.dfs,hS.size,hS.slots⟩
theorem aG{cx:Cx}(hT:Ck P cx.T){H0:List (Nat×HO)}{σ:IR}(hσ:GE σ=true)(lS:In σ H0=true){fn:Func}{Q:AV→(Nat→HO)→Prop}(hS:SR N ds w0 g0 (Ai H0 Aa) st g a w)(hk:cR cx st fn.results.toList σ Q) :
  ∃v,(results fn a.tmps).run P w=.ok v w∧∃r h' g',Q r h'∧BD g' w (AP h') r v∧DA w0 g0 (Ai H0 Aa) h' g' w∧Le (Ai H0 Aa) g0 w0 h' g' w:=by
 obtain⟨g2,i1,i2⟩:=Mz cx.pl.fin hS.inv;have Sz : SR N ds w0 g0 (Ai H0 Aa) ⟨st.t,OD st.h cx.pl.fin⟩ g2 a w:=⟨i1,hS.le.trans i2,hS.dfs,hS.size,fun i=>(hS.slots i).le i2⟩;obtain⟨l,vs,h1,h2,h3,h4,h5⟩:=Rx hT Sz _ hk;obtain⟨hR,j1,j2⟩:=On hσ lS i1 Sz.le;have CB:(results fn a.tmps).run P w=.ok (if h:vs.toArray.size=1 then vs.toArray[0]else .tuple vs.toArray) w:=by
  rw[NS,show fn.results=fn.results.toList.toArray by simp,List.mapM_toArray];simp only[Sem.run_bind,Sem.run_map,h2,Result.andThen_ok,Sem.run_pure]
 match l,vs,h1,h3,h5,CB with
 | [v],[x],h1,h3,h5,CB=>exact⟨x,by simpa using CB,_,_,_,h1,(h5 0 v x rfl rfl).ren hR,j1,j2⟩
 | [],vs,h1,h3,h5,CB =>
  have:vs=[]:=AN h3
  subst this;exact⟨.tuple #[],by simpa using CB,_,_,_,h1,BD.ren hR (.tup _ [] _ rfl fun i av x q=>by simp at q),j1,j2⟩
 |v::v' :: l,vs,h1,h3,h5,CB =>
  refine⟨.tuple vs.toArray,?_,_,_,_,h1,BD.ren hR (.tup _ _ _ (by simpa using h3) fun i av x q1 q2=>h5 i av x q1 (by simpa using q2)),j1,j2⟩;rw[CB]
  have:vs.toArray.size≠1:=by simp[h3]
  simp only[this,dif_neg,not_false_eq_true]
theorem om{fn:Func}{lq s:Nat}{ps:Array Tmp}{Gz body rest:Code}(cx:Cx)(hP:cx.P=P)(hT:Ck P cx.T)(hm:P.follows .mixedOrders=true)(hx:cx.ext=true){σ:IR}{H0 Hn:List (Nat×HO)}(hσ:(GE σ&&In σ H0)=true)(yj:In σ Hn=true)
  {env:Nat→AV} {gf:Nat} {caps:List AV} (hF:env s=.clo gf caps) {Qv:AV→(Nat→HO)→Prop}
  (zp:∀(l D:Nat) (f' : FuncId) (tm:Array Value),tm.size=N→WN P (fun g w=>w.heap[l]?=some (.loop (HR f' tm ps Gz body D .ready))∧∀i,BD g w (AP (Ai H0 Aa)) (env i) (tm.getD i undef)) σ gf
   (.v (.func (.yield l) #[] #[])::caps) (Ai H0 Aa) fun _ h'=>h'=Ai Hn Aa)
  (hcr:Er N rest=true) (uD:Od [] body=false) (qV:QX cx rest (Xc cx fn.results.toList σ Qv) ⟨env,Ai Hn Aa⟩) (hY:∀l σ g w,cx.yp l σ g w)
  {a:Act} (ha:a.defers=[]) (hN:a.tmps.size=N) (hI:DA w g (Ai H0 Aa) (Ai H0 Aa) g w) (NE:∀i,BD g w (AP (Ai H0 Aa)) (env i) (a.tmps.getD i undef))
  {R:Ending→World→Prop} (hR:∀v r h' g' w',Qv r h'→BD g' w' (AP h') r v→DA w g (Ai H0 Aa) h' g' w'→Le (Ai H0 Aa) g w h' g' w'→R (.returned v) w') :
  (Code.block lq (.rangeFunc (.tmp s) ps Gz body)).wpIn (JB none) 0 P (Exit.then (rest.wpIn (JB none) 0 P (bodyPostM (JB none) 0 P fn R)) (bodyPostM (JB none) 0 P fn R)) a w:=by
 simp only[Af]at hσ;have hdl:∀f' tm D s,VP (.loop (HR f' tm ps Gz body D s))=true:=fun _ _ _ _=>by show(!Od [] body)=true;rw[uD];rfl
 refine wpIn_block (wpIn_rangeFunc fun f' _=>?_);have hs:=NE s;rw[hF]at hs;have lE:a.eval (.tmp s)=a.tmps.getD s undef:=rfl;generalize hfv:a.tmps.getD s undef=fv at hs lE;cases hs with
 |clo _ _ _ lb EC OF =>
 obtain⟨i0,s0⟩:=hI.allocS (n0:=w.heap.size) (x:=w.heap.size) (.deferred (some [])) (Al _);obtain⟨i1,s1⟩:=i0.allocS (n0:=w.heap.size) (x:=w.heap.size) (.loop (HR f' a.tmps ps Gz body w.heap.size .ready)) (by rw[World.size_alloc];omega);generalize hW:(w.alloc (.deferred (some []))).alloc (.loop (HR f' a.tmps ps Gz body w.heap.size .ready))=W1 at i1 s1;have Aad:W1.heap.size=w.heap.size+2:=by rw[←hW,World.size_alloc,World.size_alloc]
 have hl:W1.heap[w.heap.size+1]?=some (.loop (HR f' a.tmps ps Gz body w.heap.size .ready)):=by
  rw[←hW]
  have:=World.alloc_heap_new (w.alloc (.deferred (some []))) (.loop (HR f' a.tmps ps Gz body w.heap.size .ready))
  rwa [World.size_alloc]at this
 have hD:W1.heap[w.heap.size]?=some (.deferred (some [])):=by
  rw[←hW,heap_alloc_old _ _ (by rw[World.size_alloc];omega)];exact World.alloc_heap_new w _
 have Rc:∀b ob,W1.heap[b]?=some ob→VP ob=true→∀r,((Ai H0 Aa) r).live→g.own r≠some b:=fun b ob hb hd r hr e=>OS (i1.objs r) hr e hb hd;have S1:=s0.trans s1;have hit:=zp (w.heap.size+1) w.heap.size f' a.tmps hN
 refine⟨w.heap.size+1,[{ target:=.collected w.heap.size,args:=#[] }],W1,{ target:=.fn (.func gf) lb,args:=#[.func (.yield (w.heap.size+1)) #[] #[]] },W1,gf,
  #[.func (.yield (w.heap.size+1)) #[] #[]]++lb,W1,?_,?_,fun _ _=>trivial,?_,fun e=>(by cases e),?_⟩
 ·rw[←hW];exact run_enterLoop_outer _ _ _ _ _
 ·simp only[resolve,lE];simp[go_sem]
 ·simp only[invoke];rw[Gx hit.1]
 refine callsIn_wide.2 ((hit.2 g W1 _ (by simp[EC];omega) (fun i av x e1 e2=>?_) i1 (fun h' g' w' q1 q2=>?_)).mono ?_)
 ·cases i with
  |zero =>
   simp only[A5,Bh]at e1;rw[HN]at e2
   have:x=.func (.yield (w.heap.size+1)) #[] #[]:=(Cs e2).symm
   subst e1;subst this;exact .v _ _
  |succ i =>
   have e2:lb[i]?=some x:=by rw[←e2,HN];simp
   exact(OF i av x (by simpa using e1) e2).le S1.le
 ·obtain⟨_,_,j2⟩:=On hσ.1 hσ.2 q1 q2;refine⟨(q1.frame _ (by omega) (Rc _ _ hl (hdl _ _ _ _))).trans hl,fun i=>?_⟩;exact((NE i).le S1.le).mono j2.keeps (fun _ h=>h) j2.gh
 rintro e w2 ⟨v,r,h',g2,rfl,rfl,_,q3,q4⟩
 have bZ:w2.heap[w.heap.size+1]?=some (.loop (HR f' a.tmps ps Gz body w.heap.size .ready)):=(q3.frame _ (by omega) (Rc _ _ hl (hdl _ _ _ _))).trans hl;have zj:w2.heap[w.heap.size]?=some (.deferred (some [])):=(q3.frame _ (by omega) (Rc _ _ hD rfl)).trans hD;refine⟨none,_,run_endLoop bZ (fun e=>by cases e),?_⟩;obtain⟨i4,s4⟩:=q3.base.put (n0:=w.heap.size) (x:=w.heap.size) (o':=.loop { HR f' a.tmps ps Gz body w.heap.size .ready with state:=.exhausted }) bZ (hdl _ _ _ _) (hdl f' a.tmps w.heap.size .exhausted) (.inl (by omega));have S4:=(S1.trans (ZL.of_inv q3 q4 (by omega))).trans s4;generalize hW4:w2.putObj (w.heap.size+1) (.loop { HR f' a.tmps ps Gz body w.heap.size .ready with state:=.exhausted })=w4 at i4 s4 S4;have uk:w4.heap[w.heap.size]?=some (.deferred (some [])):=by rw[←hW4,World.putObj_heap_other (by omega)];exact zj
 have hE:Ll cx (Ai Hn Aa):=by unfold Ll;rw[hx];exact fun i hi=>⟨(Gi yj i hi).1,(Gi yj i hi).2.1⟩
 have zw:SR N [{ target:=.collected w.heap.size,args:=#[] }] w4 g2 (Ai Hn Aa) ⟨env,Ai Hn Aa⟩ g2 { a with defers:=[{ target:=.collected w.heap.size,args:=#[] }]++a.defers } w4 :=
  ⟨i4,.refl _ _ _,by simp[ha],hN,fun i=>(NE i).le S4.le⟩
 refine Np hP hT hm hE (fun l σ _ _ w _ _ _=>hY l σ _ w) none rest hcr (fun e wY g5 a5 w5 hq lA=>?_) zw qV;have fin:cR cx wY fn.results.toList σ Qv→LeavesInM (JB none) 0 P fn a5.tmps R a5.defers .returning w5:=by
  intro hk;have xx:w5.heap[w.heap.size]?=some (.deferred (some [])):=(lA.inv.frame _ (Bl.1 uk).1 (fun r hr e=>OS (i4.objs r) hr e uk rfl)).trans uk;rw[lA.dfs];refine⟨by simp,.inl ⟨w.heap.size,_,rfl,run_takeDeferred xx,?_⟩⟩;obtain⟨i6,s6⟩:=lA.inv.base.put (n0:=w.heap.size) (x:=w.heap.size) (o':=.deferred none) xx rfl rfl (.inr rfl);have zx:SR N [{ target:=.collected w.heap.size,args:=#[] }] (w5.putObj w.heap.size (.deferred none)) g5 wY.h wY g5 a5 (w5.putObj w.heap.size (.deferred none)):=⟨i6,.refl _ _ _,lA.dfs,lA.size,fun i=>(lA.slots i).le s6.le⟩;have S6:=(S4.trans (ZL.of_inv lA.inv lA.le (Br (Al _) S4.size))).trans s6;obtain⟨v,k2,r,h7,g7,k1,k5,k3,k4⟩:=aG (H0:=H0) hT hσ.1 hσ.2 (SR.rebase zx (i6.of_seg S6 fun h=>absurd h (Nat.lt_irrefl _)) S6.le) hk;exact⟨v,k2,hR v r h7 g7 _ k1 k5 k3 k4⟩
 cases e with
 |normal=>exact fin hq
 |ret=>exact fin hq
 |exit id=>exact hq.elim
end
section
variable {P:Program}{N:Nat}{w:World}{g:Gh}
theorem dz(o k r:Nat){H:List (Nat×HO)}(cx:Cx)(hP:cx.P=P)(hT:Ck P cx.T)(hm:P.follows .mixedOrders=true)(hx:cx.ext=true){σ:IR}(hσ:(GE σ&&In σ H)=true){fn:FuncId}{tm:Array Value}{ps:Array Tmp}{Gz body:Code}{D l:Nat}
  {env:Nat→AV} {args:List AV} {U:Nat→Prop} {Q:AV→(Nat→HO)→Prop} (vq:args.length=ps.toList.length) (hN:tm.size=N) (hpN:(ps.toList.all fun p=>Nat.blt p N)=true) (zE:Er N Gz=true) (uH:Er N body=true)
  (hU:∀i,U i→AP (Ai H Aa) i)
  (hk:QX cx Gz (fun e st=>match e with | .normal=>QX cx body (fun e st=>match e with | .normal=>sX st.h o k r fun h'=>Q (.v (.bool true)) (Fw σ (OD h' cx.pl.fin)) | _=>False) st | _=>False) ⟨jz ps.toList args env,Ai H Aa⟩)
  (hY:∀l σ g w,cx.yp l σ g w:=by exact fun _ _ _ _=>trivial) (uD:Od [] body=false:=by kernel_rfl) :
  II P (fun g w=>w.heap[l]?=some (.loop (HR fn tm ps Gz body D .ready))∧∀i,BD g w U (env i) (tm.getD i undef)) l args (Ai H Aa) Q:=by
 simp only[Af]at hσ;intro g w vals hs hv hI ⟨hl,NE⟩;have Dz:l<w.heap.size:=(Bl.1 hl).1;have hdl:∀s,VP (.loop (HR fn tm ps Gz body D s))=true:=fun s=>by show(!Od [] body)=true;rw[uD];rfl
 have hE:Ll cx (Ai H Aa):=by unfold Ll;rw[hx];exact fun i hi=>⟨(Gi hσ.2 i hi).1,(Gi hσ.2 i hi).2.1⟩
 have Rc:∀r,((Ai H Aa) r).live→g.own r≠some l:=fun r hr e=>OS (hI.objs r) hr e hl (hdl _);have lG:∀(t0:Array Value),(ps.zip vals).foldl (fun tmps (p:Nat×Value)=>tmps.setIfInBounds p.1 p.2) t0=(ps.toList.zip vals.toList).foldl (fun t p=>t.setIfInBounds p.1 p.2) t0:=fun t0=>by
  rw[←Array.foldl_toList,Array.toList_zip]
 have hry:=run_yield (P:=P) (args:=vals) hl (by simp only[hs,vq,BY]);refine⟨fn,_,Gz,body,hry,roundIn_of_wpIn trivial ?_⟩;obtain⟨z1,z2⟩:=Xf (U:=AP (Ai H Aa)) (ps:=ps.toList) (args:=args) (vals:=vals.toList) (tm:=tm) (env:=env) (by simpa using hs) vq (fun p hp=>by
  have:=(Bk.1 hpN) p hp
  rw[hN];simpa using this) (fun i av x e1 e2=>hv i av x e1 (by simpa using e2)) (fun i=>(NE i).mono (.refl _ _) hU (.refl _ _))
 have zv:SR N [] w g (Ai H Aa) ⟨jz ps.toList args env,Ai H Aa⟩ g { tmps:=(ps.zip vals).foldl (fun tmps (p:Nat×Value)=>tmps.setIfInBounds p.1 p.2) tm,defers:=[] } w:=by
  refine⟨hI,.refl _ _ _,rfl,?_,fun i=>?_⟩
  ·rw[lG];exact z1.trans hN
  ·rw[lG];exact z2 i
 refine Np hP hT hm hE (fun l σ _ _ w _ _ _=>hY l σ _ w) (some l) Gz zE (fun e st1 g1 a1 w1 hq fy=>?_) zv hk;cases e with
 |exit _=>exact hq.elim
 |ret=>exact hq.elim
 |normal =>
  have sG:w1.heap[l]?=some (.loop (HR fn tm ps Gz body D .ready)):=(fy.inv.frame l Dz Rc).trans hl;refine⟨_,run_beginRound sG rfl,?_⟩;obtain⟨iS,sS⟩:=hI.put (n0:=w.heap.size) (x:=l) (o':=.loop (HR fn tm ps Gz body D .busy)) hl (hdl _) (hdl _) (.inr rfl);have uV:(w.putObj l (.loop (HR fn tm ps Gz body D .busy))).heap[l]?=some (.loop (HR fn tm ps Gz body D .busy)):=World.putObj_heap_same Dz;have jZ:(w.putObj l (.loop (HR fn tm ps Gz body D .busy))).heap.size=w.heap.size:=by simp[World.putObj]
  obtain⟨_,sB⟩:=iS.dullS (w':=w) (n0:=w.heap.size) (x:=l) ⟨rfl,rfl,rfl⟩ (by rw[jZ];exact Al _) (fun b _=>by
   by_cases e:b=l
   ·subst e;exact .inr ⟨_,_,uV,hl,hdl _,hdl _⟩
   ·exact .inl (World.putObj_heap_other e).symm) (fun b _ Dr=>(World.putObj_heap_other Dr).symm)
  obtain⟨i2,s2⟩:=fy.inv.base.put (n0:=w.heap.size) (x:=l) (o':=.loop (HR fn tm ps Gz body D .busy)) sG (hdl _) (hdl _) (.inr rfl);have S2:=(sB.trans (ZL.of_inv fy.inv fy.le (Al _))).trans s2;have bZ:(w1.putObj l (.loop (HR fn tm ps Gz body D .busy))).heap[l]?=some (.loop (HR fn tm ps Gz body D .busy)):=World.putObj_heap_same (Bl.1 sG).1;have zn:=i2.of_seg (by rw[jZ];exact S2) (fun _=>bZ.trans uV.symm);have ut:SR N [] (w.putObj l (.loop (HR fn tm ps Gz body D .busy))) g (Ai H Aa) st1 g1 a1 (w1.putObj l (.loop (HR fn tm ps Gz body D .busy))):=⟨zn,S2.le,fy.dfs,fy.size,fun i=>(fy.slots i).le s2.le⟩;refine Np hP hT hm hE (fun l σ _ _ w _ _ _=>hY l σ _ w) (some l) body uH (fun e st3 g3 a3 w3 hq qd=>?_) ut hq;cases e with
  |exit _=>exact hq.elim
  |ret=>exact hq.elim
  |normal =>
   obtain⟨h3,g3',qd,hq⟩:=ik qd hq;have sH:w3.heap[l]?=some (.loop (HR fn tm ps Gz body D .busy)):=(qd.inv.frame l (by rw[jZ];exact Dz) Rc).trans uV;refine⟨.bool true,w3.putObj l (.loop (HR fn tm ps Gz body D .ready)),run_endRound none sH,?_⟩;obtain⟨gf,ym,if2⟩:=Mz cx.pl.fin qd.inv;obtain⟨i4,s4⟩:=ym.base.put (n0:=w.heap.size) (x:=l) (o':=.loop (HR fn tm ps Gz body D .ready)) sH (hdl _) (hdl _) (.inr rfl);have S4:=(sS.trans (ZL.of_inv ym (qd.le.trans if2) (by rw[jZ];exact Al _))).trans s4;have zW:(w3.putObj l (.loop (HR fn tm ps Gz body D .ready))).heap[l]?=some (.loop (HR fn tm ps Gz body D .ready)):=World.putObj_heap_same (Bl.1 sH).1;have zo:=i4.of_seg S4 (fun _=>zW.trans hl.symm);obtain⟨_,j1,j2⟩:=On hσ.1 hσ.2 zo S4.le;exact⟨.bool true,.v (.bool true),_,_,rfl,hq,.v _ _,j1,j2⟩
end
def ph(h:Nat→HO)(o k r sz:Nat)(K:(Nat→HO)→Prop):Prop :=
 match h o with
 |.cells cs=>match IY cs k with
  |.v (.slice none 0 0)=>match h r with
   |.free=>K (AR (AR h r (.var sz 0 0)) o (.cells (EB cs k (.slice (.ver r sz 0) []))))
   |_=>False
  |_=>False
 |_=>False
section
variable {P:Program}{N:Nat}{ds:List Deferred}{w0:World}{g0:Gh}{h0:Nat→HO}{st:St}{g:Gh}{a:Act}{w:World}
theorem nZ(hS:SR N ds w0 g0 h0 st g a w){o k r sz:Nat}{K:(Nat→HO)→Prop}(hk:ph st.h o k r sz K):∃h' g',SR N ds w0 g0 h0 ⟨st.t,h'⟩ g' a w∧K h':=by
 unfold ph at hk;split at hk
 ·rename_i cs e0;split at hk
  ·rename_i e1;split at hk
   ·rename_i hf;have iX:o≠r:=fun e=>by rw[e,hf]at e0;cases e0
    have PB:=I3 cs k _ e1 (by simp)
    obtain⟨m1,m2⟩:=hS.inv.upd r (.var sz 0 0) (.slice none 0 0) 0 true none g.S w none ⟨rfl,rfl,rfl,Al _⟩ (fun _ _ _=>rfl) (fun b e=>by cases e) (fun _ _ h=>h) (fun _ _ h=>.inl h) (fun b o e=>by cases e) (fun b hh e=>by first | (cases e;done) | (exact absurd hh.2 (by simp))) (by simp)
     (fun hu=>absurd hf hu) (fun _ _=>by
      obtain⟨u1,u2,u3,u4⟩:=Bw g r (.slice none 0 0) 0 true none g.S;exact⟨u3,u2,none,0,u1,.inl ⟨rfl,u4⟩⟩)
    generalize T9:g.upd r (.slice none 0 0) 0 true none g.S=g1 at m1 m2;have gr:g1.tk r=true∧g1.ln r=0∧g1.ρ r=.slice none 0 0:=by rw[←T9];simp[Gh.upd]
    have mU : (AR st.h r (.var sz 0 0)) o=.cells cs:=by rw[BT _ _ _ _ iX,e0]
    obtain⟨g3,p1,p2⟩:=Oe m1 mU PB (new:=.slice (.ver r sz 0) []) (fun y hy=>by
     cases hy
     exact .ver _ r sz 0 [] _ (.snil _ _ _) (fun c hc=>by cases hc) (by unfold AP;rw[A8];simp) gr.1 (AL _) (fun _=>gr.2.2.symm))
    exact⟨_,g3,⟨p1,hS.le.trans (m2.trans p2),hS.dfs,hS.size,fun i=>(hS.slots i).le (m2.trans p2)⟩,hk⟩
   ·exact hk.elim
  ·exact hk.elim
 ·exact hk.elim
def td(o k r sz:Nat)(bI:Cx)(P:Program)(N:Nat)(fn:Func)(σ:IR)(Q:AV→(Nat→HO)→Prop)(b rest:Code)(st:St):Prop :=
 ph st.h o k r sz fun h1 =>
  ∃(σF σr:IR) (H0 Hn:List (Nat×HO)) (lq s:Nat) (ps:Array Tmp) (Gz body:Code) (gf:Nat) (caps:List AV),
  b=.block lq (.rangeFunc (.tmp s) ps Gz body)∧(Ek σF&&Dv h1 0 0&&Df σF 0 0)=true∧Fw σF h1=Ai H0 Aa∧(GE σr&&In σr H0)=true∧In σr Hn=true ∧
  ren (Cf σF) h1 (st.t s)=.clo gf caps ∧
  (∀(l D:Nat) (f' : FuncId) (tm:Array Value),tm.size=N→WN P (fun g w=>w.heap[l]?=some (.loop (HR f' tm ps Gz body D .ready))∧∀i,BD g w (AP (Ai H0 Aa)) (ren (Cf σF) h1 (st.t i)) (tm.getD i undef)) σr gf
   (.v (.func (.yield l) #[] #[])::caps) (Ai H0 Aa) fun _ h'=>h'=Ai Hn Aa) ∧
  Er N rest=true∧Od [] body=false∧QX bI rest (Xc bI fn.results.toList σr fun r h'=>Q (ren (Cf σ) (D6 σF 0 0 h1 h') (ren (E3 σF 0 0) h' r)) (Fw σ (D6 σF 0 0 h1 h')))
   ⟨fun i=>ren (Cf σF) h1 (st.t i),Ai Hn Aa⟩
theorem bj (o k r sz : Nat) {f : Nat} {fn : Func} {c : Code} {args : List AV} {H : List (Nat × HO)} {Q : AV → (Nat → HO) → Prop} (cx bI : Cx) (σ : IR) (hP : cx.P = P) (hT : Ck P cx.T) (zt : bI.P = P) (zy : Ck P bI.T) (hm : P.follows .mixedOrders = true) (hx : cx.ext = true) (pd : bI.ext = true) (hf : P.funcs[f]? = some fn) (hn : (fn.name == "runtime.NumGoroutine") = false)
  (hb:fn.body=some c) (hN:args.length≤fn.ntmps) (hc:Er fn.ntmps c=true) (hσ:(GE σ&&In σ H)=true) (n:Nat)
  (hk:jj cx n c (Xc cx fn.results.toList σ fun r h'=>∃r',Hl r r'∧Q r' h') (td o k r sz bI P fn.ntmps fn σ fun r h'=>∃r',Hl r r'∧Q r' h') ⟨Ol args,Ai H Aa⟩)
  (hY:∀l σ g w,cx.yp l σ g w:=by exact fun _ _ _ _=>trivial) (zA:∀l σ g w,bI.yp l σ g w:=by exact fun _ _ _ _=>trivial):A3 P f args (Ai H Aa) Q:=by
 refine A3.mono (Q:=fun r h'=>∃r',Hl r r'∧Q r' h') ?_ fun _ _ ⟨r',s,q⟩=>⟨r',s,q⟩;simp only[Af]at hσ;refine⟨⟨fn,hf,hn,by simp[hb]⟩,fun g w vals hs hv hI=>callsIn_wide.1 (callsIn_of_wp_marks (F:=Fence.wide) (n:=0) hf hb trivial ?_ rfl)⟩;have hE:Ll cx (Ai H Aa):=by unfold Ll;rw[hx];exact fun i hi=>⟨(Gi hσ.2 i hi).1,(Gi hσ.2 i hi).2.1⟩
 have hS:SR fn.ntmps [] w g (Ai H Aa) ⟨Ol args,Ai H Aa⟩ g { tmps:=vals++Array.replicate (fn.ntmps-vals.size) undef,defers:=[] } w:=by
  refine⟨hI,.refl _ _ _,rfl,by simp[hs];omega,fun i=>?_⟩
  have:=Om (n:=fn.ntmps-vals.size) (args:=args) (vals:=vals.toList) (by simpa using hs) (fun i av x q1 q2=>hv i av x q1 (by simpa using q2)) i
  rw[Cg,←A1];rw[BR]at this;simpa using this
 refine jk hP hT hm hE (fun l σ _ _ w _ _ _=>hY l σ _ w) (fun e st g' a w' Dr hk hS=>?_) (fun b rest st g' a w' hk hS=>?_) n c hc hS hk
 ·have out:cR cx st fn.results.toList σ (fun r h'=>∃r',Hl r r'∧Q r' h')→LeavesInM (JB none) 0 P fn a.tmps (fun e w'=>∃v r h' g',e=Ending.returned v∧(∃r',Hl r r'∧Q r' h')∧BD g' w' (AP h') r v∧DA w g (Ai H Aa) h' g' w'∧Le (Ai H Aa) g w h' g' w') a.defers .returning w':=by
   intro hk;obtain⟨v,q2,r,h',g2,q1,q3,q4,q5⟩:=aG hT hσ.1 hσ.2 hS hk;rw[hS.dfs];exact⟨v,q2,v,r,h',g2,rfl,q1,q3,q4,q5⟩
  cases e with
  |normal=>exact absurd rfl Dr
  |ret=>exact out hk
  |exit id=>exact hk.elim
 ·obtain⟨h1,g',hS,hk⟩:=nZ hS hk;obtain⟨σF,σr,H0,Hn,lq,s,ps,Gz,body,gf,caps,rfl,k1,k2,k3,k4,k5,k6,k7,k9,k8⟩:=hk;have hσF:Ek σF=true:=by simp only[Af]at k1;exact k1.1.1
  obtain⟨ur,su⟩:=Wa hS.inv hσF;rw[k2]at su;have NE:∀i,BD (Dn σF g') w' (AP (Ai H0 Aa)) (ren (Cf σF) h1 (st.t i)) (a.tmps.getD i undef):=fun i=>by
   have:=(hS.slots i).ren ur
   rwa [k2]at this
  refine Mu (Q:=fun r h'=>∃r',Hl (ren (Cf σ) (D6 σF 0 0 h1 h') (ren (E3 σF 0 0) h' r)) r'∧Q r' (Fw σ (D6 σF 0 0 h1 h'))) (C:=fun R'=>(∀e aZ,R' e aZ→(∃v r h' g',e=Ending.returned v∧(∃r',Hl r r'∧Q r' h')∧BD g' aZ (AP h') r v∧DA w g (Ai H Aa) h' g' aZ∧Le (Ai H Aa) g w h' g' aZ)) →
   (Code.block lq (.rangeFunc (.tmp s) ps Gz body)).wpIn (JB none) 0 P (Exit.then (rest.wpIn (JB none) 0 P (bodyPostM (JB none) 0 P fn (fun e aZ=>∃v r h' g',e=Ending.returned v∧(∃r',Hl r r'∧Q r' h')∧BD g' aZ (AP h') r v∧DA w g (Ai H Aa) h' g' aZ∧Le (Ai H Aa) g w h' g' aZ))) (bodyPostM (JB none) 0 P fn (fun e aZ=>∃v r h' g',e=Ending.returned v∧(∃r',Hl r r'∧Q r' h')∧BD g' aZ (AP h') r v∧DA w g (Ai H Aa) h' g' aZ∧Le (Ai H Aa) g w h' g' aZ))) a w')
   (fun h k h2=>h fun e w r=>h2 _ _ (k _ _ r)) hS.inv (d:=0) (nn:=0) k1 (fun _ lL=>?_) (fun v r h' g2 w2 q1 q2 q3 q4=>?_) (fun _ _ h=>h)
  ·rw[k2]at lL;exact om bI zt zy hm pd k3 k4 k5 k6 k7 k9 k8 zA hS.dfs hS.size su NE fun v r h' g5 w5 q1 q2 q3 q4=>lL _ _ ⟨v,r,h',g5,rfl,q1,q2,q3,q4⟩
  ·obtain⟨hR,j1,j2⟩:=On hσ.1 hσ.2 q2 (hS.le.trans q3);exact⟨v,_,_,_,rfl,q1,q4.ren hR,j1,j2⟩
end
end Go.Eng
namespace Go.Eng
open Go.Sort
end Go.Eng
namespace Go.Eng
end Go.Eng
namespace Go.Eng
open Go.Proofs
variable {P:Program}
theorem I6.lend{f:Nat}{sz:Nat}{es:List (List AV)}{vs:List Value}{x:Value}(hp:I6 P f [.agg (.slice .none es::vs.map .v)] (.v x)) :
  A3 P f [.agg (.msl 1000 es.length::vs.map .v)] (Ai [(1000,.arr sz es)] Aa) fun r h'=>r=.v x∧h'=Ai [(1000,.arr sz es)] Aa:=by
 refine⟨hp.1,fun g w us hs hv hI=>?_⟩;have ho:D8 g w (AP (Ai [(1000,.arr sz es)] Aa)) 1000 (.arr sz es):=hI.objs 1000;have hl:∀r,(Ai [(1000,HO.arr sz es)] Aa r).live→r=1000:=fun r hr=>by
  unfold Ai at hr;cases e:Nat.beq r 1000 with
  |true=>exact AI e
  |false=>rw[e]at hr;exact hr.elim
 obtain⟨t,zX,EC,qo⟩:=ho
 match us,hs with
 | ⟨[u]⟩,_ =>
 have h0:=hv 0 _ u rfl rfl;generalize hU:AP (Ai [(1000,HO.arr sz es)] Aa)=U at h0;generalize hc:AV.msl 1000 es.length::vs.map AV.v=cs at h0;cases h0 with
 |agg _ _ us h1 h2 h3 =>
  subst hc;have Kf:0<us.size:=by rw[h1];simp
  have hm:=h3 0 _ us[0] rfl (Bi Kf);generalize hy:us[0]=y at hm;cases hm with
  |msl _ _ _ a cap q1 q2 q3 q4 q5 =>
   have hρ:=q5 zX.symm
   -- the ghost in which the array is stable
   obtain⟨S1,fy,ut,hR⟩:∃S1:Nat→Nat→Prop,(∀b o,g.S b o→S1 b o)∧(∀b o,S1 b o→b<w.heap.size)∧BD { g with S:=S1 } w Fg (.slice .none es) (.slice a es.length cap):=by
    rcases qo with ⟨e1,e2,e3⟩ | ⟨b,KU,E,xs,e1,e2,e3,e4,e5,e6,e7⟩
    ·subst e1;exact⟨g.S,fun _ _ h=>h,hI.slt,.snil _ _ _⟩
    ·rw[e1]at hρ;cases hρ;have hK:EE g w { g with S:=fun c o=>g.S c o∨c=b } w:=fun c o h=>⟨.inl h,rfl,fun _ _ h=>h⟩
     refine⟨fun c o=>g.S c o∨c=b,fun _ _ h=>.inl h,fun c o h=>h.elim (hI.slt c o) fun h=>?_,?_⟩
     ·subst h;exact(Bl.1 e4).1
     ·exact BD.slice_row e4 EC e3 (e6.mono hK (fun _ h=>h) (fun _ h=>h.elim)) fun o _=>.inr rfl
   have hK:EE g w { g with S:=S1 } w:=fun c o h=>⟨fy _ _ h,rfl,fun _ _ h=>h⟩;have hA:BD { g with S:=S1 } w (AP Aa) (.agg (.slice .none es::vs.map .v)) (.agg us):=by
    refine .agg _ _ _ (by rw[h1];rfl) h2 fun i av z k1 k2=>?_
    match i,k1 with
    |0,k1 =>
     have:us[0]?=some us[0]:=Bi Kf
     rw[this]at k2;cases k2;cases k1;rw[hy];exact hR.up _
    |i+1,k1 =>
     have k3:=h3 (i+1) av z k1 k2
     have:∃q,av=.v q:=by
      have yn : (vs.map AV.v)[i]?=some av:=k1;rw[AF,AS]at yn;exact yn.imp fun _ h=>h.2.symm
     obtain⟨q,rfl⟩:=this;rw[k3.v_eq];exact .v _ _
   have su:DA w { g with S:=S1 } Aa Aa { g with S:=S1 } w :=
    ⟨rfl,rfl,rfl,Al _,fun _ _ _=>rfl,ut,fun _=>trivial,fun _ _ _ h=>h.elim,fun _ _ h=>h.elim,fun _ _ h=>.inl h,hI.glob.keep hK⟩
   refine(hp.2 { g with S:=S1 } w ⟨[Value.agg us]⟩ rfl (fun i av z k1 k2=>by
    match i,k1,k2 with
    |0,k1,k2=>cases k1;cases k2;exact hA) su).mono ?_
   rintro e w' ⟨v,r,h',g',rfl,⟨rfl,rfl⟩,p1,p2,p3⟩
   have dI:∀b,b<w.heap.size→w'.heap[b]?=w.heap[b]?:=fun b hb=>p2.frame b hb fun _ h=>h.elim;have un:EE g w g w':=fun b o hS=>by
    have:=dI b (hI.slt b o hS)
    exact⟨hS,by simp[World.cell?,this],fun es ck h=>this.trans h⟩
   refine⟨v,.v x,_,g,rfl,⟨rfl,rfl⟩,by rw[p1.v_eq];exact .v _ _,?_,⟨.refl _ _,fun _ h=>h,un⟩⟩;refine⟨p2.os,p2.tape,p2.output,p2.size,fun b hb _=>dI b hb,fun b o h=>Bu (hI.slt b o h) p2.size,fun r=>?_,hI.inj,fun r b h1 h2=>?_,fun _ _ h=>.inl h,hI.glob.keep un⟩
   ·exact(hI.objs r).same un (fun _ h=>h) (.refl _ _) rfl rfl rfl rfl fun b xF SE=>⟨dI b (hI.loc r b xF SE).1,fun _ h=>h⟩
   ·exact⟨Bu (hI.loc r b h1 h2).1 p2.size,.inr ⟨r,h1,h2⟩⟩
end Go.Eng
