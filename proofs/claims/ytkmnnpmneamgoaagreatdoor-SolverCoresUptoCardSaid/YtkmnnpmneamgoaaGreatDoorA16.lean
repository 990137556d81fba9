/- Lemmas for the claims of this seat, without a condition: part 16 (EngZP, EngZQ, EngZS, EngZT, EngZU, EngZV). -/
import Derived.Test.YtkmnnpmneamgoaaGreatDoorA15
namespace Go.Eng
abbrev Ez(fn:FuncId)(tm:Array Value)(ps:Array Tmp)(EA body:Code)(D:Nat)(s:LoopState):Loop :=
 { state:=s,pending:=none,fn:=fn,tmps:=tm,params:=ps,assign:=EA,body:=body,defers:=D }
def cD:List Nat→List AV→(Nat→AV)→Nat→AV
 |p::ps,v::vs,e=>cD ps vs (H3 e p v)
 |_,_,e=>e
section
variable {P:Program}{N:Nat}{w:World}{g:Gh}
theorem SP{U:Nat→Prop}:∀{ps:List Nat} {args:List AV} {vals:List Value} {tm:Array Value} {env:Nat→AV},vals.length=args.length→args.length=ps.length→(∀p∈ps,p<tm.size) →
  (∀(i:Nat) (av:AV) (x:Value),args[i]?=some av→vals[i]?=some x→BK g w U av x)→(∀i,BK g w U (env i) (tm.getD i undef)) →
  ((ps.zip vals).foldl (fun t p=>t.setIfInBounds p.1 p.2) tm).size=tm.size∧∀i,BK g w U (cD ps args env i) (((ps.zip vals).foldl (fun t p=>t.setIfInBounds p.1 p.2) tm).getD i undef)
 | [],args,vals,tm,env,_,h2,_,_,he=>by
  have:args=[]:=AK h2
  subst this;exact⟨rfl,he⟩
 |p::ps,[],vals,tm,env,_,h2,_,_,_=>by cases h2
 |p::ps,a::args,[],tm,env,h1,_,_,_,_=>by cases h1
 |p::ps,a::args,v::vals,tm,env,h1,h2,h3,h4,he=>by
  have hp:=h3 p (Ab ..)
  obtain⟨q1,q2⟩:=SP (ps:=ps) (args:=args) (vals:=vals) (tm:=tm.setIfInBounds p v) (env:=H3 env p a) (by simpa using h1) (by simpa using h2) (fun q hq=>by simpa using h3 q (Ai _ hq))
   (fun i av x e1 e2=>h4 (i+1) av x (by simpa using e1) (by simpa using e2)) (fun i=>by
    by_cases e:i=p
    ·subst e;have e1:H3 env i a i=a:=by simp[H3]
     have e2:(tm.setIfInBounds i v).getD i undef=v:=by simp[Array.getD_eq_getD_getElem?,hp]
     rw[e1,e2];exact h4 0 a v rfl rfl
    ·have e1:H3 env p a i=env i:=by simp only[H3,Cn e,Ef]
     have e2:(tm.setIfInBounds p v).getD i undef=tm.getD i undef:=by
      simp[Array.getD_eq_getD_getElem?,Array.getElem?_setIfInBounds_ne (Ne.symm e)]
     rw[e1,e2];exact he i)
  exact⟨by simpa using q1,q2⟩

theorem jQ{H:List (Nat×HO)}(cx:Cx)(hP:cx.P=P)(hT:Cu P cx.T)(hm:P.follows .mixedOrders=true)(hx:cx.ext=true){σ:Hy}(hσ:(Fb σ&&FQ σ H)=true){fn:FuncId}{tm:Array Value}{ps:Array Tmp}{EA body:Code}{D l:Nat}
  {env:Nat→AV} {args:List AV} {U:Nat→Prop} {Q:AV→(Nat→HO)→Prop} (lu:args.length=ps.toList.length) (hN:tm.size=N) (xo:(ps.toList.all fun p=>Nat.blt p N)=true) (wT:DJ N EA=true) (rS:DJ N body=true)
  (hU:∀i,U i→AM (Ag H Aa) i)
  (hk:MK cx EA (fun e st=>match e with | .normal=>MK cx body (fun e st=>match e with | .normal=>Q (.v (.bool true)) (Fo σ (NU st.h cx.pl.fin)) | _=>False) st | _=>False) ⟨cD ps.toList args env,Ag H Aa⟩)
  (hY:∀l σ g w,cx.yp l σ g w:=by exact fun _ _ _ _=>trivial) :
  GR P (fun g w=>w.heap[l]?=some (.loop (Ez fn tm ps EA body D .ready))∧∀i,BK g w U (env i) (tm.getD i undef)) l args (Ag H Aa) Q:=by
 simp only[Af]at hσ;intro g w vals hs hv hI ⟨hl,GC⟩;have Dy:l<w.heap.size:=(A7.1 hl).1;have hE:Iu cx (Ag H Aa):=by unfold Iu;rw[hx];exact fun i hi=>⟨(E8 hσ.2 i hi).1,(E8 hσ.2 i hi).2.1⟩
 have LN:∀r,((Ag H Aa) r).live→g.own r≠some l:=fun r hr e=>IH (hI.objs r) hr e hl rfl;have X1:∀(t0:Array Value),(ps.zip vals).foldl (fun tmps (p:Nat×Value)=>tmps.setIfInBounds p.1 p.2) t0=(ps.toList.zip vals.toList).foldl (fun t p=>t.setIfInBounds p.1 p.2) t0:=fun t0=>by
  rw[←Om,Array.toList_zip]
 have xw:=run_yield (P:=P) (args:=vals) hl (by simp only[hs,lu,CD]);refine⟨fn,_,EA,body,xw,roundIn_of_wpIn trivial ?_⟩;obtain⟨z1,z2⟩:=SP (U:=AM (Ag H Aa)) (ps:=ps.toList) (args:=args) (vals:=vals.toList) (tm:=tm) (env:=env) (by simpa using hs) lu (fun p hp=>by
  have:=(AW.1 xo) p hp
  rw[hN];simpa using this) (fun i av x e1 e2=>hv i av x e1 (by simpa using e2)) (fun i=>(GC i).mono (.refl _ _) hU (.refl _ _))
 have wE:SR N [] w g (Ag H Aa) ⟨cD ps.toList args env,Ag H Aa⟩ g { tmps:=(ps.zip vals).foldl (fun tmps (p:Nat×Value)=>tmps.setIfInBounds p.1 p.2) tm,defers:=[] } w:=by
  refine⟨hI,.refl _ _ _,rfl,?_,fun i=>?_⟩
  ·rw[X1];exact z1.trans hN
  ·rw[X1];exact z2 i
 refine Kf hP hT hm hE (fun l σ _ _ w _ _ _=>hY l σ _ w) (some l) EA wT (fun e st1 g1 a1 w1 hq XS=>?_) wE hk;cases e with
 |exit _=>exact hq.elim
 |ret=>exact hq.elim
 |normal =>
  have oT:w1.heap[l]?=some (.loop (Ez fn tm ps EA body D .ready)):=(XS.inv.frame l Dy LN).trans hl;refine⟨_,run_beginRound oT rfl,?_⟩;obtain⟨iS,sS⟩:=hI.put (n0:=w.heap.size) (x:=l) (o':=.loop (Ez fn tm ps EA body D .busy)) hl rfl rfl (.inr rfl);have oU:(w.putObj l (.loop (Ez fn tm ps EA body D .busy))).heap[l]?=some (.loop (Ez fn tm ps EA body D .busy)):=World.putObj_heap_same Dy;have WE:(w.putObj l (.loop (Ez fn tm ps EA body D .busy))).heap.size=w.heap.size:=by simp[World.putObj]
  obtain⟨_,sB⟩:=iS.dullS (w':=w) (n0:=w.heap.size) (x:=l) ⟨rfl,rfl,rfl⟩ (by rw[WE];exact Ao _) (fun b _=>by
   by_cases e:b=l
   ·subst e;exact .inr ⟨_,_,oU,hl,rfl,rfl⟩
   ·exact .inl (World.putObj_heap_other e).symm) (fun b _ DB=>(World.putObj_heap_other DB).symm)
  obtain⟨i2,s2⟩:=XS.inv.base.put (n0:=w.heap.size) (x:=l) (o':=.loop (Ez fn tm ps EA body D .busy)) oT rfl rfl (.inr rfl);have S2:=(sB.trans (UT.of_inv XS.inv XS.le (Ao _))).trans s2;have Xb:(w1.putObj l (.loop (Ez fn tm ps EA body D .busy))).heap[l]?=some (.loop (Ez fn tm ps EA body D .busy)):=World.putObj_heap_same (A7.1 oT).1;have wx:=i2.of_seg (by rw[WE];exact S2) (fun _=>Xb.trans oU.symm);have wF:SR N [] (w.putObj l (.loop (Ez fn tm ps EA body D .busy))) g (Ag H Aa) st1 g1 a1 (w1.putObj l (.loop (Ez fn tm ps EA body D .busy))):=⟨wx,S2.le,XS.dfs,XS.size,fun i=>(XS.slots i).le s2.le⟩;refine Kf hP hT hm hE (fun l σ _ _ w _ _ _=>hY l σ _ w) (some l) body rS (fun e st3 g3 a3 w3 hq la=>?_) wF hq;cases e with
  |exit _=>exact hq.elim
  |ret=>exact hq.elim
  |normal =>
   have lj:w3.heap[l]?=some (.loop (Ez fn tm ps EA body D .busy)):=(la.inv.frame l (by rw[WE];exact Dy) LN).trans oU;refine⟨.bool true,w3.putObj l (.loop (Ez fn tm ps EA body D .ready)),run_endRound none lj,?_⟩;obtain⟨gf,sH,xH⟩:=Ln cx.pl.fin la.inv;obtain⟨i4,s4⟩:=sH.base.put (n0:=w.heap.size) (x:=l) (o':=.loop (Ez fn tm ps EA body D .ready)) lj rfl rfl (.inr rfl);have S4:=(sS.trans (UT.of_inv sH (la.le.trans xH) (by rw[WE];exact Ao _))).trans s4;have w8:(w3.putObj l (.loop (Ez fn tm ps EA body D .ready))).heap[l]?=some (.loop (Ez fn tm ps EA body D .ready)):=World.putObj_heap_same (A7.1 lj).1;have wy:=i4.of_seg S4 (fun _=>w8.trans hl.symm);obtain⟨_,j1,j2⟩:=JZ hσ.1 hσ.2 wy S4.le;exact⟨.bool true,.v (.bool true),_,_,rfl,hq,.v _ _,j1,j2⟩

def Nm(P:Program)(Y:Gh→World→Prop)(σ:Hy)(f:Nat)(args:List AV)(h0:Nat→HO)(Q:AV→(Nat→HO)→Prop):Prop :=
 Gi P f∧∀(g:Gh) (w:World) (vals:Array Value),vals.size=args.length→(∀(i:Nat) (av:AV) (x:Value),args[i]?=some av→vals[i]?=some x→BK g w (AM h0) av x) →
  DF w g h0 h0 g w→(∀h' g' w',DF w g h0 h' g' w'→Le h0 g w h' g' w'→Y (CZ σ g') w') →
  Calls P f vals w fun e w'=>∃v r h' g',e=.returned v∧Q r h'∧BK g' w' (AM h') r v∧DF w g h0 h' g' w'∧Le h0 g w h' g' w'
theorem ia{Y:Gh→World→Prop}{l:Nat}{f:Nat}{fn:Func}{c:Code}{args:List AV}{H0:List (Nat×HO)}{Q:AV→(Nat→HO)→Prop}(cx:Cx)(σ:Hy)(hP:cx.P=P)(hT:Cu P cx.T)(hm:P.follows .mixedOrders=true)(hx:cx.ext=true)(hf:P.funcs[f]?=some fn)
  (hn : (fn.name == "runtime.NumGoroutine") = false) (hb : fn.body = some c) (hN : args.length ≤ fn.ntmps) (hc : DJ fn.ntmps c = true) (hσ : (Fb σ && FQ σ H0) = true)
  (hy:cx.yp=fun l' σ' g w=>l'=l→σ'=σ→Y g w)
  (hk:MK cx c (Uv cx fn.results.toList σ Q) ⟨LZ args,Ag H0 Aa⟩):Nm P Y σ f args (Ag H0 Aa) Q :=
 ⟨⟨fn,hf,hn,by simp[hb]⟩,fun g w vals hs hv hI hp=>OV cx σ hP hT hm hx hf hn hb hN hc hσ hk hs hv hI fun l' σ' h' g' w' _ q1 q2=>by
  rw[hy];intro _ e;subst e;exact hp h' g' w' q1 q2⟩

theorem tc{fn:Func}{Xp s:Nat}{ps:Array Tmp}{EA body rest:Code}(cx:Cx)(hP:cx.P=P)(hT:Cu P cx.T)(hm:P.follows .mixedOrders=true)(hx:cx.ext=true){σ:Hy}{H0 Hn:List (Nat×HO)}(hσ:(Fb σ&&FQ σ H0)=true)(sG:FQ σ Hn=true)
  {env:Nat→AV} {gf:Nat} {caps:List AV} (hF:env s=.clo gf caps) {Qv:AV→Prop}
  (wz:∀(l D:Nat) (f' : FuncId) (tm:Array Value),tm.size=N→Nm P (fun g w=>w.heap[l]?=some (.loop (Ez f' tm ps EA body D .ready))∧∀i,BK g w (AM (Ag H0 Aa)) (env i) (tm.getD i undef)) σ gf
   (.v (.func (.yield l) #[] #[])::caps) (Ag H0 Aa) fun _ h'=>h'=Ag Hn Aa)
  (hcr:DJ N rest=true) (gY:MK cx rest (Zy cx fn.results.toList Qv) ⟨env,Ag Hn Aa⟩) (hY:∀l σ g w,cx.yp l σ g w)
  {a:Act} (ha:a.defers=[]) (hN:a.tmps.size=N) (hI:DF w g (Ag H0 Aa) (Ag H0 Aa) g w) (GC:∀i,BK g w (AM (Ag H0 Aa)) (env i) (a.tmps.getD i undef))
  {R:Ending→World→Prop} (hR:∀v r h' g' w',Qv r→BK g' w' Fp r v→DF w g (Ag H0 Aa) h' g' w'→Le (Ag H0 Aa) g w h' g' w'→R (.returned v) w') :
  (Code.block Xp (.rangeFunc (.tmp s) ps EA body)).wpIn (JQ none) 0 P (Exit.then (rest.wpIn (JQ none) 0 P (bodyPostM (JQ none) 0 P fn R)) (bodyPostM (JQ none) 0 P fn R)) a w:=by
 simp only[Af]at hσ;refine wpIn_block (wpIn_rangeFunc fun f' _=>?_);have hs:=GC s;rw[hF]at hs;have XY:a.eval (.tmp s)=a.tmps.getD s undef:=rfl;generalize hfv:a.tmps.getD s undef=fv at hs XY;cases hs with
 |clo _ _ _ lb En Nb =>
 obtain⟨i0,s0⟩:=hI.allocS (n0:=w.heap.size) (x:=w.heap.size) (.deferred (some [])) (Ao _);obtain⟨i1,s1⟩:=i0.allocS (n0:=w.heap.size) (x:=w.heap.size) (.loop (Ez f' a.tmps ps EA body w.heap.size .ready)) (by rw[World.size_alloc];omega);generalize hW:(w.alloc (.deferred (some []))).alloc (.loop (Ez f' a.tmps ps EA body w.heap.size .ready))=W1 at i1 s1;have xy:W1.heap.size=w.heap.size+2:=by rw[←hW,World.size_alloc,World.size_alloc]
 have hl:W1.heap[w.heap.size+1]?=some (.loop (Ez f' a.tmps ps EA body w.heap.size .ready)):=by
  rw[←hW]
  have:=World.alloc_heap_new (w.alloc (.deferred (some []))) (.loop (Ez f' a.tmps ps EA body w.heap.size .ready))
  rwa [World.size_alloc]at this
 have hD:W1.heap[w.heap.size]?=some (.deferred (some [])):=by
  rw[←hW,heap_alloc_old _ _ (by rw[World.size_alloc];omega)];exact World.alloc_heap_new w _
 have LN:∀b ob,W1.heap[b]?=some ob→Zw ob=true→∀r,((Ag H0 Aa) r).live→g.own r≠some b:=fun b ob hb hd r hr e=>IH (i1.objs r) hr e hb hd;have S1:=s0.trans s1;have hit:=wz (w.heap.size+1) w.heap.size f' a.tmps hN
 refine⟨w.heap.size+1,[{ target:=.collected w.heap.size,args:=#[] }],W1,{ target:=.fn (.func gf) lb,args:=#[.func (.yield (w.heap.size+1)) #[] #[]] },W1,gf,
  #[.func (.yield (w.heap.size+1)) #[] #[]]++lb,W1,?_,?_,fun _ _=>trivial,?_,fun e=>(by cases e),?_⟩
 ·rw[←hW];exact run_enterLoop_outer _ _ _ _ _
 ·simp only[resolve,XY];simp[go_sem]
 ·simp only[invoke];rw[F7 hit.1]
 refine callsIn_wide.2 ((hit.2 g W1 _ (by simp[En];omega) (fun i av x e1 e2=>?_) i1 (fun h' g' w' q1 q2=>?_)).mono ?_)
 ·cases i with
  |zero =>
   simp only[Bk,Bv]at e1;rw[E4]at e2
   have:x=.func (.yield (w.heap.size+1)) #[] #[]:=(Ck e2).symm
   subst e1;subst this;exact .v _ _
  |succ i =>
   have e2:lb[i]?=some x:=by rw[←e2,E4];simp
   exact(Nb i av x (by simpa using e1) e2).le S1.le
 ·obtain⟨_,_,j2⟩:=JZ hσ.1 hσ.2 q1 q2;refine⟨(q1.frame _ (by omega) (LN _ _ hl rfl)).trans hl,fun i=>?_⟩;exact((GC i).le S1.le).mono j2.keeps (fun _ h=>h) j2.gh
 rintro e w2 ⟨v,r,h',g2,rfl,rfl,_,q3,q4⟩
 have Xb:w2.heap[w.heap.size+1]?=some (.loop (Ez f' a.tmps ps EA body w.heap.size .ready)):=(q3.frame _ (by omega) (LN _ _ hl rfl)).trans hl;have wq:w2.heap[w.heap.size]?=some (.deferred (some [])):=(q3.frame _ (by omega) (LN _ _ hD rfl)).trans hD;refine⟨none,_,run_endLoop Xb (fun e=>by cases e),?_⟩;obtain⟨i4,s4⟩:=q3.base.put (n0:=w.heap.size) (x:=w.heap.size) (o':=.loop { Ez f' a.tmps ps EA body w.heap.size .ready with state:=.exhausted }) Xb rfl rfl (.inl (by omega));have S4:=(S1.trans (UT.of_inv q3 q4 (by omega))).trans s4;generalize hW4:w2.putObj (w.heap.size+1) (.loop { Ez f' a.tmps ps EA body w.heap.size .ready with state:=.exhausted })=w4 at i4 s4 S4;have oy:w4.heap[w.heap.size]?=some (.deferred (some [])):=by rw[←hW4,World.putObj_heap_other (by omega)];exact wq
 have hE:Iu cx (Ag Hn Aa):=by unfold Iu;rw[hx];exact fun i hi=>⟨(E8 sG i hi).1,(E8 sG i hi).2.1⟩
 have wG:SR N [{ target:=.collected w.heap.size,args:=#[] }] w4 g2 (Ag Hn Aa) ⟨env,Ag Hn Aa⟩ g2 { a with defers:=[{ target:=.collected w.heap.size,args:=#[] }]++a.defers } w4 :=
  ⟨i4,.refl _ _ _,by simp[ha],hN,fun i=>(GC i).le S4.le⟩
 refine Kf hP hT hm hE (fun l σ _ _ w _ _ _=>hY l σ _ w) none rest hcr (fun e pO g5 a5 w5 hq Wv=>?_) wG gY;have fin:dR cx pO fn.results.toList Qv→LeavesInM (JQ none) 0 P fn a5.tmps R a5.defers .returning w5:=by
  intro hk;have rr:w5.heap[w.heap.size]?=some (.deferred (some [])):=(Wv.inv.frame _ (A7.1 oy).1 (fun r hr e=>IH (i4.objs r) hr e oy rfl)).trans oy;rw[Wv.dfs];refine⟨by simp,.inl ⟨w.heap.size,_,rfl,run_takeDeferred rr,?_⟩⟩;obtain⟨i6,s6⟩:=Wv.inv.base.put (n0:=w.heap.size) (x:=w.heap.size) (o':=.deferred none) rr rfl rfl (.inr rfl);have wH:SR N [{ target:=.collected w.heap.size,args:=#[] }] (w5.putObj w.heap.size (.deferred none)) g5 pO.h pO g5 a5 (w5.putObj w.heap.size (.deferred none)):=⟨i6,.refl _ _ _,Wv.dfs,Wv.size,fun i=>(Wv.slots i).le s6.le⟩;obtain⟨g7,r,v,h7,k1,k2,k3,k4,k5⟩:=WT hT wH hk;have S7:=((S4.trans (UT.of_inv Wv.inv Wv.le (Bw (Ao _) S4.size))).trans s6).trans (UT.of_inv k3 k4 (Bw (Ao _) ((S4.trans (UT.of_inv Wv.inv Wv.le (Bw (Ao _) S4.size))).trans s6).size));exact⟨v,k2,hR v r h7 g7 _ k1 k5 (k3.base.of_seg S7 fun h=>absurd h (Nat.lt_irrefl _)) S7.le⟩
 cases e with
 |normal=>exact fin hq
 |ret=>exact fin hq
 |exit id=>exact hq.elim
end
end Go.Eng

namespace Go.Eng
def fy(cx:Cx):Nat→Code→(Ex→St→Prop)→(Code→Code→St→Prop)→St→Prop
 |0,.seq (.seq a b) d,Q,K,st=>MK cx a (fun e FB=>match e with |.normal=>K b d FB |e=>Q e FB) st
 |0,.seq b d,_,K,st=>K b d st
 |n+1,.seq a b,Q,K,st=>MK cx a (fun e FB=>match e with |.normal=>fy cx n b Q K FB |e=>Q e FB) st
 |_,_,_,_,_=>False
section
variable {P:Program}{N:Nat}{ds:List Deferred}{w0:World}{g0:Gh}{h0:Nat→HO}{st:St}{g:Gh}{a:Act}{w:World}
theorem aR{cx:Cx}(hP:cx.P=P)(hT:Cu P cx.T)(hm:P.follows .mixedOrders=true)(hE:Iu cx h0)(hY:∀l σ h g w,Ec σ=true→DF w0 g0 h0 h g w→Le h0 g0 w0 h g w→cx.yp l σ (CZ σ g) w)
  {Qa:Ex→St→Prop} {K:Code→Code→St→Prop} {Q:Exit→Act→World→Prop} (hQ:∀e st g a w,e≠.normal→Qa e st→SR N ds w0 g0 h0 st g a w→Q e.real a w)
  (hK:∀b d st g a w,K b d st→SR N ds w0 g0 h0 st g a w→b.wpIn (JQ none) 0 P (Exit.then (d.wpIn (JQ none) 0 P Q) Q) a w) :
  ∀(n:Nat) (c:Code),DJ N c=true→∀{st:St} {g:Gh} {a:Act} {w:World},SR N ds w0 g0 h0 st g a w→fy cx n c Qa K st→c.wpIn (JQ none) 0 P Q a w:=by
 intro n
 induction n with
 |zero =>
  intro c hc st g a w hS hk;cases c with
  |seq y d =>
   simp only[DJ,Af]at hc;cases y with
   |seq x b =>
    have hk:MK cx x (fun e FB=>match e with | .normal=>K b d FB | e=>Qa e FB) st:=hk;simp only[DJ,Af]at hc;refine wpIn_seq (wpIn_seq (Kf hP hT hm hE hY none x hc.1.1 (Qa:=fun e FB=>match e with | .normal=>K b d FB | e=>Qa e FB) (fun e st g a w q hS=>?_) hS hk));cases e with
    |normal=>exact hK b d _ _ _ _ q hS
    |exit id=>exact hQ (.exit id) _ _ _ _ (fun e=>by cases e) q hS
    |ret=>exact hQ .ret _ _ _ _ (fun e=>by cases e) q hS
   |_=>exact wpIn_seq (hK _ d _ _ _ _ hk hS)
  |_=>exact hk.elim
 |succ n ih =>
  intro c hc st g a w hS hk;cases c with
  |seq x y =>
   simp only[DJ,Af]at hc;refine wpIn_seq (Kf hP hT hm hE hY none x hc.1 (Qa:=fun e FB=>match e with | .normal=>fy cx n y Qa K FB | e=>Qa e FB) (fun e st g a w q hS=>?_) hS hk);cases e with
   |normal=>exact ih y hc.2 hS q
   |exit id=>exact hQ (.exit id) _ _ _ _ (fun e=>by cases e) q hS
   |ret=>exact hQ .ret _ _ _ _ (fun e=>by cases e) q hS
  |_=>exact hk.elim
def strT(h:Nat→HO):AV→AV
 |.tup cs=>.tup (cs.map (str h))
 |a=>str h a
theorem BK.strT{h:Nat→HO}(ho:∀r,Ej g w (AM h) r (h r)){av:AV}{x:Value}(r:BK g w (AM h) av x):BK g w Fp (Eng.strT h av) x:=by
 cases av with
 |tup cs =>
  cases r with
  |tup _ _ vs hs hr =>
   exact .tup _ _ vs (by simp[hs]) fun i av x q1 q2=>by
    rw[AJ,AQ]at q1;obtain⟨a,e1,rfl⟩:=q1;exact BK.str ho (hr i a x e1 q2)
 |_=>exact BK.str ho r
def y9(PM:Cx)(P:Program)(N:Nat)(fn:Func)(res:AV)(b rest:Code)(st:St):Prop :=
 ∃(σF σ:Hy) (H0 Hn:List (Nat×HO)) (Xp s:Nat) (ps:Array Tmp) (EA body:Code) (gf:Nat) (caps:List AV),
  b=.block Xp (.rangeFunc (.tmp s) ps EA body)∧(Ec σF&&DE st.h 0 0&&Dm σF 0 0)=true∧Fo σF st.h=Ag H0 Aa∧(Fb σ&&FQ σ H0)=true∧FQ σ Hn=true ∧
  ren (Cr σF) st.h (st.t s)=.clo gf caps ∧
  (∀(l D:Nat) (f' : FuncId) (tm:Array Value),tm.size=N→Nm P (fun g w=>w.heap[l]?=some (.loop (Ez f' tm ps EA body D .ready))∧∀i,BK g w (AM (Ag H0 Aa)) (ren (Cr σF) st.h (st.t i)) (tm.getD i undef)) σ gf
   (.v (.func (.yield l) #[] #[])::caps) (Ag H0 Aa) fun _ h'=>h'=Ag Hn Aa) ∧
  DJ N rest=true∧MK PM rest (Zy PM fn.results.toList fun r=>GI r res) ⟨fun i=>ren (Cr σF) st.h (st.t i),Ag Hn Aa⟩
theorem ja {f : Nat} {fn : Func} {c : Code} {args : List AV} {res : AV} (cx PM : Cx) (hP : cx.P = P) (hT : Cu P cx.T) (wD : PM.P = P) (wJ : Cu P PM.T) (hm : P.follows .mixedOrders = true) (hx : cx.ext = false) (qn : PM.ext = true) (hf : P.funcs[f]? = some fn) (hn : (fn.name == "runtime.NumGoroutine") = false)
  (hb:fn.body=some c) (hN:args.length≤fn.ntmps) (hc:DJ fn.ntmps c=true) (n:Nat) (cX:∀g h,ren g h res=res∧strT h res=res)
  (hk:fy cx n c (Zy cx fn.results.toList fun r=>GI r res) (y9 PM P fn.ntmps fn res) ⟨LZ args,Aa⟩)
  (hY:∀l σ g w,cx.yp l σ g w:=by exact fun _ _ _ _=>trivial) (wL:∀l σ g w,PM.yp l σ g w:=by exact fun _ _ _ _=>trivial):LG P f args res:=by
 refine⟨⟨fn,hf,hn,by simp[hb]⟩,fun g w vals hs hv hI=>callsIn_wide.1 (callsIn_of_wp_marks (F:=Fence.wide) (n:=0) hf hb trivial ?_ rfl)⟩;have hU:AM Aa=Fp:=by funext i;unfold AM Fp Aa;simp
 have hS:SR fn.ntmps [] w g Aa ⟨LZ args,Aa⟩ g { tmps:=vals++Array.replicate (fn.ntmps-vals.size) undef,defers:=[] } w:=by
  refine⟨hI,.refl _ _ _,rfl,by simp[hs];omega,fun i=>?_⟩
  have:=Mi (n:=fn.ntmps-vals.size) (args:=args) (vals:=vals.toList) (by simpa using hs) (fun i av x q1 q2=>hv i av x q1 (by simpa using q2)) i
  rw[Cw,←AO];rw[B6]at this;simpa using this
 refine aR hP hT hm (by unfold Iu;rw[hx];exact fun _=>rfl) (fun l σ _ _ w _ _ _=>hY l σ _ w) (fun e st g' a w' DB hk hS=>?_) (fun b rest st g' a w' hk hS=>?_) n c hc hS hk
 ·have out:dR cx st fn.results.toList (fun r=>GI r res)→LeavesInM (JQ none) 0 P fn a.tmps (fun e w'=>∃v r h' g',e=Ending.returned v∧(r=res∧h'=Aa)∧BK g' w' (AM h') r v∧DF w g Aa h' g' w'∧Le Aa g w h' g' w') a.defers .returning w':=by
   intro hk;obtain⟨g2,r,v,h',q1,q2,q3,q4,q5⟩:=WT hT hS hk;rw[hS.dfs];exact⟨v,q2,v,res,Aa,g2,rfl,⟨rfl,rfl⟩,by rw[hU];exact q1 _ _ _ _ q5,DF.toFree (st:=⟨st.t,h'⟩) q3,⟨fun i hi=>absurd rfl hi,fun i hi=>absurd rfl hi,q4.keeps⟩⟩
  cases e with
  |normal=>exact absurd rfl DB
  |ret=>exact out hk
  |exit id=>exact hk.elim
 ·obtain⟨σF,σ,H0,Hn,Xp,s,ps,EA,body,gf,caps,rfl,k1,k2,k3,k4,k5,k6,k7,k8⟩:=hk;have xG:Ec σF=true:=by simp only[Af]at k1;exact k1.1.1
  obtain⟨oC,rt⟩:=Tc hS.inv xG;rw[k2]at rt;have GC:∀i,BK (CZ σF g') w' (AM (Ag H0 Aa)) (ren (Cr σF) st.h (st.t i)) (a.tmps.getD i undef):=fun i=>by
   have:=(hS.slots i).ren oC
   rwa [k2]at this
  refine KG (Q:=fun r h'=>r=res) (C:=fun R'=>(∀e QJ,R' e QJ→(∃v r h' g',e=Ending.returned v∧(r=res∧h'=Aa)∧BK g' QJ (AM h') r v∧DF w g Aa h' g' QJ∧Le Aa g w h' g' QJ)) →
   (Code.block Xp (.rangeFunc (.tmp s) ps EA body)).wpIn (JQ none) 0 P (Exit.then (rest.wpIn (JQ none) 0 P (bodyPostM (JQ none) 0 P fn (fun e QJ=>∃v r h' g',e=Ending.returned v∧(r=res∧h'=Aa)∧BK g' QJ (AM h') r v∧DF w g Aa h' g' QJ∧Le Aa g w h' g' QJ))) (bodyPostM (JQ none) 0 P fn (fun e QJ=>∃v r h' g',e=Ending.returned v∧(r=res∧h'=Aa)∧BK g' QJ (AM h') r v∧DF w g Aa h' g' QJ∧Le Aa g w h' g' QJ))) a w')
   (fun h k h2=>h fun e w r=>h2 _ _ (k _ _ r)) hS.inv (d:=0) (nn:=0) k1 (fun _ Ya=>?_) (fun v r h' g2 w2 q1 q2 q3 q4=>?_) (fun _ _ h=>h)
  ·rw[k2]at Ya;exact tc PM wD wJ hm qn k3 k4 k5 k6 k7 k8 wL hS.dfs hS.size rt GC fun v r h' g5 w5 q1 q2 q3 q4=>Ya _ _ ⟨v,res,h',g5,rfl,rfl,(q1 _ _ _ _ q2).up _,q3,q4⟩
  ·subst q1;rw[(cX _ _).1]at q4;have q5:=BK.strT q2.objs q4;rw[(cX (fun _=>none) _).2]at q5;exact⟨v,r,Aa,g2,rfl,⟨rfl,rfl⟩,by rw[hU];exact q5,DF.toFree (st:=⟨st.t,_⟩) q2,⟨fun i hi=>absurd rfl hi,fun i hi=>absurd rfl hi,(hS.le.trans q3).keeps⟩⟩
end
end Go.Eng

namespace Go.Eng
section
variable {P:Program}{N:Nat}{ds:List Deferred}{w0:World}{g0:Gh}{h0:Nat→HO}{st:St}{g:Gh}{a:Act}{w:World}
theorem SR.rebase{w1:World}{g1:Gh}{h1:Nat→HO}(hS:SR N ds w0 g0 h0 st g a w)(hI:DF w1 g1 h1 st.h g w)(hL:Le h1 g1 w1 st.h g w):SR N ds w1 g1 h1 st g a w:=⟨hI,hL,hS.dfs,hS.size,hS.slots⟩
theorem bF{cx:Cx}(hT:Cu P cx.T){H0:List (Nat×HO)}{σ:Hy}(hσ:Fb σ=true)(nh:FQ σ H0=true){fn:Func}{Q:AV→(Nat→HO)→Prop}(hS:SR N ds w0 g0 (Ag H0 Aa) st g a w)(hk:dQ cx st fn.results.toList σ Q) :
  ∃v,(results fn a.tmps).run P w=.ok v w∧∃r h' g',Q r h'∧BK g' w (AM h') r v∧DF w0 g0 (Ag H0 Aa) h' g' w∧Le (Ag H0 Aa) g0 w0 h' g' w:=by
 obtain⟨g2,i1,i2⟩:=Ln cx.pl.fin hS.inv;have Td : SR N ds w0 g0 (Ag H0 Aa) ⟨st.t,NU st.h cx.pl.fin⟩ g2 a w:=⟨i1,hS.le.trans i2,hS.dfs,hS.size,fun i=>(hS.slots i).le i2⟩;obtain⟨l,vs,h1,h2,h3,h4,h5⟩:=Sa hT Td _ hk;obtain⟨hR,j1,j2⟩:=JZ hσ nh i1 Td.le;have Do:(results fn a.tmps).run P w=.ok (if h:vs.toArray.size=1 then vs.toArray[0]else .tuple vs.toArray) w:=by
  rw[Ob,show fn.results=fn.results.toList.toArray by simp,List.mapM_toArray];simp only[Sem.run_bind,Sem.run_map,h2,Result.andThen_ok,Sem.run_pure]
 match l,vs,h1,h3,h5,Do with
 | [v],[x],h1,h3,h5,Do=>exact⟨x,by simpa using Do,_,_,_,h1,(h5 0 v x rfl rfl).ren hR,j1,j2⟩
 | [],vs,h1,h3,h5,Do =>
  have:vs=[]:=AK h3
  subst this;exact⟨.tuple #[],by simpa using Do,_,_,_,h1,BK.ren hR (.tup _ [] _ rfl fun i av x q=>by simp at q),j1,j2⟩
 |v::v' :: l,vs,h1,h3,h5,Do =>
  refine⟨.tuple vs.toArray,?_,_,_,_,h1,BK.ren hR (.tup _ _ _ (by simpa using h3) fun i av x q1 q2=>h5 i av x q1 (by simpa using q2)),j1,j2⟩;rw[Do]
  have:vs.toArray.size≠1:=by simp[h3]
  simp only[this,dif_neg,KU]
theorem pF{fn:Func}{Xp s:Nat}{ps:Array Tmp}{EA body rest:Code}(cx:Cx)(hP:cx.P=P)(hT:Cu P cx.T)(hm:P.follows .mixedOrders=true)(hx:cx.ext=true){σ:Hy}{H0 Hn:List (Nat×HO)}(hσ:(Fb σ&&FQ σ H0)=true)(sG:FQ σ Hn=true)
  {env:Nat→AV} {gf:Nat} {caps:List AV} (hF:env s=.clo gf caps) {Qv:AV→(Nat→HO)→Prop}
  (wz:∀(l D:Nat) (f' : FuncId) (tm:Array Value),tm.size=N→Nm P (fun g w=>w.heap[l]?=some (.loop (Ez f' tm ps EA body D .ready))∧∀i,BK g w (AM (Ag H0 Aa)) (env i) (tm.getD i undef)) σ gf
   (.v (.func (.yield l) #[] #[])::caps) (Ag H0 Aa) fun _ h'=>h'=Ag Hn Aa)
  (hcr:DJ N rest=true) (gY:MK cx rest (Uv cx fn.results.toList σ Qv) ⟨env,Ag Hn Aa⟩) (hY:∀l σ g w,cx.yp l σ g w)
  {a:Act} (ha:a.defers=[]) (hN:a.tmps.size=N) (hI:DF w g (Ag H0 Aa) (Ag H0 Aa) g w) (GC:∀i,BK g w (AM (Ag H0 Aa)) (env i) (a.tmps.getD i undef))
  {R:Ending→World→Prop} (hR:∀v r h' g' w',Qv r h'→BK g' w' (AM h') r v→DF w g (Ag H0 Aa) h' g' w'→Le (Ag H0 Aa) g w h' g' w'→R (.returned v) w') :
  (Code.block Xp (.rangeFunc (.tmp s) ps EA body)).wpIn (JQ none) 0 P (Exit.then (rest.wpIn (JQ none) 0 P (bodyPostM (JQ none) 0 P fn R)) (bodyPostM (JQ none) 0 P fn R)) a w:=by
 simp only[Af]at hσ;refine wpIn_block (wpIn_rangeFunc fun f' _=>?_);have hs:=GC s;rw[hF]at hs;have XY:a.eval (.tmp s)=a.tmps.getD s undef:=rfl;generalize hfv:a.tmps.getD s undef=fv at hs XY;cases hs with
 |clo _ _ _ lb En Nb =>
 obtain⟨i0,s0⟩:=hI.allocS (n0:=w.heap.size) (x:=w.heap.size) (.deferred (some [])) (Ao _);obtain⟨i1,s1⟩:=i0.allocS (n0:=w.heap.size) (x:=w.heap.size) (.loop (Ez f' a.tmps ps EA body w.heap.size .ready)) (by rw[World.size_alloc];omega);generalize hW:(w.alloc (.deferred (some []))).alloc (.loop (Ez f' a.tmps ps EA body w.heap.size .ready))=W1 at i1 s1;have xy:W1.heap.size=w.heap.size+2:=by rw[←hW,World.size_alloc,World.size_alloc]
 have hl:W1.heap[w.heap.size+1]?=some (.loop (Ez f' a.tmps ps EA body w.heap.size .ready)):=by
  rw[←hW]
  have:=World.alloc_heap_new (w.alloc (.deferred (some []))) (.loop (Ez f' a.tmps ps EA body w.heap.size .ready))
  rwa [World.size_alloc]at this
 have hD:W1.heap[w.heap.size]?=some (.deferred (some [])):=by
  rw[←hW,heap_alloc_old _ _ (by rw[World.size_alloc];omega)];exact World.alloc_heap_new w _
 have LN:∀b ob,W1.heap[b]?=some ob→Zw ob=true→∀r,((Ag H0 Aa) r).live→g.own r≠some b:=fun b ob hb hd r hr e=>IH (i1.objs r) hr e hb hd;have S1:=s0.trans s1;have hit:=wz (w.heap.size+1) w.heap.size f' a.tmps hN
 refine⟨w.heap.size+1,[{ target:=.collected w.heap.size,args:=#[] }],W1,{ target:=.fn (.func gf) lb,args:=#[.func (.yield (w.heap.size+1)) #[] #[]] },W1,gf,
  #[.func (.yield (w.heap.size+1)) #[] #[]]++lb,W1,?_,?_,fun _ _=>trivial,?_,fun e=>(by cases e),?_⟩
 ·rw[←hW];exact run_enterLoop_outer _ _ _ _ _
 ·simp only[resolve,XY];simp[go_sem]
 ·simp only[invoke];rw[F7 hit.1]
 refine callsIn_wide.2 ((hit.2 g W1 _ (by simp[En];omega) (fun i av x e1 e2=>?_) i1 (fun h' g' w' q1 q2=>?_)).mono ?_)
 ·cases i with
  |zero =>
   simp only[Bk,Bv]at e1;rw[E4]at e2
   have:x=.func (.yield (w.heap.size+1)) #[] #[]:=(Ck e2).symm
   subst e1;subst this;exact .v _ _
  |succ i =>
   have e2:lb[i]?=some x:=by rw[←e2,E4];simp
   exact(Nb i av x (by simpa using e1) e2).le S1.le
 ·obtain⟨_,_,j2⟩:=JZ hσ.1 hσ.2 q1 q2;refine⟨(q1.frame _ (by omega) (LN _ _ hl rfl)).trans hl,fun i=>?_⟩;exact((GC i).le S1.le).mono j2.keeps (fun _ h=>h) j2.gh
 rintro e w2 ⟨v,r,h',g2,rfl,rfl,_,q3,q4⟩
 have Xb:w2.heap[w.heap.size+1]?=some (.loop (Ez f' a.tmps ps EA body w.heap.size .ready)):=(q3.frame _ (by omega) (LN _ _ hl rfl)).trans hl;have wq:w2.heap[w.heap.size]?=some (.deferred (some [])):=(q3.frame _ (by omega) (LN _ _ hD rfl)).trans hD;refine⟨none,_,run_endLoop Xb (fun e=>by cases e),?_⟩;obtain⟨i4,s4⟩:=q3.base.put (n0:=w.heap.size) (x:=w.heap.size) (o':=.loop { Ez f' a.tmps ps EA body w.heap.size .ready with state:=.exhausted }) Xb rfl rfl (.inl (by omega));have S4:=(S1.trans (UT.of_inv q3 q4 (by omega))).trans s4;generalize hW4:w2.putObj (w.heap.size+1) (.loop { Ez f' a.tmps ps EA body w.heap.size .ready with state:=.exhausted })=w4 at i4 s4 S4;have oy:w4.heap[w.heap.size]?=some (.deferred (some [])):=by rw[←hW4,World.putObj_heap_other (by omega)];exact wq
 have hE:Iu cx (Ag Hn Aa):=by unfold Iu;rw[hx];exact fun i hi=>⟨(E8 sG i hi).1,(E8 sG i hi).2.1⟩
 have wG:SR N [{ target:=.collected w.heap.size,args:=#[] }] w4 g2 (Ag Hn Aa) ⟨env,Ag Hn Aa⟩ g2 { a with defers:=[{ target:=.collected w.heap.size,args:=#[] }]++a.defers } w4 :=
  ⟨i4,.refl _ _ _,by simp[ha],hN,fun i=>(GC i).le S4.le⟩
 refine Kf hP hT hm hE (fun l σ _ _ w _ _ _=>hY l σ _ w) none rest hcr (fun e pO g5 a5 w5 hq Wv=>?_) wG gY;have fin:dQ cx pO fn.results.toList σ Qv→LeavesInM (JQ none) 0 P fn a5.tmps R a5.defers .returning w5:=by
  intro hk;have rr:w5.heap[w.heap.size]?=some (.deferred (some [])):=(Wv.inv.frame _ (A7.1 oy).1 (fun r hr e=>IH (i4.objs r) hr e oy rfl)).trans oy;rw[Wv.dfs];refine⟨by simp,.inl ⟨w.heap.size,_,rfl,run_takeDeferred rr,?_⟩⟩;obtain⟨i6,s6⟩:=Wv.inv.base.put (n0:=w.heap.size) (x:=w.heap.size) (o':=.deferred none) rr rfl rfl (.inr rfl);have wH:SR N [{ target:=.collected w.heap.size,args:=#[] }] (w5.putObj w.heap.size (.deferred none)) g5 pO.h pO g5 a5 (w5.putObj w.heap.size (.deferred none)):=⟨i6,.refl _ _ _,Wv.dfs,Wv.size,fun i=>(Wv.slots i).le s6.le⟩;have S6:=(S4.trans (UT.of_inv Wv.inv Wv.le (Bw (Ao _) S4.size))).trans s6;obtain⟨v,k2,r,h7,g7,k1,k5,k3,k4⟩:=bF (H0:=H0) hT hσ.1 hσ.2 (SR.rebase wH (i6.of_seg S6 fun h=>absurd h (Nat.lt_irrefl _)) S6.le) hk;exact⟨v,k2,hR v r h7 g7 _ k1 k5 k3 k4⟩
 cases e with
 |normal=>exact fin hq
 |ret=>exact fin hq
 |exit id=>exact hq.elim
end
end Go.Eng

namespace Go.Eng
section
variable {P:Program}{N:Nat}{w:World}{g:Gh}
theorem eO(o k r:Nat){H:List (Nat×HO)}(cx:Cx)(hP:cx.P=P)(hT:Cu P cx.T)(hm:P.follows .mixedOrders=true)(hx:cx.ext=true){σ:Hy}(hσ:(Fb σ&&FQ σ H)=true){fn:FuncId}{tm:Array Value}{ps:Array Tmp}{EA body:Code}{D l:Nat}
  {env:Nat→AV} {args:List AV} {U:Nat→Prop} {Q:AV→(Nat→HO)→Prop} (lu:args.length=ps.toList.length) (hN:tm.size=N) (xo:(ps.toList.all fun p=>Nat.blt p N)=true) (wT:DJ N EA=true) (rS:DJ N body=true)
  (hU:∀i,U i→AM (Ag H Aa) i)
  (hk:MK cx EA (fun e st=>match e with | .normal=>MK cx body (fun e st=>match e with | .normal=>ur st.h o k r fun h'=>Q (.v (.bool true)) (Fo σ (NU h' cx.pl.fin)) | _=>False) st | _=>False) ⟨cD ps.toList args env,Ag H Aa⟩)
  (hY:∀l σ g w,cx.yp l σ g w:=by exact fun _ _ _ _=>trivial) :
  GR P (fun g w=>w.heap[l]?=some (.loop (Ez fn tm ps EA body D .ready))∧∀i,BK g w U (env i) (tm.getD i undef)) l args (Ag H Aa) Q:=by
 simp only[Af]at hσ;intro g w vals hs hv hI ⟨hl,GC⟩;have Dy:l<w.heap.size:=(A7.1 hl).1;have hE:Iu cx (Ag H Aa):=by unfold Iu;rw[hx];exact fun i hi=>⟨(E8 hσ.2 i hi).1,(E8 hσ.2 i hi).2.1⟩
 have LN:∀r,((Ag H Aa) r).live→g.own r≠some l:=fun r hr e=>IH (hI.objs r) hr e hl rfl;have X1:∀(t0:Array Value),(ps.zip vals).foldl (fun tmps (p:Nat×Value)=>tmps.setIfInBounds p.1 p.2) t0=(ps.toList.zip vals.toList).foldl (fun t p=>t.setIfInBounds p.1 p.2) t0:=fun t0=>by
  rw[←Om,Array.toList_zip]
 have xw:=run_yield (P:=P) (args:=vals) hl (by simp only[hs,lu,CD]);refine⟨fn,_,EA,body,xw,roundIn_of_wpIn trivial ?_⟩;obtain⟨z1,z2⟩:=SP (U:=AM (Ag H Aa)) (ps:=ps.toList) (args:=args) (vals:=vals.toList) (tm:=tm) (env:=env) (by simpa using hs) lu (fun p hp=>by
  have:=(AW.1 xo) p hp
  rw[hN];simpa using this) (fun i av x e1 e2=>hv i av x e1 (by simpa using e2)) (fun i=>(GC i).mono (.refl _ _) hU (.refl _ _))
 have wE:SR N [] w g (Ag H Aa) ⟨cD ps.toList args env,Ag H Aa⟩ g { tmps:=(ps.zip vals).foldl (fun tmps (p:Nat×Value)=>tmps.setIfInBounds p.1 p.2) tm,defers:=[] } w:=by
  refine⟨hI,.refl _ _ _,rfl,?_,fun i=>?_⟩
  ·rw[X1];exact z1.trans hN
  ·rw[X1];exact z2 i
 refine Kf hP hT hm hE (fun l σ _ _ w _ _ _=>hY l σ _ w) (some l) EA wT (fun e st1 g1 a1 w1 hq XS=>?_) wE hk;cases e with
 |exit _=>exact hq.elim
 |ret=>exact hq.elim
 |normal =>
  have oT:w1.heap[l]?=some (.loop (Ez fn tm ps EA body D .ready)):=(XS.inv.frame l Dy LN).trans hl;refine⟨_,run_beginRound oT rfl,?_⟩;obtain⟨iS,sS⟩:=hI.put (n0:=w.heap.size) (x:=l) (o':=.loop (Ez fn tm ps EA body D .busy)) hl rfl rfl (.inr rfl);have oU:(w.putObj l (.loop (Ez fn tm ps EA body D .busy))).heap[l]?=some (.loop (Ez fn tm ps EA body D .busy)):=World.putObj_heap_same Dy;have WE:(w.putObj l (.loop (Ez fn tm ps EA body D .busy))).heap.size=w.heap.size:=by simp[World.putObj]
  obtain⟨_,sB⟩:=iS.dullS (w':=w) (n0:=w.heap.size) (x:=l) ⟨rfl,rfl,rfl⟩ (by rw[WE];exact Ao _) (fun b _=>by
   by_cases e:b=l
   ·subst e;exact .inr ⟨_,_,oU,hl,rfl,rfl⟩
   ·exact .inl (World.putObj_heap_other e).symm) (fun b _ DB=>(World.putObj_heap_other DB).symm)
  obtain⟨i2,s2⟩:=XS.inv.base.put (n0:=w.heap.size) (x:=l) (o':=.loop (Ez fn tm ps EA body D .busy)) oT rfl rfl (.inr rfl);have S2:=(sB.trans (UT.of_inv XS.inv XS.le (Ao _))).trans s2;have Xb:(w1.putObj l (.loop (Ez fn tm ps EA body D .busy))).heap[l]?=some (.loop (Ez fn tm ps EA body D .busy)):=World.putObj_heap_same (A7.1 oT).1;have wx:=i2.of_seg (by rw[WE];exact S2) (fun _=>Xb.trans oU.symm);have wF:SR N [] (w.putObj l (.loop (Ez fn tm ps EA body D .busy))) g (Ag H Aa) st1 g1 a1 (w1.putObj l (.loop (Ez fn tm ps EA body D .busy))):=⟨wx,S2.le,XS.dfs,XS.size,fun i=>(XS.slots i).le s2.le⟩;refine Kf hP hT hm hE (fun l σ _ _ w _ _ _=>hY l σ _ w) (some l) body rS (fun e st3 g3 a3 w3 hq la=>?_) wF hq;cases e with
  |exit _=>exact hq.elim
  |ret=>exact hq.elim
  |normal =>
   obtain⟨h3,g3',la,hq⟩:=jq la hq;have lj:w3.heap[l]?=some (.loop (Ez fn tm ps EA body D .busy)):=(la.inv.frame l (by rw[WE];exact Dy) LN).trans oU;refine⟨.bool true,w3.putObj l (.loop (Ez fn tm ps EA body D .ready)),run_endRound none lj,?_⟩;obtain⟨gf,sH,xH⟩:=Ln cx.pl.fin la.inv;obtain⟨i4,s4⟩:=sH.base.put (n0:=w.heap.size) (x:=l) (o':=.loop (Ez fn tm ps EA body D .ready)) lj rfl rfl (.inr rfl);have S4:=(sS.trans (UT.of_inv sH (la.le.trans xH) (by rw[WE];exact Ao _))).trans s4;have w8:(w3.putObj l (.loop (Ez fn tm ps EA body D .ready))).heap[l]?=some (.loop (Ez fn tm ps EA body D .ready)):=World.putObj_heap_same (A7.1 lj).1;have wy:=i4.of_seg S4 (fun _=>w8.trans hl.symm);obtain⟨_,j1,j2⟩:=JZ hσ.1 hσ.2 wy S4.le;exact⟨.bool true,.v (.bool true),_,_,rfl,hq,.v _ _,j1,j2⟩

end
def qs(h:Nat→HO)(o k r sz:Nat)(K:(Nat→HO)→Prop):Prop :=
 match h o with
 |.cells cs=>match Jf cs k with
  |.v (.slice none 0 0)=>match h r with
   |.free=>K (AZ (AZ h r (.var sz 0 0)) o (.cells (EM cs k (.slice (.ver r sz 0) []))))
   |_=>False
  |_=>False
 |_=>False
section
variable {P:Program}{N:Nat}{ds:List Deferred}{w0:World}{g0:Gh}{h0:Nat→HO}{st:St}{g:Gh}{a:Act}{w:World}
theorem pn(hS:SR N ds w0 g0 h0 st g a w){o k r sz:Nat}{K:(Nat→HO)→Prop}(hk:qs st.h o k r sz K):∃h' g',SR N ds w0 g0 h0 ⟨st.t,h'⟩ g' a w∧K h':=by
 unfold qs at hk;split at hk
 ·rename_i cs e0;split at hk
  ·rename_i e1;split at hk
   ·rename_i hf;have jY:o≠r:=fun e=>by rw[e,hf]at e0;cases e0
    have Vl:=Jo cs k _ e1 (by simp)
    obtain⟨m1,m2⟩:=hS.inv.upd r (.var sz 0 0) (.slice none 0 0) 0 true none g.S w none ⟨rfl,rfl,rfl,Ao _⟩ (fun _ _ _=>rfl) (fun b e=>by cases e) (fun _ _ h=>h) (fun _ _ h=>.inl h) (fun b o e=>by cases e) (fun b hh e=>by first | (cases e;done) | (exact absurd hh.2 (by simp))) (by simp)
     (fun hu=>absurd hf hu) (fun _ _=>by
      obtain⟨u1,u2,u3,u4⟩:=BU g r (.slice none 0 0) 0 true none g.S;exact⟨u3,u2,none,0,u1,.inl ⟨rfl,u4⟩⟩)
    generalize RP:g.upd r (.slice none 0 0) 0 true none g.S=g1 at m1 m2;have gr:g1.tk r=true∧g1.ln r=0∧g1.ρ r=.slice none 0 0:=by rw[←RP];simp[Gh.upd]
    have og : (AZ st.h r (.var sz 0 0)) o=.cells cs:=by rw[B9 _ _ _ _ jY,e0]
    obtain⟨g3,p1,p2⟩:=OD m1 og Vl (new:=.slice (.ver r sz 0) []) (fun y hy=>by
     cases hy
     exact .ver _ r sz 0 [] _ (.snil _ _ _) (fun c hc=>by cases hc) (by unfold AM;rw[Bg];simp) gr.1 (AL _) (fun _=>gr.2.2.symm))
    exact⟨_,g3,⟨p1,hS.le.trans (m2.trans p2),hS.dfs,hS.size,fun i=>(hS.slots i).le (m2.trans p2)⟩,hk⟩
   ·exact hk.elim
  ·exact hk.elim
 ·exact hk.elim
def uB(o k r sz:Nat)(PM:Cx)(P:Program)(N:Nat)(fn:Func)(σ:Hy)(Q:AV→(Nat→HO)→Prop)(b rest:Code)(st:St):Prop :=
 qs st.h o k r sz fun h1 =>
  ∃(σF σr:Hy) (H0 Hn:List (Nat×HO)) (Xp s:Nat) (ps:Array Tmp) (EA body:Code) (gf:Nat) (caps:List AV),
  b=.block Xp (.rangeFunc (.tmp s) ps EA body)∧(Ec σF&&DE h1 0 0&&Dm σF 0 0)=true∧Fo σF h1=Ag H0 Aa∧(Fb σr&&FQ σr H0)=true∧FQ σr Hn=true ∧
  ren (Cr σF) h1 (st.t s)=.clo gf caps ∧
  (∀(l D:Nat) (f' : FuncId) (tm:Array Value),tm.size=N→Nm P (fun g w=>w.heap[l]?=some (.loop (Ez f' tm ps EA body D .ready))∧∀i,BK g w (AM (Ag H0 Aa)) (ren (Cr σF) h1 (st.t i)) (tm.getD i undef)) σr gf
   (.v (.func (.yield l) #[] #[])::caps) (Ag H0 Aa) fun _ h'=>h'=Ag Hn Aa) ∧
  DJ N rest=true∧MK PM rest (Uv PM fn.results.toList σr fun r h'=>Q (ren (Cr σ) (Eh σF 0 0 h1 h') (ren (Fl σF 0 0) h' r)) (Fo σ (Eh σF 0 0 h1 h')))
   ⟨fun i=>ren (Cr σF) h1 (st.t i),Ag Hn Aa⟩
theorem bZ (o k r sz : Nat) {f : Nat} {fn : Func} {c : Code} {args : List AV} {H : List (Nat × HO)} {Q : AV → (Nat → HO) → Prop} (cx PM : Cx) (σ : Hy) (hP : cx.P = P) (hT : Cu P cx.T) (wD : PM.P = P) (wJ : Cu P PM.T) (hm : P.follows .mixedOrders = true) (hx : cx.ext = true) (qn : PM.ext = true) (hf : P.funcs[f]? = some fn) (hn : (fn.name == "runtime.NumGoroutine") = false)
  (hb:fn.body=some c) (hN:args.length≤fn.ntmps) (hc:DJ fn.ntmps c=true) (hσ:(Fb σ&&FQ σ H)=true) (n:Nat)
  (hk:fy cx n c (Uv cx fn.results.toList σ fun r h'=>∃r',GI r r'∧Q r' h') (uB o k r sz PM P fn.ntmps fn σ fun r h'=>∃r',GI r r'∧Q r' h') ⟨LZ args,Ag H Aa⟩)
  (hY:∀l σ g w,cx.yp l σ g w:=by exact fun _ _ _ _=>trivial) (wL:∀l σ g w,PM.yp l σ g w:=by exact fun _ _ _ _=>trivial):Bo P f args (Ag H Aa) Q:=by
 refine Bo.mono (Q:=fun r h'=>∃r',GI r r'∧Q r' h') ?_ fun _ _ ⟨r',s,q⟩=>⟨r',s,q⟩;simp only[Af]at hσ;refine⟨⟨fn,hf,hn,by simp[hb]⟩,fun g w vals hs hv hI=>callsIn_wide.1 (callsIn_of_wp_marks (F:=Fence.wide) (n:=0) hf hb trivial ?_ rfl)⟩;have hE:Iu cx (Ag H Aa):=by unfold Iu;rw[hx];exact fun i hi=>⟨(E8 hσ.2 i hi).1,(E8 hσ.2 i hi).2.1⟩
 have hS:SR fn.ntmps [] w g (Ag H Aa) ⟨LZ args,Ag H Aa⟩ g { tmps:=vals++Array.replicate (fn.ntmps-vals.size) undef,defers:=[] } w:=by
  refine⟨hI,.refl _ _ _,rfl,by simp[hs];omega,fun i=>?_⟩
  have:=Mi (n:=fn.ntmps-vals.size) (args:=args) (vals:=vals.toList) (by simpa using hs) (fun i av x q1 q2=>hv i av x q1 (by simpa using q2)) i
  rw[Cw,←AO];rw[B6]at this;simpa using this
 refine aR hP hT hm hE (fun l σ _ _ w _ _ _=>hY l σ _ w) (fun e st g' a w' DB hk hS=>?_) (fun b rest st g' a w' hk hS=>?_) n c hc hS hk
 ·have out:dQ cx st fn.results.toList σ (fun r h'=>∃r',GI r r'∧Q r' h')→LeavesInM (JQ none) 0 P fn a.tmps (fun e w'=>∃v r h' g',e=Ending.returned v∧(∃r',GI r r'∧Q r' h')∧BK g' w' (AM h') r v∧DF w g (Ag H Aa) h' g' w'∧Le (Ag H Aa) g w h' g' w') a.defers .returning w':=by
   intro hk;obtain⟨v,q2,r,h',g2,q1,q3,q4,q5⟩:=bF hT hσ.1 hσ.2 hS hk;rw[hS.dfs];exact⟨v,q2,v,r,h',g2,rfl,q1,q3,q4,q5⟩
  cases e with
  |normal=>exact absurd rfl DB
  |ret=>exact out hk
  |exit id=>exact hk.elim
 ·obtain⟨h1,g',hS,hk⟩:=pn hS hk;obtain⟨σF,σr,H0,Hn,Xp,s,ps,EA,body,gf,caps,rfl,k1,k2,k3,k4,k5,k6,k7,k8⟩:=hk;have xG:Ec σF=true:=by simp only[Af]at k1;exact k1.1.1
  obtain⟨oC,rt⟩:=Tc hS.inv xG;rw[k2]at rt;have GC:∀i,BK (CZ σF g') w' (AM (Ag H0 Aa)) (ren (Cr σF) h1 (st.t i)) (a.tmps.getD i undef):=fun i=>by
   have:=(hS.slots i).ren oC
   rwa [k2]at this
  refine KG (Q:=fun r h'=>∃r',GI (ren (Cr σ) (Eh σF 0 0 h1 h') (ren (Fl σF 0 0) h' r)) r'∧Q r' (Fo σ (Eh σF 0 0 h1 h'))) (C:=fun R'=>(∀e QJ,R' e QJ→(∃v r h' g',e=Ending.returned v∧(∃r',GI r r'∧Q r' h')∧BK g' QJ (AM h') r v∧DF w g (Ag H Aa) h' g' QJ∧Le (Ag H Aa) g w h' g' QJ)) →
   (Code.block Xp (.rangeFunc (.tmp s) ps EA body)).wpIn (JQ none) 0 P (Exit.then (rest.wpIn (JQ none) 0 P (bodyPostM (JQ none) 0 P fn (fun e QJ=>∃v r h' g',e=Ending.returned v∧(∃r',GI r r'∧Q r' h')∧BK g' QJ (AM h') r v∧DF w g (Ag H Aa) h' g' QJ∧Le (Ag H Aa) g w h' g' QJ))) (bodyPostM (JQ none) 0 P fn (fun e QJ=>∃v r h' g',e=Ending.returned v∧(∃r',GI r r'∧Q r' h')∧BK g' QJ (AM h') r v∧DF w g (Ag H Aa) h' g' QJ∧Le (Ag H Aa) g w h' g' QJ))) a w')
   (fun h k h2=>h fun e w r=>h2 _ _ (k _ _ r)) hS.inv (d:=0) (nn:=0) k1 (fun _ Ya=>?_) (fun v r h' g2 w2 q1 q2 q3 q4=>?_) (fun _ _ h=>h)
  ·rw[k2]at Ya;exact pF PM wD wJ hm qn k3 k4 k5 k6 k7 k8 wL hS.dfs hS.size rt GC fun v r h' g5 w5 q1 q2 q3 q4=>Ya _ _ ⟨v,r,h',g5,rfl,q1,q2,q3,q4⟩
  ·obtain⟨hR,j1,j2⟩:=JZ hσ.1 hσ.2 q2 (hS.le.trans q3);exact⟨v,_,_,_,rfl,q1,q4.ren hR,j1,j2⟩
end
end Go.Eng

namespace Go.Eng
section
variable {P:Program}{N:Nat}{w:World}{g:Gh}
theorem PE{Y:Gh→World→Prop}{l:Nat}{f:Nat}{fn:Func}{c:Code}{args:List AV}{H0:List (Nat×HO)}{Q:AV→(Nat→HO)→Prop}(cx:Cx)(σ σy:Hy)(hP:cx.P=P)(hT:Cu P cx.T)(hm:P.follows .mixedOrders=true)(hx:cx.ext=true)(hf:P.funcs[f]?=some fn)
  (hn : (fn.name == "runtime.NumGoroutine") = false) (hb : fn.body = some c) (hN : args.length ≤ fn.ntmps) (hc : DJ fn.ntmps c = true) (hσ : (Fb σ && FQ σ H0) = true)
  (hy:cx.yp=fun l' σ' g w=>l'=l→σ'=σy→Y g w)
  (GD:∀g w h' g' w',DF w g (Ag H0 Aa) (Ag H0 Aa) g w→DF w g (Ag H0 Aa) h' g' w'→Le (Ag H0 Aa) g w h' g' w'→Y g w→Y (CZ σy g') w')
  (hk:MK cx c (Uv cx fn.results.toList σ Q) ⟨LZ args,Ag H0 Aa⟩):Gx P Y f args (Ag H0 Aa) Q :=
 ⟨⟨fn,hf,hn,by simp[hb]⟩,fun g w vals hs hv hI hY=>OV cx σ hP hT hm hx hf hn hb hN hc hσ hk hs hv hI fun l' σ' h' g' w' _ q1 q2=>by
  rw[hy];intro _ e;subst e;exact GD g w h' g' w' hI q1 q2 hY⟩
theorem Gx.imp{Y:Gh→World→Prop}{f:Nat}{args:List AV}{h0:Nat→HO}{Q Q' : AV→(Nat→HO)→Prop}(h:Gx P Y f args h0 Q)(hq:∀r h',Q r h'→Q' r h'):Gx P Y f args h0 Q' :=
 ⟨h.1,fun g w vals a b c d=>(h.2 g w vals a b c d).mono fun _ _ ⟨v,r,h',g',e,q,k⟩=>⟨v,r,h',g',e,hq r h' q,k⟩⟩
theorem Gx.pre{Y Y' : Gh→World→Prop}{f:Nat}{args:List AV}{h0:Nat→HO}{Q:AV→(Nat→HO)→Prop}(h:Gx P Y f args h0 Q)(hp:∀g w,Y' g w→Y g w):Gx P Y' f args h0 Q :=
 ⟨h.1,fun g w vals a b c d=>h.2 g w vals a b c (hp g w d)⟩
theorem ml{H:List (Nat×HO)}{σ:Hy}(hσ:(Fb σ&&FQ σ H)=true){U:Nat→Prop}(_hU:∀i,U i→AM (Ag H Aa) i){l D:Nat}{f' : FuncId}{tm:Array Value}{ps:Array Tmp}{EA body:Code}{env:Nat→AV} :
  ∀g w h' g' w',DF w g (Ag H Aa) (Ag H Aa) g w→DF w g (Ag H Aa) h' g' w'→Le (Ag H Aa) g w h' g' w' →
   (w.heap[l]?=some (.loop (Ez f' tm ps EA body D .ready))∧∀i,BK g w U (env i) (tm.getD i undef)) →
   (w'.heap[l]?=some (.loop (Ez f' tm ps EA body D .ready))∧∀i,BK (CZ σ g') w' U (env i) (tm.getD i undef)):=by
 intro g w h' g' w' hI q1 q2 ⟨hl,GC⟩;simp only[Af]at hσ;have Dy:l<w.heap.size:=(A7.1 hl).1;have LN:∀r,((Ag H Aa) r).live→g.own r≠some l:=fun r hr e=>IH (hI.objs r) hr e hl rfl;obtain⟨_,_,j2⟩:=JZ hσ.1 hσ.2 q1 q2;exact⟨(q1.frame _ Dy LN).trans hl,fun i=>(GC i).mono j2.keeps (fun _ h=>h) fun r hr=>j2.gh r (_hU r hr)⟩
theorem da{Y0 Y:Gh→World→Prop}{l:Nat}{f:Nat}{fn:Func}{c:Code}{args:List AV}{H0:List (Nat×HO)}{Q:AV→(Nat→HO)→Prop}(cx:Cx)(σ σy:Hy)(hP:cx.P=P)(hT:Cu P cx.T)(hm:P.follows .mixedOrders=true)(hx:cx.ext=true)(hf:P.funcs[f]?=some fn)
  (hn : (fn.name == "runtime.NumGoroutine") = false) (hb : fn.body = some c) (hN : args.length ≤ fn.ntmps) (hc : DJ fn.ntmps c = true) (hσ : (Fb σ && FQ σ H0) = true)
  (hy:cx.yp=fun l' σ' g w=>l'=l→σ'=σy→Y g w) (tr:∀g w,Y0 (CZ σ g) w→Y (CZ σy g) w)
  (hk:MK cx c (Uv cx fn.results.toList σ Q) ⟨LZ args,Ag H0 Aa⟩):Nm P Y0 σ f args (Ag H0 Aa) Q :=
 ⟨⟨fn,hf,hn,by simp[hb]⟩,fun g w vals hs hv hI hp=>OV cx σ hP hT hm hx hf hn hb hN hc hσ hk hs hv hI fun l' σ' h' g' w' _ q1 q2=>by
  rw[hy];intro _ e;subst e;exact tr _ _ (hp h' g' w' q1 q2)⟩
theorem mn{σ σ' : Hy}{U:Nat→Prop}(h:∀i,U i→GW σ' i=GW σ i){R:World→Prop}{tm:Array Value}{env:Nat→AV} :
  ∀g w,(R w∧∀i,BK (CZ σ g) w U (env i) (tm.getD i undef))→(R w∧∀i,BK (CZ σ' g) w U (env i) (tm.getD i undef)):=fun g w ⟨h1,h2⟩ =>
 ⟨h1,fun i=>(h2 i).mono (show E5 (CZ σ g) w (CZ σ' g) w from fun b o hs=>⟨hs,rfl,fun _ _ e=>e⟩) (fun _ h=>h) fun j hj=>by
  have e:=h j hj;unfold CZ;dsimp only;rw[e];exact⟨rfl,Ao _,fun _=>rfl,fun _=>rfl⟩⟩
end
end Go.Eng

namespace Go.Eng
open Go.Sort
section
variable {P:Program}
theorem Zc{f fF:Nat}{caps:List AV}{es:List (List AV)}{sz:Nat}{n' : Nat}{Q:List (List AV)→Prop}(hE:Gi P f)(DB:es≠[])(X7 : n'≤es.length)
  (h1:∀(g:Gh) (w:World) (b cap:Nat) (F lb:Array Value),CY g w Fp es.flatten F.toList→F.size=es.length*sz→Holds id w b 0 F→b<w.heap.size→es.length≤cap→(∀o,¬g.S b o)→(∀b' o,g.S b' o→b' < w.heap.size)→lb.size=caps.length →
   (∀(i:Nat) (av:AV) (x:Value),caps[i]?=some av→lb[i]?=some x→BK g w (AM (Ag [(1000,.arr sz es)] Aa)) av x)→Calls P f #[.slice (some ⟨b,0,none⟩) es.length cap,.func (.func fF) #[] lb] w fun e w' =>
   e=.returned (.slice (some ⟨b,0,none⟩) n' cap)∧∃(F' : Array Value) (ET : List (List AV)) (n:Nat) (os:Array Obj),F'.size=F.size∧Q ET∧ET.length=es.length∧(∀cs∈ET,cs.length=sz) ∧
    (∀(g:Gh) (w:World),CY g w Fp es.flatten F.toList→CY g w Fp ET.flatten F'.toList)∧w'=grow (putRow id (Sort.ahead w n) b 0 F') os) :
  Bo P f [.msl 1000 es.length,.clo fF caps] (Ag [(1000,.arr sz es)] Aa) fun r h'=>r=.msl 2000 n'∧∃ET,Q ET∧h'=Ag [(1000,.dead),(2000,.arr sz (ET.take n'))] Aa:=by
 refine⟨hE,fun g w us hs hv hI=>?_⟩;have ho:=hI.objs 1000;have he:Ag [(1000,HO.arr sz es)] Aa 1000=.arr sz es:=rfl;rw[he]at ho;obtain⟨t1,l1,al,a2⟩:=ho;simp only[Aj,Ah]at hs;have sC:0<us.size:=by omega
 have ZQ:=hv 0 (.msl 1000 es.length) us[0] rfl (Bh sC);have hval:us[0]=g.ρ 1000:=by
  generalize us[0]=x at ZQ;cases ZQ with
  |msl _ r n a cap hu ht hn ha hx=>exact hx l1.symm
 have hu1:1<us.size:=by omega
 have bu:=hv 1 (.clo fF caps) us[1] rfl (Bh hu1);obtain⟨lb,w9,RQ,m5⟩:∃lb:Array Value,us[1]=.func (.func fF) #[] lb∧lb.size=caps.length∧∀(i:Nat) (av:AV) (x:Value),caps[i]?=some av→lb[i]?=some x→BK g w (AM (Ag [(1000,.arr sz es)] Aa)) av x:=by
  generalize us[1]=x at bu;cases bu with
  |clo _ _ _ lb En Nb=>exact⟨lb,rfl,En,Nb⟩
 have KN:us=#[g.ρ 1000,.func (.func fF) #[] lb]:=by
  refine Sf (by simp;omega) fun i h1 h2=>?_
  match i,h1 with
  |0,_=>rw[hval];rfl
  |1,_=>rw[w9];rfl
  |i+2,h1=>simp at hs;omega
 rw[KN];rcases a2 with ⟨b1,b2,b3⟩ | ⟨b,cap,E,vs,b1,b2,b3,b4,b5,b6,b7⟩
 ·exact absurd b1 DB
 ·have hl:(Ag [(1000,HO.arr sz es)] Aa 1000).live:=trivial;have Dy:=(hI.loc 1000 b hl b2).1;have HN:es.length*sz≤vs.size:=by rw[b5];exact Bi _ b3
  have hF:((vs.toList.take (es.length*sz)).toArray).size=es.length*sz:=by simp;omega
  have hH:Holds id w b 0 (vs.toList.take (es.length*sz)).toArray:=fun j hj=>by
   have hj:j<es.length*sz:=by rw[hF]at hj;exact hj
   refine⟨?_,?_⟩
   ·have oR:j<vs.size:=by omega
    simp only[World.cell?,b4,Be,Ou,Df,Gc];rw[Bh oR,DV _ j (by rw[hF];exact hj)];simp
   ·simp[World.frozen?,b4]
  rw[b1];refine(h1 g w b cap _ lb (by simpa using b6) hF hH Dy b3 b7 hI.slt RQ m5).mono ?_
  rintro e w' ⟨rfl,F',ET,n,os,f1,f2,f3,f4,f5,rfl⟩
  have mV : F'.size=es.length*sz:=f1.trans hF;have m8:=Kq F' vs (by omega);have jS : (grow (putRow id (Sort.ahead w n) b 0 F') os).heap[b]?=some (.cells (putCells id 0 F' vs) E (0,0)):=by
   rw[heap_grow_old _ _ (by rw[size_putRow];exact Dy)];show(w.heap.modify b (onCells (putCells id 0 F')))[b]?=_;rw[LD,Ax rfl,b4];rfl
  have oY:∀k,k<w.heap.size→k≠b→(grow (putRow id (Sort.ahead w n) b 0 F') os).heap[k]?=w.heap[k]?:=fun k hk DB=>by
   rw[heap_grow_old _ _ (by rw[size_putRow];exact hk)];simp[putRow,mapBlock,Array.getElem?_modify,Ne.symm DB]
  have En:w.heap.size≤(grow (putRow id (Sort.ahead w n) b 0 F') os).heap.size:=by rw[size_grow,size_putRow];show w.heap.size≤w.heap.size+_;omega
  obtain⟨k1,k2⟩:=hI.upd 1000 (.arr sz ET) (g.ρ 1000) (g.ln 1000) (g.tk 1000) (g.own 1000) g.S (grow (putRow id (Sort.ahead w n) b 0 F') os) (some b) ⟨rfl,rfl,rfl,En⟩
   (fun k hk DB=>oY k hk (fun e=>DB (by rw[e]))) (fun b' e=>by cases e;exact⟨hl,b2⟩) (fun _ _ h=>h) (fun _ _ h=>.inl h) (fun b' o e hs=>by cases e;exact absurd hs (b7 o))
   (fun b' _ e=>by rw[b2]at e;cases e;exact⟨BP Dy En,.inl ⟨hl,b2⟩⟩) (by simp) (fun _=>⟨rfl,Ao _,fun _=>rfl,fun _=>rfl⟩) (fun hg hk=>by
    refine⟨by simp[Gh.upd,t1],by simp[Gh.upd,l1,f3],f4,.inr ⟨b,cap,E,_,by simp[Gh.upd,b1,f3],by simp[Gh.upd,b2],by omega,jS,by rw[m8.2,b5],?_,b7⟩⟩
    have:=f5 g w (by simpa using b6)
    rw[f3,←mV,m8.1];exact this.mono hk (fun _ h=>h) (fun _ h=>h.elim))
  rw[NW]at k1 k2;generalize X2 : g.upd 1000 (g.ρ 1000) (g.ln 1000) (g.tk 1000) (g.own 1000) g.S=g' at k1 k2;have m6 : g'.own 1000=some b:=by rw[←X2];simp[Gh.upd,b2]
  have gU:=k1.objs 1000;have eY:Ag [(1000,HO.arr sz ET)] Aa 1000=.arr sz ET:=rfl;rw[eY]at gU;obtain⟨m1,m2,m3,m4⟩:=gU;have hρ:g'.ρ 1000=.slice (some ⟨b,0,none⟩) es.length cap:=by rw[←X2];simp[Gh.upd,b1]
  have oW : ET≠[]:=fun e=>DB (AK (by rw[←f3,e];rfl));rcases m4 with ⟨m4,_⟩ | ⟨b',OC,E',jO,c1,c2,c3,c4,c5,c6,c7⟩
  ·exact absurd m4 oW
  ·rw[hρ]at c1;simp only[Value.slice.injEq,Bv,Addr.mk.injEq,Sr]at c1;obtain⟨vv,c1b,vw⟩:=c1;subst vv;subst vw;have Wz : (ET.take n').length=n':=by rw[AG];omega
   obtain⟨k3,k4⟩:=k1.move 1000 2000 (by decide) rfl trivial m6 (.arr sz (ET.take n')) (.slice (some ⟨b,0,none⟩) n' cap) n' true (by simp) (fun hk=>by
    refine⟨by simp[Gh.upd],by simp[Gh.upd,Wz],fun cs hcs=>m3 cs (D1 hcs),.inr ⟨b,cap,E',jO,by simp[Gh.upd,Wz],by simp[Gh.upd],by omega,c4,c5,?_,c7⟩⟩
    have:=(c6.mono hk (fun _ h=>h) (fun _ h=>h.elim)).take (n'*sz)
    rw[Jd ET n' m3,KA,M8 (Bi _ (by omega))]at this;rw[Wz];exact this)
   have gR:AZ (AZ (Ag [(1000,HO.arr sz ET)] Aa) 1000 .dead) 2000 (.arr sz (ET.take n'))=Ag [(1000,.dead),(2000,.arr sz (ET.take n'))] Aa:=by
    funext i
    by_cases e1:i=2000
    ·subst e1;rw[Bg];rfl
    ·rw[B9 _ _ _ _ e1]
     by_cases e2:i=1000
     ·subst e2;rw[Bg];rfl
     ·rw[B9 _ _ _ _ e2];simp[Ag,Cn e1,Cn e2]
   rw[gR]at k3 k4;exact⟨_,.msl 2000 n',_,_,rfl,⟨rfl,ET,f2,rfl⟩,.msl _ 2000 n' (some ⟨b,0,none⟩) cap (by intro c;cases c) (by simp[Gh.upd]) (by simp[Gh.upd]) (.inr ⟨b,rfl⟩) (fun _=>by simp[Gh.upd]),k3,k2.trans k4⟩
end
end Go.Eng
