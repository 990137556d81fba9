/- Lemmas for the claims of this seat, without a condition: part 16 (EngZP, EngZQ, EngZS, EngZT, EngZU, EngZV, EngZR). -/
import Derived.Test.YtkmnnpmneamgoaaGreatDoorA15
namespace Go.Eng
abbrev recL (fn:FuncId) (tm:Array Value) (ps:Array Tmp) (asg body:Code) (D:Nat) (s:LoopState):Loop :=
 { state:=s,pending:=none,fn:=fn,tmps:=tm,params:=ps,assign:=asg,body:=body,defers:=D }
def envP:List Nat→List AV→(Nat→AV)→Nat→AV
 | p :: ps,v :: vs,e=>envP ps vs (tput e p v)
 | _,_,e=>e
section
variable {P:Program} {N:Nat} {w:World} {g:Gh}
theorem envP_rep {U:Nat→Prop} : ∀ {ps:List Nat} {args:List AV} {vals:List Value} {tm:Array Value} {env:Nat→AV},vals.length=args.length→args.length=ps.length→(∀ p ∈ ps,p<tm.size) →
  (∀ (i:Nat) (av:AV) (x:Value),args[i]?=some av→vals[i]?=some x→Rep g w U av x)→(∀ i,Rep g w U (env i) (tm.getD i undef)) →
  ((ps.zip vals).foldl (fun t p=>t.setIfInBounds p.1 p.2) tm).size=tm.size∧∀ i,Rep g w U (envP ps args env i) (((ps.zip vals).foldl (fun t p=>t.setIfInBounds p.1 p.2) tm).getD i undef)
 | [],args,vals,tm,env,_,h2,_,_,he=>by
  have:args=[]:=List.eq_nil_of_length_eq_zero h2
  subst this;exact ⟨rfl,he⟩
 | p :: ps,[],vals,tm,env,_,h2,_,_,_=>by cases h2
 | p :: ps,a :: args,[],tm,env,h1,_,_,_,_=>by cases h1
 | p :: ps,a :: args,v :: vals,tm,env,h1,h2,h3,h4,he=>by
  have hp:=h3 p (List.mem_cons_self ..)
  obtain ⟨q1,q2⟩:=envP_rep (ps:=ps) (args:=args) (vals:=vals) (tm:=tm.setIfInBounds p v) (env:=tput env p a) (by simpa using h1) (by simpa using h2) (fun q hq=>by simpa using h3 q (List.mem_cons_of_mem _ hq))
   (fun i av x e1 e2=>h4 (i+1) av x (by simpa using e1) (by simpa using e2)) (fun i=>by
    by_cases e:i=p
    ·subst e;have e1:tput env i a i=a:=by simp [tput]
     have e2:(tm.setIfInBounds i v).getD i undef=v:=by simp [Array.getD_eq_getD_getElem?,hp]
     rw [e1,e2];exact h4 0 a v rfl rfl
    ·have e1:tput env p a i=env i:=by simp only [tput,beq_ne e,cond_false]
     have e2:(tm.setIfInBounds p v).getD i undef=tm.getD i undef:=by
      simp [Array.getD_eq_getD_getElem?,Array.getElem?_setIfInBounds_ne (Ne.symm e)]
     rw [e1,e2];exact he i)
  exact ⟨by simpa using q1,q2⟩

theorem ycall_of {H:List (Nat × HO)} (cx:Cx) (hP:cx.P=P) (hT:TabOk P cx.T) (hm:P.follows .mixedOrders=true) (hx:cx.ext=true) {σ:Ren} (hσ:(renInj σ&&extOk σ H)=true) {fn:FuncId} {tm:Array Value} {ps:Array Tmp} {asg body:Code} {D l:Nat}
  {env:Nat→AV} {args:List AV} {U:Nat→Prop} {Q:AV→(Nat→HO)→Prop} (hps:args.length=ps.toList.length) (hN:tm.size=N) (hpN:(ps.toList.all fun p=>Nat.blt p N)=true) (hca:codeOk N asg=true) (hcb:codeOk N body=true)
  (hU:∀ i,U i→used (heapOf H hfree) i)
  (hk:awp cx asg (fun e st=>match e with | .normal=>awp cx body (fun e st=>match e with | .normal=>Q (.v (.bool true)) (renH σ (frzs st.h cx.pl.fin)) | _=>False) st | _=>False) ⟨envP ps.toList args env,heapOf H hfree⟩)
  (hY:∀ l σ g w,cx.yp l σ g w:=by exact fun _ _ _ _=>trivial) :
  YCall P (fun g w=>w.heap[l]?=some (.loop (recL fn tm ps asg body D .ready))∧∀ i,Rep g w U (env i) (tm.getD i undef)) l args (heapOf H hfree) Q:=by
 simp only [Bool.and_eq_true] at hσ;intro g w vals hs hv hI ⟨hl,hslots⟩;have hlt:l<w.heap.size:=(Array.getElem?_eq_some_iff.1 hl).1;have hE:ExtOk cx (heapOf H hfree):=by unfold ExtOk; rw [hx]; exact fun i hi=>⟨(ext_spec hσ.2 i hi).1,(ext_spec hσ.2 i hi).2.1⟩
 have hno:∀ r,((heapOf H hfree) r).live→g.own r≠some l:=fun r hr e=>not_dull (hI.objs r) hr e hl rfl;have hfold:∀ (t0:Array Value),(ps.zip vals).foldl (fun tmps (p:Nat × Value)=>tmps.setIfInBounds p.1 p.2) t0=(ps.toList.zip vals.toList).foldl (fun t p=>t.setIfInBounds p.1 p.2) t0:=fun t0=>by
  rw [← Array.foldl_toList,Array.toList_zip]
 have hry:=run_yield (P:=P) (args:=vals) hl (by simp only [hs,hps,Array.length_toList]);refine ⟨fn,_,asg,body,hry,roundIn_of_wpIn trivial ?_⟩;obtain ⟨z1,z2⟩:=envP_rep (U:=used (heapOf H hfree)) (ps:=ps.toList) (args:=args) (vals:=vals.toList) (tm:=tm) (env:=env) (by simpa using hs) hps (fun p hp=>by
  have:=(List.all_eq_true.1 hpN) p hp
  rw [hN]; simpa using this) (fun i av x e1 e2=>hv i av x e1 (by simpa using e2)) (fun i=>(hslots i).mono (.refl _ _) hU (.refl _ _))
 have hS0:SR N [] w g (heapOf H hfree) ⟨envP ps.toList args env,heapOf H hfree⟩ g { tmps:=(ps.zip vals).foldl (fun tmps (p:Nat × Value)=>tmps.setIfInBounds p.1 p.2) tm,defers:=[] } w:=by
  refine ⟨hI,.refl _ _ _,rfl,?_,fun i=>?_⟩
  ·rw [hfold]; exact z1.trans hN
  ·rw [hfold]; exact z2 i
 refine awp_ok hP hT hm hE (fun l σ _ _ w _ _ _=>hY l σ _ w) (some l) asg hca (fun e st1 g1 a1 w1 hq hS1=>?_) hS0 hk;cases e with
 | exit _=>exact hq.elim
 | ret=>exact hq.elim
 | normal =>
  have hl1:w1.heap[l]?=some (.loop (recL fn tm ps asg body D .ready)):=(hS1.inv.frame l hlt hno).trans hl;refine ⟨_,run_beginRound hl1 rfl,?_⟩;obtain ⟨iS,sS⟩:=hI.put (n0:=w.heap.size) (x:=l) (o':=.loop (recL fn tm ps asg body D .busy)) hl rfl rfl (.inr rfl);have hlS:(w.putObj l (.loop (recL fn tm ps asg body D .busy))).heap[l]?=some (.loop (recL fn tm ps asg body D .busy)):=World.putObj_heap_same hlt;have hszS:(w.putObj l (.loop (recL fn tm ps asg body D .busy))).heap.size=w.heap.size:=by simp [World.putObj]
  obtain ⟨_,sB⟩:=iS.dullS (w':=w) (n0:=w.heap.size) (x:=l) ⟨rfl,rfl,rfl⟩ (by rw [hszS]; exact Nat.le_refl _) (fun b _=>by
   by_cases e:b=l
   ·subst e; exact .inr ⟨_,_,hlS,hl,rfl,rfl⟩
   ·exact .inl (World.putObj_heap_other e).symm) (fun b _ hne=>(World.putObj_heap_other hne).symm)
  obtain ⟨i2,s2⟩:=hS1.inv.base.put (n0:=w.heap.size) (x:=l) (o':=.loop (recL fn tm ps asg body D .busy)) hl1 rfl rfl (.inr rfl);have S2:=(sB.trans (Seg.of_inv hS1.inv hS1.le (Nat.le_refl _))).trans s2;have hl2:(w1.putObj l (.loop (recL fn tm ps asg body D .busy))).heap[l]?=some (.loop (recL fn tm ps asg body D .busy)):=World.putObj_heap_same (Array.getElem?_eq_some_iff.1 hl1).1;have hI2:=i2.of_seg (by rw [hszS]; exact S2) (fun _=>hl2.trans hlS.symm);have hS2:SR N [] (w.putObj l (.loop (recL fn tm ps asg body D .busy))) g (heapOf H hfree) st1 g1 a1 (w1.putObj l (.loop (recL fn tm ps asg body D .busy))):=⟨hI2,S2.le,hS1.dfs,hS1.size,fun i=>(hS1.slots i).le s2.le⟩;refine awp_ok hP hT hm hE (fun l σ _ _ w _ _ _=>hY l σ _ w) (some l) body hcb (fun e st3 g3 a3 w3 hq hS3=>?_) hS2 hq;cases e with
  | exit _=>exact hq.elim
  | ret=>exact hq.elim
  | normal =>
   have hl3:w3.heap[l]?=some (.loop (recL fn tm ps asg body D .busy)):=(hS3.inv.frame l (by rw [hszS]; exact hlt) hno).trans hlS;refine ⟨.bool true,w3.putObj l (.loop (recL fn tm ps asg body D .ready)),run_endRound none hl3,?_⟩;obtain ⟨gf,if1,if2⟩:=frzs_ok cx.pl.fin hS3.inv;obtain ⟨i4,s4⟩:=if1.base.put (n0:=w.heap.size) (x:=l) (o':=.loop (recL fn tm ps asg body D .ready)) hl3 rfl rfl (.inr rfl);have S4:=(sS.trans (Seg.of_inv if1 (hS3.le.trans if2) (by rw [hszS]; exact Nat.le_refl _))).trans s4;have hl4:(w3.putObj l (.loop (recL fn tm ps asg body D .ready))).heap[l]?=some (.loop (recL fn tm ps asg body D .ready)):=World.putObj_heap_same (Array.getElem?_eq_some_iff.1 hl3).1;have hI4:=i4.of_seg S4 (fun _=>hl4.trans hl.symm);obtain ⟨_,j1,j2⟩:=exit_ok hσ.1 hσ.2 hI4 S4.le;exact ⟨.bool true,.v (.bool true),_,_,rfl,hq,.v _ _,j1,j2⟩

def ICall (P:Program) (Y:Gh→World→Prop) (σ:Ren) (f:Nat) (args:List AV) (h0:Nat→HO) (Q:AV→(Nat→HO)→Prop):Prop :=
 Enters P f∧∀ (g:Gh) (w:World) (vals:Array Value),vals.size=args.length→(∀ (i:Nat) (av:AV) (x:Value),args[i]?=some av→vals[i]?=some x→Rep g w (used h0) av x) →
  Inv w g h0 h0 g w→(∀ h' g' w',Inv w g h0 h' g' w'→Le h0 g w h' g' w'→Y (ghFwd σ g') w') →
  Calls P f vals w fun e w'=>∃ v r h' g',e=.returned v∧Q r h'∧Rep g' w' (used h') r v∧Inv w g h0 h' g' w'∧Le h0 g w h' g' w'
theorem icall_of {Y:Gh→World→Prop} {l:Nat} {f:Nat} {fn:Func} {c:Code} {args:List AV} {H0:List (Nat × HO)} {Q:AV→(Nat→HO)→Prop} (cx:Cx) (σ:Ren) (hP:cx.P=P) (hT:TabOk P cx.T) (hm:P.follows .mixedOrders=true) (hx:cx.ext=true) (hf:P.funcs[f]?=some fn)
  (hn : (fn.name == "runtime.NumGoroutine") = false) (hb : fn.body = some c) (hN : args.length ≤ fn.ntmps) (hc : codeOk fn.ntmps c = true) (hσ : (renInj σ && extOk σ H0) = true)
  (hy:cx.yp=fun l' σ' g w=>l'=l→σ'=σ→Y g w)
  (hk:awp cx c (endG cx fn.results.toList σ Q) ⟨envA args,heapOf H0 hfree⟩):ICall P Y σ f args (heapOf H0 hfree) Q :=
 ⟨⟨fn,hf,hn,by simp [hb]⟩,fun g w vals hs hv hI hp=>gcall_at cx σ hP hT hm hx hf hn hb hN hc hσ hk hs hv hI fun l' σ' h' g' w' _ q1 q2=>by
  rw [hy]; intro _ e; subst e; exact hp h' g' w' q1 q2⟩

theorem rf_of {fn:Func} {bid s:Nat} {ps:Array Tmp} {asg body rest:Code} (cx:Cx) (hP:cx.P=P) (hT:TabOk P cx.T) (hm:P.follows .mixedOrders=true) (hx:cx.ext=true) {σ:Ren} {H0 Hn:List (Nat × HO)} (hσ:(renInj σ&&extOk σ H0)=true) (hσn:extOk σ Hn=true)
  {env:Nat→AV} {gf:Nat} {caps:List AV} (hF:env s=.clo gf caps) {Qv:AV→Prop}
  (hIT:∀ (l D:Nat) (f' : FuncId) (tm:Array Value),tm.size=N→ICall P (fun g w=>w.heap[l]?=some (.loop (recL f' tm ps asg body D .ready))∧∀ i,Rep g w (used (heapOf H0 hfree)) (env i) (tm.getD i undef)) σ gf
   (.v (.func (.yield l) #[] #[]) :: caps) (heapOf H0 hfree) fun _ h'=>h'=heapOf Hn hfree)
  (hcr:codeOk N rest=true) (hrest:awp cx rest (endK cx fn.results.toList Qv) ⟨env,heapOf Hn hfree⟩) (hY:∀ l σ g w,cx.yp l σ g w)
  {a:Act} (ha:a.defers=[]) (hN:a.tmps.size=N) (hI:Inv w g (heapOf H0 hfree) (heapOf H0 hfree) g w) (hslots:∀ i,Rep g w (used (heapOf H0 hfree)) (env i) (a.tmps.getD i undef))
  {R:Ending→World→Prop} (hR:∀ v r h' g' w',Qv r→Rep g' w' NoU r v→Inv w g (heapOf H0 hfree) h' g' w'→Le (heapOf H0 hfree) g w h' g' w'→R (.returned v) w') :
  (Code.block bid (.rangeFunc (.tmp s) ps asg body)).wpIn (fro none) 0 P (Exit.then (rest.wpIn (fro none) 0 P (bodyPostM (fro none) 0 P fn R)) (bodyPostM (fro none) 0 P fn R)) a w:=by
 simp only [Bool.and_eq_true] at hσ;refine wpIn_block (wpIn_rangeFunc fun f' _=>?_);have hs:=hslots s;rw [hF] at hs;have heval:a.eval (.tmp s)=a.tmps.getD s undef:=rfl;generalize hfv:a.tmps.getD s undef=fv at hs heval;cases hs with
 | clo _ _ _ lb hsz hcap =>
 obtain ⟨i0,s0⟩:=hI.allocS (n0:=w.heap.size) (x:=w.heap.size) (.deferred (some [])) (Nat.le_refl _);obtain ⟨i1,s1⟩:=i0.allocS (n0:=w.heap.size) (x:=w.heap.size) (.loop (recL f' a.tmps ps asg body w.heap.size .ready)) (by rw [World.size_alloc]; omega);generalize hW:(w.alloc (.deferred (some []))).alloc (.loop (recL f' a.tmps ps asg body w.heap.size .ready))=W1 at i1 s1;have hsz1:W1.heap.size=w.heap.size+2:=by rw [← hW,World.size_alloc,World.size_alloc]
 have hl:W1.heap[w.heap.size+1]?=some (.loop (recL f' a.tmps ps asg body w.heap.size .ready)):=by
  rw [← hW]
  have:=World.alloc_heap_new (w.alloc (.deferred (some []))) (.loop (recL f' a.tmps ps asg body w.heap.size .ready))
  rwa [World.size_alloc] at this
 have hD:W1.heap[w.heap.size]?=some (.deferred (some [])):=by
  rw [← hW,heap_alloc_old _ _ (by rw [World.size_alloc]; omega)];exact World.alloc_heap_new w _
 have hno:∀ b ob,W1.heap[b]?=some ob→dull ob=true→∀ r,((heapOf H0 hfree) r).live→g.own r≠some b:=fun b ob hb hd r hr e=>not_dull (i1.objs r) hr e hb hd;have S1:=s0.trans s1;have hit:=hIT (w.heap.size+1) w.heap.size f' a.tmps hN
 refine ⟨w.heap.size+1,[{ target:=.collected w.heap.size,args:=#[] }],W1,{ target:=.fn (.func gf) lb,args:=#[.func (.yield (w.heap.size+1)) #[] #[]] },W1,gf,
  #[.func (.yield (w.heap.size+1)) #[] #[]]++lb,W1,?_,?_,fun _ _=>trivial,?_,fun e=>(by cases e),?_⟩
 ·rw [← hW]; exact run_enterLoop_outer _ _ _ _ _
 ·simp only [resolve,heval];simp [go_sem]
 ·simp only [invoke];rw [run_callFunc hit.1]
 refine callsIn_wide.2 ((hit.2 g W1 _ (by simp [hsz]; omega) (fun i av x e1 e2=>?_) i1 (fun h' g' w' q1 q2=>?_)).mono ?_)
 ·cases i with
  | zero =>
   simp only [List.getElem?_cons_zero,Option.some.injEq] at e1;rw [Array.getElem?_append] at e2
   have:x=.func (.yield (w.heap.size+1)) #[] #[]:=(Option.some.inj e2).symm
   subst e1; subst this;exact .v _ _
  | succ i =>
   have e2:lb[i]?=some x:=by rw [← e2,Array.getElem?_append]; simp
   exact (hcap i av x (by simpa using e1) e2).le S1.le
 ·obtain ⟨_,_,j2⟩:=exit_ok hσ.1 hσ.2 q1 q2;refine ⟨(q1.frame _ (by omega) (hno _ _ hl rfl)).trans hl,fun i=>?_⟩;exact ((hslots i).le S1.le).mono j2.keeps (fun _ h=>h) j2.gh
 rintro e w2 ⟨v,r,h',g2,rfl,rfl,_,q3,q4⟩
 have hl2:w2.heap[w.heap.size+1]?=some (.loop (recL f' a.tmps ps asg body w.heap.size .ready)):=(q3.frame _ (by omega) (hno _ _ hl rfl)).trans hl;have hD2:w2.heap[w.heap.size]?=some (.deferred (some [])):=(q3.frame _ (by omega) (hno _ _ hD rfl)).trans hD;refine ⟨none,_,run_endLoop hl2 (fun e=>by cases e),?_⟩;obtain ⟨i4,s4⟩:=q3.base.put (n0:=w.heap.size) (x:=w.heap.size) (o':=.loop { recL f' a.tmps ps asg body w.heap.size .ready with state:=.exhausted }) hl2 rfl rfl (.inl (by omega));have S4:=(S1.trans (Seg.of_inv q3 q4 (by omega))).trans s4;generalize hW4:w2.putObj (w.heap.size+1) (.loop { recL f' a.tmps ps asg body w.heap.size .ready with state:=.exhausted })=w4 at i4 s4 S4;have hD4:w4.heap[w.heap.size]?=some (.deferred (some [])):=by rw [← hW4,World.putObj_heap_other (by omega)]; exact hD2
 have hE:ExtOk cx (heapOf Hn hfree):=by unfold ExtOk; rw [hx]; exact fun i hi=>⟨(ext_spec hσn i hi).1,(ext_spec hσn i hi).2.1⟩
 have hS4:SR N [{ target:=.collected w.heap.size,args:=#[] }] w4 g2 (heapOf Hn hfree) ⟨env,heapOf Hn hfree⟩ g2 { a with defers:=[{ target:=.collected w.heap.size,args:=#[] }]++a.defers } w4 :=
  ⟨i4,.refl _ _ _,by simp [ha],hN,fun i=>(hslots i).le S4.le⟩
 refine awp_ok hP hT hm hE (fun l σ _ _ w _ _ _=>hY l σ _ w) none rest hcr (fun e st5 g5 a5 w5 hq hS5=>?_) hS4 hrest;have fin:outK cx st5 fn.results.toList Qv→LeavesInM (fro none) 0 P fn a5.tmps R a5.defers .returning w5:=by
  intro hk;have hD5:w5.heap[w.heap.size]?=some (.deferred (some [])):=(hS5.inv.frame _ (Array.getElem?_eq_some_iff.1 hD4).1 (fun r hr e=>not_dull (i4.objs r) hr e hD4 rfl)).trans hD4;rw [hS5.dfs];refine ⟨by simp,.inl ⟨w.heap.size,_,rfl,run_takeDeferred hD5,?_⟩⟩;obtain ⟨i6,s6⟩:=hS5.inv.base.put (n0:=w.heap.size) (x:=w.heap.size) (o':=.deferred none) hD5 rfl rfl (.inr rfl);have hS6:SR N [{ target:=.collected w.heap.size,args:=#[] }] (w5.putObj w.heap.size (.deferred none)) g5 st5.h st5 g5 a5 (w5.putObj w.heap.size (.deferred none)):=⟨i6,.refl _ _ _,hS5.dfs,hS5.size,fun i=>(hS5.slots i).le s6.le⟩;obtain ⟨g7,r,v,h7,k1,k2,k3,k4,k5⟩:=outK_ok hT hS6 hk;have S7:=((S4.trans (Seg.of_inv hS5.inv hS5.le (Nat.le_trans (Nat.le_refl _) S4.size))).trans s6).trans (Seg.of_inv k3 k4 (Nat.le_trans (Nat.le_refl _) ((S4.trans (Seg.of_inv hS5.inv hS5.le (Nat.le_trans (Nat.le_refl _) S4.size))).trans s6).size));exact ⟨v,k2,hR v r h7 g7 _ k1 k5 (k3.base.of_seg S7 fun h=>absurd h (Nat.lt_irrefl _)) S7.le⟩
 cases e with
 | normal=>exact fin hq
 | ret=>exact fin hq
 | exit id=>exact hq.elim
end
end Go.Eng

namespace Go.Eng
def awpN (cx:Cx):Nat→Code→(Ex→St→Prop)→(Code→Code→St→Prop)→St→Prop
 | 0,.seq (.seq a b) d,Q,K,st=>awp cx a (fun e st'=>match e with | .normal=>K b d st' | e=>Q e st') st
 | 0,.seq b d,_,K,st=>K b d st
 | n+1,.seq a b,Q,K,st=>awp cx a (fun e st'=>match e with | .normal=>awpN cx n b Q K st' | e=>Q e st') st
 | _,_,_,_,_=>False
section
variable {P:Program} {N:Nat} {ds:List Deferred} {w0:World} {g0:Gh} {h0:Nat→HO} {st:St} {g:Gh} {a:Act} {w:World}
theorem awpN_ok {cx:Cx} (hP:cx.P=P) (hT:TabOk P cx.T) (hm:P.follows .mixedOrders=true) (hE:ExtOk cx h0) (hY:∀ l σ h g w,renOk σ=true→Inv w0 g0 h0 h g w→Le h0 g0 w0 h g w→cx.yp l σ (ghFwd σ g) w)
  {Qa:Ex→St→Prop} {K:Code→Code→St→Prop} {Q:Exit→Act→World→Prop} (hQ:∀ e st g a w,e≠.normal→Qa e st→SR N ds w0 g0 h0 st g a w→Q e.real a w)
  (hK:∀ b d st g a w,K b d st→SR N ds w0 g0 h0 st g a w→b.wpIn (fro none) 0 P (Exit.then (d.wpIn (fro none) 0 P Q) Q) a w) :
  ∀ (n:Nat) (c:Code),codeOk N c=true→∀ {st:St} {g:Gh} {a:Act} {w:World},SR N ds w0 g0 h0 st g a w→awpN cx n c Qa K st→c.wpIn (fro none) 0 P Q a w:=by
 intro n
 induction n with
 | zero =>
  intro c hc st g a w hS hk;cases c with
  | seq y d =>
   simp only [codeOk,Bool.and_eq_true] at hc;cases y with
   | seq x b =>
    have hk:awp cx x (fun e st'=>match e with | .normal=>K b d st' | e=>Qa e st') st:=hk;simp only [codeOk,Bool.and_eq_true] at hc;refine wpIn_seq (wpIn_seq (awp_ok hP hT hm hE hY none x hc.1.1 (Qa:=fun e st'=>match e with | .normal=>K b d st' | e=>Qa e st') (fun e st g a w q hS=>?_) hS hk));cases e with
    | normal=>exact hK b d _ _ _ _ q hS
    | exit id=>exact hQ (.exit id) _ _ _ _ (fun e=>by cases e) q hS
    | ret=>exact hQ .ret _ _ _ _ (fun e=>by cases e) q hS
   | _=>exact wpIn_seq (hK _ d _ _ _ _ hk hS)
  | _=>exact hk.elim
 | succ n ih =>
  intro c hc st g a w hS hk;cases c with
  | seq x y =>
   simp only [codeOk,Bool.and_eq_true] at hc;refine wpIn_seq (awp_ok hP hT hm hE hY none x hc.1 (Qa:=fun e st'=>match e with | .normal=>awpN cx n y Qa K st' | e=>Qa e st') (fun e st g a w q hS=>?_) hS hk);cases e with
   | normal=>exact ih y hc.2 hS q
   | exit id=>exact hQ (.exit id) _ _ _ _ (fun e=>by cases e) q hS
   | ret=>exact hQ .ret _ _ _ _ (fun e=>by cases e) q hS
  | _=>exact hk.elim
def strT (h:Nat→HO):AV→AV
 | .tup cs=>.tup (cs.map (str h))
 | a=>str h a
theorem Rep.strT {h:Nat→HO} (ho:∀ r,ObjRep g w (used h) r (h r)) {av:AV} {x:Value} (r:Rep g w (used h) av x):Rep g w NoU (Eng.strT h av) x:=by
 cases av with
 | tup cs =>
  cases r with
  | tup _ _ vs hs hr =>
   exact .tup _ _ vs (by simp [hs]) fun i av x q1 q2=>by
    rw [List.getElem?_map,Option.map_eq_some_iff] at q1;obtain ⟨a,e1,rfl⟩:=q1;exact Rep.str ho (hr i a x e1 q2)
 | _=>exact Rep.str ho r
def RfK (cx2:Cx) (P:Program) (N:Nat) (fn:Func) (res:AV) (b rest:Code) (st:St):Prop :=
 ∃ (σF σ:Ren) (H0 Hn:List (Nat × HO)) (bid s:Nat) (ps:Array Tmp) (asg body:Code) (gf:Nat) (caps:List AV),
  b=.block bid (.rangeFunc (.tmp s) ps asg body)∧(renOk σF&&newFree st.h 0 0&&newApart σF 0 0)=true∧renH σF st.h=heapOf H0 hfree∧(renInj σ&&extOk σ H0)=true∧extOk σ Hn=true ∧
  ren (rfwd σF) st.h (st.t s)=.clo gf caps ∧
  (∀ (l D:Nat) (f' : FuncId) (tm:Array Value),tm.size=N→ICall P (fun g w=>w.heap[l]?=some (.loop (recL f' tm ps asg body D .ready))∧∀ i,Rep g w (used (heapOf H0 hfree)) (ren (rfwd σF) st.h (st.t i)) (tm.getD i undef)) σ gf
   (.v (.func (.yield l) #[] #[]) :: caps) (heapOf H0 hfree) fun _ h'=>h'=heapOf Hn hfree) ∧
  codeOk N rest=true∧awp cx2 rest (endK cx2 fn.results.toList fun r=>Sub r res) ⟨fun i=>ren (rfwd σF) st.h (st.t i),heapOf Hn hfree⟩
theorem pcall_rf {f : Nat} {fn : Func} {c : Code} {args : List AV} {res : AV} (cx cx2 : Cx) (hP : cx.P = P) (hT : TabOk P cx.T) (hP2 : cx2.P = P) (hT2 : TabOk P cx2.T) (hm : P.follows .mixedOrders = true) (hx : cx.ext = false) (hx2 : cx2.ext = true) (hf : P.funcs[f]? = some fn) (hn : (fn.name == "runtime.NumGoroutine") = false)
  (hb:fn.body=some c) (hN:args.length≤fn.ntmps) (hc:codeOk fn.ntmps c=true) (n:Nat) (hres:∀ g h,ren g h res=res∧strT h res=res)
  (hk:awpN cx n c (endK cx fn.results.toList fun r=>Sub r res) (RfK cx2 P fn.ntmps fn res) ⟨envA args,hfree⟩)
  (hY:∀ l σ g w,cx.yp l σ g w:=by exact fun _ _ _ _=>trivial) (hY2:∀ l σ g w,cx2.yp l σ g w:=by exact fun _ _ _ _=>trivial):PCall P f args res:=by
 refine ⟨⟨fn,hf,hn,by simp [hb]⟩,fun g w vals hs hv hI=>callsIn_wide.1 (callsIn_of_wp_marks (F:=Fence.wide) (n:=0) hf hb trivial ?_ rfl)⟩;have hU:used hfree=NoU:=by funext i; unfold used NoU hfree; simp
 have hS:SR fn.ntmps [] w g hfree ⟨envA args,hfree⟩ g { tmps:=vals++Array.replicate (fn.ntmps - vals.size) undef,defers:=[] } w:=by
  refine ⟨hI,.refl _ _ _,rfl,by simp [hs]; omega,fun i=>?_⟩
  have:=envA_rep (n:=fn.ntmps - vals.size) (args:=args) (vals:=vals.toList) (by simpa using hs) (fun i av x q1 q2=>hv i av x q1 (by simpa using q2)) i
  rw [Array.getD_eq_getD_getElem?,← Array.getElem?_toList];rw [List.getD_eq_getElem?_getD] at this;simpa using this
 refine awpN_ok hP hT hm (by unfold ExtOk; rw [hx]; exact fun _=>rfl) (fun l σ _ _ w _ _ _=>hY l σ _ w) (fun e st g' a w' hne hk hS=>?_) (fun b rest st g' a w' hk hS=>?_) n c hc hS hk
 ·have out:outK cx st fn.results.toList (fun r=>Sub r res)→LeavesInM (fro none) 0 P fn a.tmps (fun e w'=>∃ v r h' g',e=Ending.returned v∧(r=res∧h'=hfree)∧Rep g' w' (used h') r v∧Inv w g hfree h' g' w'∧Le hfree g w h' g' w') a.defers .returning w':=by
   intro hk;obtain ⟨g2,r,v,h',q1,q2,q3,q4,q5⟩:=outK_ok hT hS hk;rw [hS.dfs];exact ⟨v,q2,v,res,hfree,g2,rfl,⟨rfl,rfl⟩,by rw [hU]; exact q1 _ _ _ _ q5,Inv.toFree (st:=⟨st.t,h'⟩) q3,⟨fun i hi=>absurd rfl hi,fun i hi=>absurd rfl hi,q4.keeps⟩⟩
  cases e with
  | normal=>exact absurd rfl hne
  | ret=>exact out hk
  | exit id=>exact hk.elim
 ·obtain ⟨σF,σ,H0,Hn,bid,s,ps,asg,body,gf,caps,rfl,k1,k2,k3,k4,k5,k6,k7,k8⟩:=hk;have hσF:renOk σF=true:=by simp only [Bool.and_eq_true] at k1; exact k1.1.1
  obtain ⟨hRen,hI1⟩:=fwd_ok hS.inv hσF;rw [k2] at hI1;have hslots:∀ i,Rep (ghFwd σF g') w' (used (heapOf H0 hfree)) (ren (rfwd σF) st.h (st.t i)) (a.tmps.getD i undef):=fun i=>by
   have:=(hS.slots i).ren hRen
   rwa [k2] at this
  refine call_genC (Q:=fun r h'=>r=res) (C:=fun R'=>(∀ e w'',R' e w''→(∃ v r h' g',e=Ending.returned v∧(r=res∧h'=hfree)∧Rep g' w'' (used h') r v∧Inv w g hfree h' g' w''∧Le hfree g w h' g' w'')) →
   (Code.block bid (.rangeFunc (.tmp s) ps asg body)).wpIn (fro none) 0 P (Exit.then (rest.wpIn (fro none) 0 P (bodyPostM (fro none) 0 P fn (fun e w''=>∃ v r h' g',e=Ending.returned v∧(r=res∧h'=hfree)∧Rep g' w'' (used h') r v∧Inv w g hfree h' g' w''∧Le hfree g w h' g' w''))) (bodyPostM (fro none) 0 P fn (fun e w''=>∃ v r h' g',e=Ending.returned v∧(r=res∧h'=hfree)∧Rep g' w'' (used h') r v∧Inv w g hfree h' g' w''∧Le hfree g w h' g' w''))) a w')
   (fun h k h2=>h fun e w r=>h2 _ _ (k _ _ r)) hS.inv (d:=0) (nn:=0) k1 (fun _ hpost=>?_) (fun v r h' g2 w2 q1 q2 q3 q4=>?_) (fun _ _ h=>h)
  ·rw [k2] at hpost;exact rf_of cx2 hP2 hT2 hm hx2 k3 k4 k5 k6 k7 k8 hY2 hS.dfs hS.size hI1 hslots fun v r h' g5 w5 q1 q2 q3 q4=>hpost _ _ ⟨v,res,h',g5,rfl,rfl,(q1 _ _ _ _ q2).up _,q3,q4⟩
  ·subst q1;rw [(hres _ _).1] at q4;have q5:=Rep.strT q2.objs q4;rw [(hres (fun _=>none) _).2] at q5;exact ⟨v,r,hfree,g2,rfl,⟨rfl,rfl⟩,by rw [hU]; exact q5,Inv.toFree (st:=⟨st.t,_⟩) q2,⟨fun i hi=>absurd rfl hi,fun i hi=>absurd rfl hi,(hS.le.trans q3).keeps⟩⟩
end
end Go.Eng

namespace Go.Eng
section
variable {P:Program} {N:Nat} {ds:List Deferred} {w0:World} {g0:Gh} {h0:Nat→HO} {st:St} {g:Gh} {a:Act} {w:World}
theorem SR.rebase {w1:World} {g1:Gh} {h1:Nat→HO} (hS:SR N ds w0 g0 h0 st g a w) (hI:Inv w1 g1 h1 st.h g w) (hL:Le h1 g1 w1 st.h g w):SR N ds w1 g1 h1 st g a w:=⟨hI,hL,hS.dfs,hS.size,hS.slots⟩
theorem outG_at {cx:Cx} (hT:TabOk P cx.T) {H0:List (Nat × HO)} {σ:Ren} (hσ:renInj σ=true) (hxo:extOk σ H0=true) {fn:Func} {Q:AV→(Nat→HO)→Prop} (hS:SR N ds w0 g0 (heapOf H0 hfree) st g a w) (hk:outG cx st fn.results.toList σ Q) :
  ∃ v,(results fn a.tmps).run P w=.ok v w∧∃ r h' g',Q r h'∧Rep g' w (used h') r v∧Inv w0 g0 (heapOf H0 hfree) h' g' w∧Le (heapOf H0 hfree) g0 w0 h' g' w:=by
 obtain ⟨g2,i1,i2⟩:=frzs_ok cx.pl.fin hS.inv;have hS' : SR N ds w0 g0 (heapOf H0 hfree) ⟨st.t,frzs st.h cx.pl.fin⟩ g2 a w:=⟨i1,hS.le.trans i2,hS.dfs,hS.size,fun i=>(hS.slots i).le i2⟩;obtain ⟨l,vs,h1,h2,h3,h4,h5⟩:=outR_ok hT hS' _ hk;obtain ⟨hR,j1,j2⟩:=exit_ok hσ hxo i1 hS'.le;have hrun:(results fn a.tmps).run P w=.ok (if h:vs.toArray.size=1 then vs.toArray[0] else .tuple vs.toArray) w:=by
  rw [results_eq,show fn.results=fn.results.toList.toArray by simp,List.mapM_toArray];simp only [Sem.run_bind,Sem.run_map,h2,Result.andThen_ok,Sem.run_pure]
 match l,vs,h1,h3,h5,hrun with
 | [v],[x],h1,h3,h5,hrun=>exact ⟨x,by simpa using hrun,_,_,_,h1,(h5 0 v x rfl rfl).ren hR,j1,j2⟩
 | [],vs,h1,h3,h5,hrun =>
  have:vs=[]:=List.eq_nil_of_length_eq_zero h3
  subst this;exact ⟨.tuple #[],by simpa using hrun,_,_,_,h1,Rep.ren hR (.tup _ [] _ rfl fun i av x q=>by simp at q),j1,j2⟩
 | v :: v' :: l,vs,h1,h3,h5,hrun =>
  refine ⟨.tuple vs.toArray,?_,_,_,_,h1,Rep.ren hR (.tup _ _ _ (by simpa using h3) fun i av x q1 q2=>h5 i av x q1 (by simpa using q2)),j1,j2⟩;rw [hrun]
  have:vs.toArray.size≠1:=by simp [h3]
  simp only [this,dif_neg,not_false_eq_true]
theorem rf_ofG {fn:Func} {bid s:Nat} {ps:Array Tmp} {asg body rest:Code} (cx:Cx) (hP:cx.P=P) (hT:TabOk P cx.T) (hm:P.follows .mixedOrders=true) (hx:cx.ext=true) {σ:Ren} {H0 Hn:List (Nat × HO)} (hσ:(renInj σ&&extOk σ H0)=true) (hσn:extOk σ Hn=true)
  {env:Nat→AV} {gf:Nat} {caps:List AV} (hF:env s=.clo gf caps) {Qv:AV→(Nat→HO)→Prop}
  (hIT:∀ (l D:Nat) (f' : FuncId) (tm:Array Value),tm.size=N→ICall P (fun g w=>w.heap[l]?=some (.loop (recL f' tm ps asg body D .ready))∧∀ i,Rep g w (used (heapOf H0 hfree)) (env i) (tm.getD i undef)) σ gf
   (.v (.func (.yield l) #[] #[]) :: caps) (heapOf H0 hfree) fun _ h'=>h'=heapOf Hn hfree)
  (hcr:codeOk N rest=true) (hrest:awp cx rest (endG cx fn.results.toList σ Qv) ⟨env,heapOf Hn hfree⟩) (hY:∀ l σ g w,cx.yp l σ g w)
  {a:Act} (ha:a.defers=[]) (hN:a.tmps.size=N) (hI:Inv w g (heapOf H0 hfree) (heapOf H0 hfree) g w) (hslots:∀ i,Rep g w (used (heapOf H0 hfree)) (env i) (a.tmps.getD i undef))
  {R:Ending→World→Prop} (hR:∀ v r h' g' w',Qv r h'→Rep g' w' (used h') r v→Inv w g (heapOf H0 hfree) h' g' w'→Le (heapOf H0 hfree) g w h' g' w'→R (.returned v) w') :
  (Code.block bid (.rangeFunc (.tmp s) ps asg body)).wpIn (fro none) 0 P (Exit.then (rest.wpIn (fro none) 0 P (bodyPostM (fro none) 0 P fn R)) (bodyPostM (fro none) 0 P fn R)) a w:=by
 simp only [Bool.and_eq_true] at hσ;refine wpIn_block (wpIn_rangeFunc fun f' _=>?_);have hs:=hslots s;rw [hF] at hs;have heval:a.eval (.tmp s)=a.tmps.getD s undef:=rfl;generalize hfv:a.tmps.getD s undef=fv at hs heval;cases hs with
 | clo _ _ _ lb hsz hcap =>
 obtain ⟨i0,s0⟩:=hI.allocS (n0:=w.heap.size) (x:=w.heap.size) (.deferred (some [])) (Nat.le_refl _);obtain ⟨i1,s1⟩:=i0.allocS (n0:=w.heap.size) (x:=w.heap.size) (.loop (recL f' a.tmps ps asg body w.heap.size .ready)) (by rw [World.size_alloc]; omega);generalize hW:(w.alloc (.deferred (some []))).alloc (.loop (recL f' a.tmps ps asg body w.heap.size .ready))=W1 at i1 s1;have hsz1:W1.heap.size=w.heap.size+2:=by rw [← hW,World.size_alloc,World.size_alloc]
 have hl:W1.heap[w.heap.size+1]?=some (.loop (recL f' a.tmps ps asg body w.heap.size .ready)):=by
  rw [← hW]
  have:=World.alloc_heap_new (w.alloc (.deferred (some []))) (.loop (recL f' a.tmps ps asg body w.heap.size .ready))
  rwa [World.size_alloc] at this
 have hD:W1.heap[w.heap.size]?=some (.deferred (some [])):=by
  rw [← hW,heap_alloc_old _ _ (by rw [World.size_alloc]; omega)];exact World.alloc_heap_new w _
 have hno:∀ b ob,W1.heap[b]?=some ob→dull ob=true→∀ r,((heapOf H0 hfree) r).live→g.own r≠some b:=fun b ob hb hd r hr e=>not_dull (i1.objs r) hr e hb hd;have S1:=s0.trans s1;have hit:=hIT (w.heap.size+1) w.heap.size f' a.tmps hN
 refine ⟨w.heap.size+1,[{ target:=.collected w.heap.size,args:=#[] }],W1,{ target:=.fn (.func gf) lb,args:=#[.func (.yield (w.heap.size+1)) #[] #[]] },W1,gf,
  #[.func (.yield (w.heap.size+1)) #[] #[]]++lb,W1,?_,?_,fun _ _=>trivial,?_,fun e=>(by cases e),?_⟩
 ·rw [← hW]; exact run_enterLoop_outer _ _ _ _ _
 ·simp only [resolve,heval];simp [go_sem]
 ·simp only [invoke];rw [run_callFunc hit.1]
 refine callsIn_wide.2 ((hit.2 g W1 _ (by simp [hsz]; omega) (fun i av x e1 e2=>?_) i1 (fun h' g' w' q1 q2=>?_)).mono ?_)
 ·cases i with
  | zero =>
   simp only [List.getElem?_cons_zero,Option.some.injEq] at e1;rw [Array.getElem?_append] at e2
   have:x=.func (.yield (w.heap.size+1)) #[] #[]:=(Option.some.inj e2).symm
   subst e1; subst this;exact .v _ _
  | succ i =>
   have e2:lb[i]?=some x:=by rw [← e2,Array.getElem?_append]; simp
   exact (hcap i av x (by simpa using e1) e2).le S1.le
 ·obtain ⟨_,_,j2⟩:=exit_ok hσ.1 hσ.2 q1 q2;refine ⟨(q1.frame _ (by omega) (hno _ _ hl rfl)).trans hl,fun i=>?_⟩;exact ((hslots i).le S1.le).mono j2.keeps (fun _ h=>h) j2.gh
 rintro e w2 ⟨v,r,h',g2,rfl,rfl,_,q3,q4⟩
 have hl2:w2.heap[w.heap.size+1]?=some (.loop (recL f' a.tmps ps asg body w.heap.size .ready)):=(q3.frame _ (by omega) (hno _ _ hl rfl)).trans hl;have hD2:w2.heap[w.heap.size]?=some (.deferred (some [])):=(q3.frame _ (by omega) (hno _ _ hD rfl)).trans hD;refine ⟨none,_,run_endLoop hl2 (fun e=>by cases e),?_⟩;obtain ⟨i4,s4⟩:=q3.base.put (n0:=w.heap.size) (x:=w.heap.size) (o':=.loop { recL f' a.tmps ps asg body w.heap.size .ready with state:=.exhausted }) hl2 rfl rfl (.inl (by omega));have S4:=(S1.trans (Seg.of_inv q3 q4 (by omega))).trans s4;generalize hW4:w2.putObj (w.heap.size+1) (.loop { recL f' a.tmps ps asg body w.heap.size .ready with state:=.exhausted })=w4 at i4 s4 S4;have hD4:w4.heap[w.heap.size]?=some (.deferred (some [])):=by rw [← hW4,World.putObj_heap_other (by omega)]; exact hD2
 have hE:ExtOk cx (heapOf Hn hfree):=by unfold ExtOk; rw [hx]; exact fun i hi=>⟨(ext_spec hσn i hi).1,(ext_spec hσn i hi).2.1⟩
 have hS4:SR N [{ target:=.collected w.heap.size,args:=#[] }] w4 g2 (heapOf Hn hfree) ⟨env,heapOf Hn hfree⟩ g2 { a with defers:=[{ target:=.collected w.heap.size,args:=#[] }]++a.defers } w4 :=
  ⟨i4,.refl _ _ _,by simp [ha],hN,fun i=>(hslots i).le S4.le⟩
 refine awp_ok hP hT hm hE (fun l σ _ _ w _ _ _=>hY l σ _ w) none rest hcr (fun e st5 g5 a5 w5 hq hS5=>?_) hS4 hrest;have fin:outG cx st5 fn.results.toList σ Qv→LeavesInM (fro none) 0 P fn a5.tmps R a5.defers .returning w5:=by
  intro hk;have hD5:w5.heap[w.heap.size]?=some (.deferred (some [])):=(hS5.inv.frame _ (Array.getElem?_eq_some_iff.1 hD4).1 (fun r hr e=>not_dull (i4.objs r) hr e hD4 rfl)).trans hD4;rw [hS5.dfs];refine ⟨by simp,.inl ⟨w.heap.size,_,rfl,run_takeDeferred hD5,?_⟩⟩;obtain ⟨i6,s6⟩:=hS5.inv.base.put (n0:=w.heap.size) (x:=w.heap.size) (o':=.deferred none) hD5 rfl rfl (.inr rfl);have hS6:SR N [{ target:=.collected w.heap.size,args:=#[] }] (w5.putObj w.heap.size (.deferred none)) g5 st5.h st5 g5 a5 (w5.putObj w.heap.size (.deferred none)):=⟨i6,.refl _ _ _,hS5.dfs,hS5.size,fun i=>(hS5.slots i).le s6.le⟩;have S6:=(S4.trans (Seg.of_inv hS5.inv hS5.le (Nat.le_trans (Nat.le_refl _) S4.size))).trans s6;obtain ⟨v,k2,r,h7,g7,k1,k5,k3,k4⟩:=outG_at (H0:=H0) hT hσ.1 hσ.2 (SR.rebase hS6 (i6.of_seg S6 fun h=>absurd h (Nat.lt_irrefl _)) S6.le) hk;exact ⟨v,k2,hR v r h7 g7 _ k1 k5 k3 k4⟩
 cases e with
 | normal=>exact fin hq
 | ret=>exact fin hq
 | exit id=>exact hq.elim
end
end Go.Eng

namespace Go.Eng
section
variable {P:Program} {N:Nat} {w:World} {g:Gh}
theorem ycallv_of (o k r:Nat) {H:List (Nat × HO)} (cx:Cx) (hP:cx.P=P) (hT:TabOk P cx.T) (hm:P.follows .mixedOrders=true) (hx:cx.ext=true) {σ:Ren} (hσ:(renInj σ&&extOk σ H)=true) {fn:FuncId} {tm:Array Value} {ps:Array Tmp} {asg body:Code} {D l:Nat}
  {env:Nat→AV} {args:List AV} {U:Nat→Prop} {Q:AV→(Nat→HO)→Prop} (hps:args.length=ps.toList.length) (hN:tm.size=N) (hpN:(ps.toList.all fun p=>Nat.blt p N)=true) (hca:codeOk N asg=true) (hcb:codeOk N body=true)
  (hU:∀ i,U i→used (heapOf H hfree) i)
  (hk:awp cx asg (fun e st=>match e with | .normal=>awp cx body (fun e st=>match e with | .normal=>rvK st.h o k r fun h'=>Q (.v (.bool true)) (renH σ (frzs h' cx.pl.fin)) | _=>False) st | _=>False) ⟨envP ps.toList args env,heapOf H hfree⟩)
  (hY:∀ l σ g w,cx.yp l σ g w:=by exact fun _ _ _ _=>trivial) :
  YCall P (fun g w=>w.heap[l]?=some (.loop (recL fn tm ps asg body D .ready))∧∀ i,Rep g w U (env i) (tm.getD i undef)) l args (heapOf H hfree) Q:=by
 simp only [Bool.and_eq_true] at hσ;intro g w vals hs hv hI ⟨hl,hslots⟩;have hlt:l<w.heap.size:=(Array.getElem?_eq_some_iff.1 hl).1;have hE:ExtOk cx (heapOf H hfree):=by unfold ExtOk; rw [hx]; exact fun i hi=>⟨(ext_spec hσ.2 i hi).1,(ext_spec hσ.2 i hi).2.1⟩
 have hno:∀ r,((heapOf H hfree) r).live→g.own r≠some l:=fun r hr e=>not_dull (hI.objs r) hr e hl rfl;have hfold:∀ (t0:Array Value),(ps.zip vals).foldl (fun tmps (p:Nat × Value)=>tmps.setIfInBounds p.1 p.2) t0=(ps.toList.zip vals.toList).foldl (fun t p=>t.setIfInBounds p.1 p.2) t0:=fun t0=>by
  rw [← Array.foldl_toList,Array.toList_zip]
 have hry:=run_yield (P:=P) (args:=vals) hl (by simp only [hs,hps,Array.length_toList]);refine ⟨fn,_,asg,body,hry,roundIn_of_wpIn trivial ?_⟩;obtain ⟨z1,z2⟩:=envP_rep (U:=used (heapOf H hfree)) (ps:=ps.toList) (args:=args) (vals:=vals.toList) (tm:=tm) (env:=env) (by simpa using hs) hps (fun p hp=>by
  have:=(List.all_eq_true.1 hpN) p hp
  rw [hN]; simpa using this) (fun i av x e1 e2=>hv i av x e1 (by simpa using e2)) (fun i=>(hslots i).mono (.refl _ _) hU (.refl _ _))
 have hS0:SR N [] w g (heapOf H hfree) ⟨envP ps.toList args env,heapOf H hfree⟩ g { tmps:=(ps.zip vals).foldl (fun tmps (p:Nat × Value)=>tmps.setIfInBounds p.1 p.2) tm,defers:=[] } w:=by
  refine ⟨hI,.refl _ _ _,rfl,?_,fun i=>?_⟩
  ·rw [hfold]; exact z1.trans hN
  ·rw [hfold]; exact z2 i
 refine awp_ok hP hT hm hE (fun l σ _ _ w _ _ _=>hY l σ _ w) (some l) asg hca (fun e st1 g1 a1 w1 hq hS1=>?_) hS0 hk;cases e with
 | exit _=>exact hq.elim
 | ret=>exact hq.elim
 | normal =>
  have hl1:w1.heap[l]?=some (.loop (recL fn tm ps asg body D .ready)):=(hS1.inv.frame l hlt hno).trans hl;refine ⟨_,run_beginRound hl1 rfl,?_⟩;obtain ⟨iS,sS⟩:=hI.put (n0:=w.heap.size) (x:=l) (o':=.loop (recL fn tm ps asg body D .busy)) hl rfl rfl (.inr rfl);have hlS:(w.putObj l (.loop (recL fn tm ps asg body D .busy))).heap[l]?=some (.loop (recL fn tm ps asg body D .busy)):=World.putObj_heap_same hlt;have hszS:(w.putObj l (.loop (recL fn tm ps asg body D .busy))).heap.size=w.heap.size:=by simp [World.putObj]
  obtain ⟨_,sB⟩:=iS.dullS (w':=w) (n0:=w.heap.size) (x:=l) ⟨rfl,rfl,rfl⟩ (by rw [hszS]; exact Nat.le_refl _) (fun b _=>by
   by_cases e:b=l
   ·subst e; exact .inr ⟨_,_,hlS,hl,rfl,rfl⟩
   ·exact .inl (World.putObj_heap_other e).symm) (fun b _ hne=>(World.putObj_heap_other hne).symm)
  obtain ⟨i2,s2⟩:=hS1.inv.base.put (n0:=w.heap.size) (x:=l) (o':=.loop (recL fn tm ps asg body D .busy)) hl1 rfl rfl (.inr rfl);have S2:=(sB.trans (Seg.of_inv hS1.inv hS1.le (Nat.le_refl _))).trans s2;have hl2:(w1.putObj l (.loop (recL fn tm ps asg body D .busy))).heap[l]?=some (.loop (recL fn tm ps asg body D .busy)):=World.putObj_heap_same (Array.getElem?_eq_some_iff.1 hl1).1;have hI2:=i2.of_seg (by rw [hszS]; exact S2) (fun _=>hl2.trans hlS.symm);have hS2:SR N [] (w.putObj l (.loop (recL fn tm ps asg body D .busy))) g (heapOf H hfree) st1 g1 a1 (w1.putObj l (.loop (recL fn tm ps asg body D .busy))):=⟨hI2,S2.le,hS1.dfs,hS1.size,fun i=>(hS1.slots i).le s2.le⟩;refine awp_ok hP hT hm hE (fun l σ _ _ w _ _ _=>hY l σ _ w) (some l) body hcb (fun e st3 g3 a3 w3 hq hS3=>?_) hS2 hq;cases e with
  | exit _=>exact hq.elim
  | ret=>exact hq.elim
  | normal =>
   obtain ⟨h3,g3',hS3,hq⟩:=rvK_ok hS3 hq;have hl3:w3.heap[l]?=some (.loop (recL fn tm ps asg body D .busy)):=(hS3.inv.frame l (by rw [hszS]; exact hlt) hno).trans hlS;refine ⟨.bool true,w3.putObj l (.loop (recL fn tm ps asg body D .ready)),run_endRound none hl3,?_⟩;obtain ⟨gf,if1,if2⟩:=frzs_ok cx.pl.fin hS3.inv;obtain ⟨i4,s4⟩:=if1.base.put (n0:=w.heap.size) (x:=l) (o':=.loop (recL fn tm ps asg body D .ready)) hl3 rfl rfl (.inr rfl);have S4:=(sS.trans (Seg.of_inv if1 (hS3.le.trans if2) (by rw [hszS]; exact Nat.le_refl _))).trans s4;have hl4:(w3.putObj l (.loop (recL fn tm ps asg body D .ready))).heap[l]?=some (.loop (recL fn tm ps asg body D .ready)):=World.putObj_heap_same (Array.getElem?_eq_some_iff.1 hl3).1;have hI4:=i4.of_seg S4 (fun _=>hl4.trans hl.symm);obtain ⟨_,j1,j2⟩:=exit_ok hσ.1 hσ.2 hI4 S4.le;exact ⟨.bool true,.v (.bool true),_,_,rfl,hq,.v _ _,j1,j2⟩

end
def niK (h:Nat→HO) (o k r sz:Nat) (K:(Nat→HO)→Prop):Prop :=
 match h o with
 | .cells cs=>match nthA cs k with
  | .v (.slice none 0 0)=>match h r with
   | .free=>K (hput (hput h r (.var sz 0 0)) o (.cells (overA cs k (.slice (.ver r sz 0) []))))
   | _=>False
  | _=>False
 | _=>False
section
variable {P:Program} {N:Nat} {ds:List Deferred} {w0:World} {g0:Gh} {h0:Nat→HO} {st:St} {g:Gh} {a:Act} {w:World}
theorem niK_ok (hS:SR N ds w0 g0 h0 st g a w) {o k r sz:Nat} {K:(Nat→HO)→Prop} (hk:niK st.h o k r sz K):∃ h' g',SR N ds w0 g0 h0 ⟨st.t,h'⟩ g' a w∧K h':=by
 unfold niK at hk;split at hk
 ·rename_i cs e0;split at hk
  ·rename_i e1;split at hk
   ·rename_i hf;have hor:o≠r:=fun e=>by rw [e,hf] at e0; cases e0
    have hk0:=nthA_some cs k _ e1 (by simp)
    obtain ⟨m1,m2⟩:=hS.inv.upd r (.var sz 0 0) (.slice none 0 0) 0 true none g.S w none ⟨rfl,rfl,rfl,Nat.le_refl _⟩ (fun _ _ _=>rfl) (fun b e=>by cases e) (fun _ _ h=>h) (fun _ _ h=>.inl h) (fun b o e=>by cases e) (fun b hh e=>by first | (cases e; done) | (exact absurd hh.2 (by simp))) (by simp)
     (fun hu=>absurd hf hu) (fun _ _=>by
      obtain ⟨u1,u2,u3,u4⟩:=upd_same g r (.slice none 0 0) 0 true none g.S;exact ⟨u3,u2,none,0,u1,.inl ⟨rfl,u4⟩⟩)
    generalize hg1:g.upd r (.slice none 0 0) 0 true none g.S=g1 at m1 m2;have gr:g1.tk r=true∧g1.ln r=0∧g1.ρ r=.slice none 0 0:=by rw [← hg1]; simp [Gh.upd]
    have e0' : (hput st.h r (.var sz 0 0)) o=.cells cs:=by rw [hput_ne _ _ _ _ hor,e0]
    obtain ⟨g3,p1,p2⟩:=cell_ok m1 e0' hk0 (new:=.slice (.ver r sz 0) []) (fun y hy=>by
     cases hy
     exact .ver _ r sz 0 [] _ (.snil _ _ _) (fun c hc=>by cases hc) (by unfold used; rw [hput_same]; simp) gr.1 (Nat.zero_le _) (fun _=>gr.2.2.symm))
    exact ⟨_,g3,⟨p1,hS.le.trans (m2.trans p2),hS.dfs,hS.size,fun i=>(hS.slots i).le (m2.trans p2)⟩,hk⟩
   ·exact hk.elim
  ·exact hk.elim
 ·exact hk.elim
def RfV (o k r sz:Nat) (cx2:Cx) (P:Program) (N:Nat) (fn:Func) (σ:Ren) (Q:AV→(Nat→HO)→Prop) (b rest:Code) (st:St):Prop :=
 niK st.h o k r sz fun h1 =>
  ∃ (σF σr:Ren) (H0 Hn:List (Nat × HO)) (bid s:Nat) (ps:Array Tmp) (asg body:Code) (gf:Nat) (caps:List AV),
  b=.block bid (.rangeFunc (.tmp s) ps asg body)∧(renOk σF&&newFree h1 0 0&&newApart σF 0 0)=true∧renH σF h1=heapOf H0 hfree∧(renInj σr&&extOk σr H0)=true∧extOk σr Hn=true ∧
  ren (rfwd σF) h1 (st.t s)=.clo gf caps ∧
  (∀ (l D:Nat) (f' : FuncId) (tm:Array Value),tm.size=N→ICall P (fun g w=>w.heap[l]?=some (.loop (recL f' tm ps asg body D .ready))∧∀ i,Rep g w (used (heapOf H0 hfree)) (ren (rfwd σF) h1 (st.t i)) (tm.getD i undef)) σr gf
   (.v (.func (.yield l) #[] #[]) :: caps) (heapOf H0 hfree) fun _ h'=>h'=heapOf Hn hfree) ∧
  codeOk N rest=true∧awp cx2 rest (endG cx2 fn.results.toList σr fun r h'=>Q (ren (rfwd σ) (backH σF 0 0 h1 h') (ren (backId σF 0 0) h' r)) (renH σ (backH σF 0 0 h1 h')))
   ⟨fun i=>ren (rfwd σF) h1 (st.t i),heapOf Hn hfree⟩
theorem acall_rfv (o k r sz : Nat) {f : Nat} {fn : Func} {c : Code} {args : List AV} {H : List (Nat × HO)} {Q : AV → (Nat → HO) → Prop} (cx cx2 : Cx) (σ : Ren) (hP : cx.P = P) (hT : TabOk P cx.T) (hP2 : cx2.P = P) (hT2 : TabOk P cx2.T) (hm : P.follows .mixedOrders = true) (hx : cx.ext = true) (hx2 : cx2.ext = true) (hf : P.funcs[f]? = some fn) (hn : (fn.name == "runtime.NumGoroutine") = false)
  (hb:fn.body=some c) (hN:args.length≤fn.ntmps) (hc:codeOk fn.ntmps c=true) (hσ:(renInj σ&&extOk σ H)=true) (n:Nat)
  (hk:awpN cx n c (endG cx fn.results.toList σ fun r h'=>∃ r',Sub r r'∧Q r' h') (RfV o k r sz cx2 P fn.ntmps fn σ fun r h'=>∃ r',Sub r r'∧Q r' h') ⟨envA args,heapOf H hfree⟩)
  (hY:∀ l σ g w,cx.yp l σ g w:=by exact fun _ _ _ _=>trivial) (hY2:∀ l σ g w,cx2.yp l σ g w:=by exact fun _ _ _ _=>trivial):ACall P f args (heapOf H hfree) Q:=by
 refine ACall.mono (Q:=fun r h'=>∃ r',Sub r r'∧Q r' h') ?_ fun _ _ ⟨r',s,q⟩=>⟨r',s,q⟩;simp only [Bool.and_eq_true] at hσ;refine ⟨⟨fn,hf,hn,by simp [hb]⟩,fun g w vals hs hv hI=>callsIn_wide.1 (callsIn_of_wp_marks (F:=Fence.wide) (n:=0) hf hb trivial ?_ rfl)⟩;have hE:ExtOk cx (heapOf H hfree):=by unfold ExtOk; rw [hx]; exact fun i hi=>⟨(ext_spec hσ.2 i hi).1,(ext_spec hσ.2 i hi).2.1⟩
 have hS:SR fn.ntmps [] w g (heapOf H hfree) ⟨envA args,heapOf H hfree⟩ g { tmps:=vals++Array.replicate (fn.ntmps - vals.size) undef,defers:=[] } w:=by
  refine ⟨hI,.refl _ _ _,rfl,by simp [hs]; omega,fun i=>?_⟩
  have:=envA_rep (n:=fn.ntmps - vals.size) (args:=args) (vals:=vals.toList) (by simpa using hs) (fun i av x q1 q2=>hv i av x q1 (by simpa using q2)) i
  rw [Array.getD_eq_getD_getElem?,← Array.getElem?_toList];rw [List.getD_eq_getElem?_getD] at this;simpa using this
 refine awpN_ok hP hT hm hE (fun l σ _ _ w _ _ _=>hY l σ _ w) (fun e st g' a w' hne hk hS=>?_) (fun b rest st g' a w' hk hS=>?_) n c hc hS hk
 ·have out:outG cx st fn.results.toList σ (fun r h'=>∃ r',Sub r r'∧Q r' h')→LeavesInM (fro none) 0 P fn a.tmps (fun e w'=>∃ v r h' g',e=Ending.returned v∧(∃ r',Sub r r'∧Q r' h')∧Rep g' w' (used h') r v∧Inv w g (heapOf H hfree) h' g' w'∧Le (heapOf H hfree) g w h' g' w') a.defers .returning w':=by
   intro hk;obtain ⟨v,q2,r,h',g2,q1,q3,q4,q5⟩:=outG_at hT hσ.1 hσ.2 hS hk;rw [hS.dfs];exact ⟨v,q2,v,r,h',g2,rfl,q1,q3,q4,q5⟩
  cases e with
  | normal=>exact absurd rfl hne
  | ret=>exact out hk
  | exit id=>exact hk.elim
 ·obtain ⟨h1,g',hS,hk⟩:=niK_ok hS hk;obtain ⟨σF,σr,H0,Hn,bid,s,ps,asg,body,gf,caps,rfl,k1,k2,k3,k4,k5,k6,k7,k8⟩:=hk;have hσF:renOk σF=true:=by simp only [Bool.and_eq_true] at k1; exact k1.1.1
  obtain ⟨hRen,hI1⟩:=fwd_ok hS.inv hσF;rw [k2] at hI1;have hslots:∀ i,Rep (ghFwd σF g') w' (used (heapOf H0 hfree)) (ren (rfwd σF) h1 (st.t i)) (a.tmps.getD i undef):=fun i=>by
   have:=(hS.slots i).ren hRen
   rwa [k2] at this
  refine call_genC (Q:=fun r h'=>∃ r',Sub (ren (rfwd σ) (backH σF 0 0 h1 h') (ren (backId σF 0 0) h' r)) r'∧Q r' (renH σ (backH σF 0 0 h1 h'))) (C:=fun R'=>(∀ e w'',R' e w''→(∃ v r h' g',e=Ending.returned v∧(∃ r',Sub r r'∧Q r' h')∧Rep g' w'' (used h') r v∧Inv w g (heapOf H hfree) h' g' w''∧Le (heapOf H hfree) g w h' g' w'')) →
   (Code.block bid (.rangeFunc (.tmp s) ps asg body)).wpIn (fro none) 0 P (Exit.then (rest.wpIn (fro none) 0 P (bodyPostM (fro none) 0 P fn (fun e w''=>∃ v r h' g',e=Ending.returned v∧(∃ r',Sub r r'∧Q r' h')∧Rep g' w'' (used h') r v∧Inv w g (heapOf H hfree) h' g' w''∧Le (heapOf H hfree) g w h' g' w''))) (bodyPostM (fro none) 0 P fn (fun e w''=>∃ v r h' g',e=Ending.returned v∧(∃ r',Sub r r'∧Q r' h')∧Rep g' w'' (used h') r v∧Inv w g (heapOf H hfree) h' g' w''∧Le (heapOf H hfree) g w h' g' w''))) a w')
   (fun h k h2=>h fun e w r=>h2 _ _ (k _ _ r)) hS.inv (d:=0) (nn:=0) k1 (fun _ hpost=>?_) (fun v r h' g2 w2 q1 q2 q3 q4=>?_) (fun _ _ h=>h)
  ·rw [k2] at hpost;exact rf_ofG cx2 hP2 hT2 hm hx2 k3 k4 k5 k6 k7 k8 hY2 hS.dfs hS.size hI1 hslots fun v r h' g5 w5 q1 q2 q3 q4=>hpost _ _ ⟨v,r,h',g5,rfl,q1,q2,q3,q4⟩
  ·obtain ⟨hR,j1,j2⟩:=exit_ok hσ.1 hσ.2 q2 (hS.le.trans q3);exact ⟨v,_,_,_,rfl,q1,q4.ren hR,j1,j2⟩
end
end Go.Eng

namespace Go.Eng
section
variable {P:Program} {N:Nat} {w:World} {g:Gh}
theorem acally_of {Y:Gh→World→Prop} {l:Nat} {f:Nat} {fn:Func} {c:Code} {args:List AV} {H0:List (Nat × HO)} {Q:AV→(Nat→HO)→Prop} (cx:Cx) (σ σy:Ren) (hP:cx.P=P) (hT:TabOk P cx.T) (hm:P.follows .mixedOrders=true) (hx:cx.ext=true) (hf:P.funcs[f]?=some fn)
  (hn : (fn.name == "runtime.NumGoroutine") = false) (hb : fn.body = some c) (hN : args.length ≤ fn.ntmps) (hc : codeOk fn.ntmps c = true) (hσ : (renInj σ && extOk σ H0) = true)
  (hy:cx.yp=fun l' σ' g w=>l'=l→σ'=σy→Y g w)
  (hst:∀ g w h' g' w',Inv w g (heapOf H0 hfree) (heapOf H0 hfree) g w→Inv w g (heapOf H0 hfree) h' g' w'→Le (heapOf H0 hfree) g w h' g' w'→Y g w→Y (ghFwd σy g') w')
  (hk:awp cx c (endG cx fn.results.toList σ Q) ⟨envA args,heapOf H0 hfree⟩):ACallY P Y f args (heapOf H0 hfree) Q :=
 ⟨⟨fn,hf,hn,by simp [hb]⟩,fun g w vals hs hv hI hY=>gcall_at cx σ hP hT hm hx hf hn hb hN hc hσ hk hs hv hI fun l' σ' h' g' w' _ q1 q2=>by
  rw [hy]; intro _ e; subst e; exact hst g w h' g' w' hI q1 q2 hY⟩
theorem ACallY.imp {Y:Gh→World→Prop} {f:Nat} {args:List AV} {h0:Nat→HO} {Q Q' : AV→(Nat→HO)→Prop} (h:ACallY P Y f args h0 Q) (hq:∀ r h',Q r h'→Q' r h'):ACallY P Y f args h0 Q' :=
 ⟨h.1,fun g w vals a b c d=>(h.2 g w vals a b c d).mono fun _ _ ⟨v,r,h',g',e,q,k⟩=>⟨v,r,h',g',e,hq r h' q,k⟩⟩
theorem ACallY.pre {Y Y' : Gh→World→Prop} {f:Nat} {args:List AV} {h0:Nat→HO} {Q:AV→(Nat→HO)→Prop} (h:ACallY P Y f args h0 Q) (hp:∀ g w,Y' g w→Y g w):ACallY P Y' f args h0 Q :=
 ⟨h.1,fun g w vals a b c d=>h.2 g w vals a b c (hp g w d)⟩
theorem recY_st {H:List (Nat × HO)} {σ:Ren} (hσ:(renInj σ&&extOk σ H)=true) {U:Nat→Prop} (_hU:∀ i,U i→used (heapOf H hfree) i) {l D:Nat} {f' : FuncId} {tm:Array Value} {ps:Array Tmp} {asg body:Code} {env:Nat→AV} :
  ∀ g w h' g' w',Inv w g (heapOf H hfree) (heapOf H hfree) g w→Inv w g (heapOf H hfree) h' g' w'→Le (heapOf H hfree) g w h' g' w' →
   (w.heap[l]?=some (.loop (recL f' tm ps asg body D .ready))∧∀ i,Rep g w U (env i) (tm.getD i undef)) →
   (w'.heap[l]?=some (.loop (recL f' tm ps asg body D .ready))∧∀ i,Rep (ghFwd σ g') w' U (env i) (tm.getD i undef)):=by
 intro g w h' g' w' hI q1 q2 ⟨hl,hslots⟩;simp only [Bool.and_eq_true] at hσ;have hlt:l<w.heap.size:=(Array.getElem?_eq_some_iff.1 hl).1;have hno:∀ r,((heapOf H hfree) r).live→g.own r≠some l:=fun r hr e=>not_dull (hI.objs r) hr e hl rfl;obtain ⟨_,_,j2⟩:=exit_ok hσ.1 hσ.2 q1 q2;exact ⟨(q1.frame _ hlt hno).trans hl,fun i=>(hslots i).mono j2.keeps (fun _ h=>h) fun r hr=>j2.gh r (_hU r hr)⟩
theorem icall_of2 {Y0 Y:Gh→World→Prop} {l:Nat} {f:Nat} {fn:Func} {c:Code} {args:List AV} {H0:List (Nat × HO)} {Q:AV→(Nat→HO)→Prop} (cx:Cx) (σ σy:Ren) (hP:cx.P=P) (hT:TabOk P cx.T) (hm:P.follows .mixedOrders=true) (hx:cx.ext=true) (hf:P.funcs[f]?=some fn)
  (hn : (fn.name == "runtime.NumGoroutine") = false) (hb : fn.body = some c) (hN : args.length ≤ fn.ntmps) (hc : codeOk fn.ntmps c = true) (hσ : (renInj σ && extOk σ H0) = true)
  (hy:cx.yp=fun l' σ' g w=>l'=l→σ'=σy→Y g w) (tr:∀ g w,Y0 (ghFwd σ g) w→Y (ghFwd σy g) w)
  (hk:awp cx c (endG cx fn.results.toList σ Q) ⟨envA args,heapOf H0 hfree⟩):ICall P Y0 σ f args (heapOf H0 hfree) Q :=
 ⟨⟨fn,hf,hn,by simp [hb]⟩,fun g w vals hs hv hI hp=>gcall_at cx σ hP hT hm hx hf hn hb hN hc hσ hk hs hv hI fun l' σ' h' g' w' _ q1 q2=>by
  rw [hy]; intro _ e; subst e; exact tr _ _ (hp h' g' w' q1 q2)⟩
theorem recY_tr {σ σ' : Ren} {U:Nat→Prop} (h:∀ i,U i→rbwd σ' i=rbwd σ i) {R:World→Prop} {tm:Array Value} {env:Nat→AV} :
  ∀ g w,(R w∧∀ i,Rep (ghFwd σ g) w U (env i) (tm.getD i undef))→(R w∧∀ i,Rep (ghFwd σ' g) w U (env i) (tm.getD i undef)):=fun g w ⟨h1,h2⟩ =>
 ⟨h1,fun i=>(h2 i).mono (show Keeps (ghFwd σ g) w (ghFwd σ' g) w from fun b o hs=>⟨hs,rfl,fun _ _ e=>e⟩) (fun _ h=>h) fun j hj=>by
  have e:=h j hj;unfold ghFwd;dsimp only;rw [e];exact ⟨rfl,Nat.le_refl _,fun _=>rfl,fun _=>rfl⟩⟩
end
end Go.Eng

namespace Go.Eng
open Go.Sort
section
variable {P:Program}
theorem acall_cutF {f fF:Nat} {caps:List AV} {es:List (List AV)} {sz:Nat} {n' : Nat} {Q:List (List AV)→Prop} (hE:Enters P f) (hne:es≠[]) (hn' : n'≤es.length)
  (h1:∀ (g:Gh) (w:World) (b cap:Nat) (F lb:Array Value),RepL g w NoU es.flatten F.toList→F.size=es.length*sz→Holds id w b 0 F→b<w.heap.size→es.length≤cap→(∀ o,¬ g.S b o)→(∀ b' o,g.S b' o→b' < w.heap.size)→lb.size=caps.length →
   (∀ (i:Nat) (av:AV) (x:Value),caps[i]?=some av→lb[i]?=some x→Rep g w (used (heapOf [(1000,.arr sz es)] hfree)) av x)→Calls P f #[.slice (some ⟨b,0,none⟩) es.length cap,.func (.func fF) #[] lb] w fun e w' =>
   e=.returned (.slice (some ⟨b,0,none⟩) n' cap)∧∃ (F' : Array Value) (es' : List (List AV)) (n:Nat) (os:Array Obj),F'.size=F.size∧Q es'∧es'.length=es.length∧(∀ cs ∈ es',cs.length=sz) ∧
    (∀ (g:Gh) (w:World),RepL g w NoU es.flatten F.toList→RepL g w NoU es'.flatten F'.toList)∧w'=grow (putRow id (Sort.ahead w n) b 0 F') os) :
  ACall P f [.msl 1000 es.length,.clo fF caps] (heapOf [(1000,.arr sz es)] hfree) fun r h'=>r=.msl 2000 n'∧∃ es',Q es'∧h'=heapOf [(1000,.dead),(2000,.arr sz (es'.take n'))] hfree:=by
 refine ⟨hE,fun g w us hs hv hI=>?_⟩;have ho:=hI.objs 1000;have he:heapOf [(1000,HO.arr sz es)] hfree 1000=.arr sz es:=rfl;rw [he] at ho;obtain ⟨t1,l1,al,a2⟩:=ho;simp only [List.length_cons,List.length_nil] at hs;have hu0:0<us.size:=by omega
 have hr0:=hv 0 (.msl 1000 es.length) us[0] rfl (Array.getElem?_eq_getElem hu0);have hval:us[0]=g.ρ 1000:=by
  generalize us[0]=x at hr0;cases hr0 with
  | msl _ r n a cap hu ht hn ha hx=>exact hx l1.symm
 have hu1:1<us.size:=by omega
 have hr1:=hv 1 (.clo fF caps) us[1] rfl (Array.getElem?_eq_getElem hu1);obtain ⟨lb,hlb,hls,hlr⟩ : ∃ lb:Array Value,us[1]=.func (.func fF) #[] lb∧lb.size=caps.length∧∀ (i:Nat) (av:AV) (x:Value),caps[i]?=some av→lb[i]?=some x→Rep g w (used (heapOf [(1000,.arr sz es)] hfree)) av x:=by
  generalize us[1]=x at hr1;cases hr1 with
  | clo _ _ _ lb hsz hcap=>exact ⟨lb,rfl,hsz,hcap⟩
 have hus:us=#[g.ρ 1000,.func (.func fF) #[] lb]:=by
  refine Array.ext (by simp; omega) fun i h1 h2=>?_
  match i,h1 with
  | 0,_=>rw [hval]; rfl
  | 1,_=>rw [hlb]; rfl
  | i+2,h1=>simp at hs; omega
 rw [hus];rcases a2 with ⟨b1,b2,b3⟩ | ⟨b,cap,E,vs,b1,b2,b3,b4,b5,b6,b7⟩
 ·exact absurd b1 hne
 ·have hl:(heapOf [(1000,HO.arr sz es)] hfree 1000).live:=trivial;have hlt:=(hI.loc 1000 b hl b2).1;have hle:es.length*sz≤vs.size:=by rw [b5]; exact Nat.mul_le_mul_right _ b3
  have hF:((vs.toList.take (es.length*sz)).toArray).size=es.length*sz:=by simp; omega
  have hH:Holds id w b 0 (vs.toList.take (es.length*sz)).toArray:=fun j hj=>by
   have hj:j<es.length*sz:=by rw [hF] at hj; exact hj
   refine ⟨?_,?_⟩
   ·have hj2:j<vs.size:=by omega
    simp only [World.cell?,b4,Nat.zero_add,Option.isSome_none,Bool.false_eq_true,if_false];rw [Array.getElem?_eq_getElem hj2,getElem!_pos _ j (by rw [hF]; exact hj)];simp
   ·simp [World.frozen?,b4]
  rw [b1];refine (h1 g w b cap _ lb (by simpa using b6) hF hH hlt b3 b7 hI.slt hls hlr).mono ?_
  rintro e w' ⟨rfl,F',es',n,os,f1,f2,f3,f4,f5,rfl⟩
  have hF' : F'.size=es.length*sz:=f1.trans hF;have hpt:=putCells_take F' vs (by omega);have hb' : (grow (putRow id (Sort.ahead w n) b 0 F') os).heap[b]?=some (.cells (putCells id 0 F' vs) E (0,0)):=by
   rw [heap_grow_old _ _ (by rw [size_putRow]; exact hlt)];show (w.heap.modify b (onCells (putCells id 0 F')))[b]?=_;rw [Array.getElem?_modify,if_pos rfl,b4]; rfl
  have hob:∀ k,k<w.heap.size→k≠b→(grow (putRow id (Sort.ahead w n) b 0 F') os).heap[k]?=w.heap[k]?:=fun k hk hne=>by
   rw [heap_grow_old _ _ (by rw [size_putRow]; exact hk)];simp [putRow,mapBlock,Array.getElem?_modify,Ne.symm hne]
  have hsz:w.heap.size≤(grow (putRow id (Sort.ahead w n) b 0 F') os).heap.size:=by rw [size_grow,size_putRow]; show w.heap.size≤w.heap.size+_; omega
  obtain ⟨k1,k2⟩:=hI.upd 1000 (.arr sz es') (g.ρ 1000) (g.ln 1000) (g.tk 1000) (g.own 1000) g.S (grow (putRow id (Sort.ahead w n) b 0 F') os) (some b) ⟨rfl,rfl,rfl,hsz⟩
   (fun k hk hne=>hob k hk (fun e=>hne (by rw [e]))) (fun b' e=>by cases e; exact ⟨hl,b2⟩) (fun _ _ h=>h) (fun _ _ h=>.inl h) (fun b' o e hs=>by cases e; exact absurd hs (b7 o))
   (fun b' _ e=>by rw [b2] at e; cases e; exact ⟨Nat.lt_of_lt_of_le hlt hsz,.inl ⟨hl,b2⟩⟩) (by simp) (fun _=>⟨rfl,Nat.le_refl _,fun _=>rfl,fun _=>rfl⟩) (fun hg hk=>by
    refine ⟨by simp [Gh.upd,t1],by simp [Gh.upd,l1,f3],f4,.inr ⟨b,cap,E,_,by simp [Gh.upd,b1,f3],by simp [Gh.upd,b2],by omega,hb',by rw [hpt.2,b5],?_,b7⟩⟩
    have:=f5 g w (by simpa using b6)
    rw [f3,← hF',hpt.1];exact this.mono hk (fun _ h=>h) (fun _ h=>h.elim))
  rw [heapOf_put] at k1 k2;generalize hg' : g.upd 1000 (g.ρ 1000) (g.ln 1000) (g.tk 1000) (g.own 1000) g.S=g' at k1 k2;have ho' : g'.own 1000=some b:=by rw [← hg']; simp [Gh.upd,b2]
  have hob2:=k1.objs 1000;have he2:heapOf [(1000,HO.arr sz es')] hfree 1000=.arr sz es':=rfl;rw [he2] at hob2;obtain ⟨m1,m2,m3,m4⟩:=hob2;have hρ:g'.ρ 1000=.slice (some ⟨b,0,none⟩) es.length cap:=by rw [← hg']; simp [Gh.upd,b1]
  have hne' : es'≠[]:=fun e=>hne (List.eq_nil_of_length_eq_zero (by rw [← f3,e]; rfl));rcases m4 with ⟨m4,_⟩ | ⟨b',cap',E',vs',c1,c2,c3,c4,c5,c6,c7⟩
  ·exact absurd m4 hne'
  ·rw [hρ] at c1;simp only [Value.slice.injEq,Option.some.injEq,Addr.mk.injEq,and_true] at c1;obtain ⟨c1a,c1b,c1c⟩:=c1;subst c1a; subst c1c;have hlt' : (es'.take n').length=n':=by rw [List.length_take]; omega
   obtain ⟨k3,k4⟩:=k1.move 1000 2000 (by decide) rfl trivial ho' (.arr sz (es'.take n')) (.slice (some ⟨b,0,none⟩) n' cap) n' true (by simp) (fun hk=>by
    refine ⟨by simp [Gh.upd],by simp [Gh.upd,hlt'],fun cs hcs=>m3 cs (List.mem_of_mem_take hcs),.inr ⟨b,cap,E',vs',by simp [Gh.upd,hlt'],by simp [Gh.upd],by omega,c4,c5,?_,c7⟩⟩
    have:=(c6.mono hk (fun _ h=>h) (fun _ h=>h.elim)).take (n'*sz)
    rw [flatten_take es' n' m3,List.take_take,Nat.min_eq_left (Nat.mul_le_mul_right _ (by omega))] at this;rw [hlt']; exact this)
   have hheap:hput (hput (heapOf [(1000,HO.arr sz es')] hfree) 1000 .dead) 2000 (.arr sz (es'.take n'))=heapOf [(1000,.dead),(2000,.arr sz (es'.take n'))] hfree:=by
    funext i
    by_cases e1:i=2000
    ·subst e1; rw [hput_same]; rfl
    ·rw [hput_ne _ _ _ _ e1]
     by_cases e2:i=1000
     ·subst e2; rw [hput_same]; rfl
     ·rw [hput_ne _ _ _ _ e2];simp [heapOf,beq_ne e1,beq_ne e2]
   rw [hheap] at k3 k4;exact ⟨_,.msl 2000 n',_,_,rfl,⟨rfl,es',f2,rfl⟩,.msl _ 2000 n' (some ⟨b,0,none⟩) cap (by intro c; cases c) (by simp [Gh.upd]) (by simp [Gh.upd]) (.inr ⟨b,rfl⟩) (fun _=>by simp [Gh.upd]),k3,k2.trans k4⟩
end
end Go.Eng

namespace Go.Eng
section
variable {P:Program}
theorem used_free {i:Nat} (h:used hfree i):False:=h rfl
theorem heap1_ne {r i:Nat} {o:HO} (h:r≠i):heapOf [(i,o)] hfree r=.free:=by
 simp only [heapOf,beq_ne h,cond_false]; rfl
theorem acall_grow {f sz:Nat} {n:Int} (hE:Enters P f)
  (h:∀ w:World,Calls P f #[.slice none 0 0,.int .i64 n] w fun e w'=>∃ (G:Nat) (cs:Array Value) (T:TypeId),e=.returned (.slice (some ⟨w.heap.size,0,none⟩) 0 G)∧cs.size=G*sz∧w'=w.drew.alloc (.cells cs T)) :
  ACall P f [.v (.slice none 0 0),.v (.int .i64 n)] hfree fun r h'=>r=.slice (.id 2000 sz) []∧h'=heapOf [(2000,.tok sz 0)] hfree:=by
 refine ⟨hE,fun g w us hs hv hI=>?_⟩;have hu:us=#[.slice none 0 0,.int .i64 n]:=by
  have h0:=hv 0 (.v (.slice none 0 0)) (us[0]'(by simp only [List.length_cons,List.length_nil] at hs; omega)) rfl (Array.getElem?_eq_getElem _);have h1:=hv 1 (.v (.int .i64 n)) (us[1]'(by simp only [List.length_cons,List.length_nil] at hs; omega)) rfl (Array.getElem?_eq_getElem _);refine Array.ext (by simpa using hs) fun i q1 q2=>?_
  match i,q1,q2 with
  | 0,_,_=>exact h0.v_eq
  | 1,_,_=>exact h1.v_eq
  | _+2,_,q2=>exact absurd q2 (by simp)
 subst hu;refine (h w).mono ?_
 rintro e w' ⟨G,cs,T,rfl,hc,rfl⟩
 have hnew:(w.drew.alloc (.cells cs T)).heap[w.heap.size]?=some (.cells cs T (0,0)):=heap_new w.drew _ rfl;have hold:∀ b,b<w.heap.size→(w.drew.alloc (.cells cs T)).heap[b]?=w.heap[b]?:=fun b hb=>heap_alloc_old (w:=w.drew) _ hb;have hsz:(w.drew.alloc (.cells cs T)).heap.size=w.heap.size+1:=World.size_alloc ..;obtain ⟨g',hg'⟩ : ∃ g' : Gh,g'=⟨fun r=>bif Nat.beq r 2000 then .slice (some ⟨w.heap.size,0,none⟩) 0 G else g.ρ r,fun r=>bif Nat.beq r 2000 then 0 else g.ln r,fun r=>bif Nat.beq r 2000 then true else g.tk r,fun r=>bif Nat.beq r 2000 then some w.heap.size else g.own r,g.S⟩:=⟨_,rfl⟩;have eS:g'.S=g.S:=by rw [hg']
 have e1:g'.ρ 2000=.slice (some ⟨w.heap.size,0,none⟩) 0 G:=by rw [hg']; rfl
 have e2:g'.ln 2000=0:=by rw [hg']; rfl
 have e3:g'.tk 2000=true:=by rw [hg']; rfl
 have e4:g'.own 2000=some w.heap.size:=by rw [hg']; rfl
 have hK:Keeps g w g' (w.drew.alloc (.cells cs T)):=fun b o hb=>by
  have hlt:=hI.slt b o hb;exact ⟨eS▸hb,by simp only [World.cell?,hold b hlt],fun es ck he=>(hold b hlt).trans he⟩
 have hlive:∀ r,(heapOf [(2000,HO.tok sz 0)] hfree r).live→r=2000:=fun r hr=>by
  by_cases e:r=2000
  ·exact e
  ·rw [heap1_ne e] at hr; exact hr.elim
 refine ⟨_,_,_,g',rfl,⟨rfl,rfl⟩,.tok _ 2000 sz [] _ (.snil _ _ _) (by simp) (fun q=>by cases q) e3 (by rw [e2]; exact Nat.le_refl _) (fun _=>e1.symm),⟨rfl,rfl,rfl,by rw [hsz]; omega,fun b hb _=>hold b hb,fun b o hs=>?_,fun r=>?_,fun r r' b h1 h2 _ _=>(hlive r h1).trans (hlive r' h2).symm,fun r b hr hb=>?_,fun b o hs=>.inl (eS▸hs),?_⟩,⟨fun i hi=>(used_free hi).elim,fun i hi=>(used_free hi).elim,hK⟩⟩
 ·rw [hsz]
  have:=hI.slt b o (eS▸hs); omega
 ·by_cases e:r=2000
  ·subst e;refine ⟨e3,e2,_,G,e1,.inr ⟨Nat.zero_le _,w.heap.size,T,cs,0,rfl,e4,hnew,by rw [hc]; omega,fun o ho=>?_⟩⟩;rw [eS] at ho
   have:=hI.slt _ o ho; omega
  ·rw [heap1_ne e]; trivial
 ·obtain rfl:=hlive r hr;rw [e4] at hb; cases hb;exact ⟨by rw [hsz]; omega,.inl (Nat.le_refl _)⟩
 ·have:=hI.glob.keep hK
  exact this
end
end Go.Eng
