/- Lemmas for the claims of this seat, without a condition: part 14 (EngZP, EngZQ). -/
import Derived.Test.YtpgfieopnnkpfaaGreatDoorNA13
namespace Go.Eng
abbrev recL (fn:FuncId) (tm:Array Value) (ps:Array Tmp) (asg body:Code) (D:Nat) (s:LoopState):Loop :=
 { state:=s,pending:=none,fn:=fn,tmps:=tm,params:=ps,assign:=asg,body:=body,defers:=D }
def envP:List Nat→List AV→(Nat→AV)→Nat→AV
 | p :: ps,v :: vs,e=>envP ps vs (tput e p v)
 | _,_,e=>e
section
variable {P:Program} {N:Nat} {w:World} {g:Gh}
theorem envP_rep {U:Nat→Prop} : ∀ {ps:List Nat} {args:List AV} {vals:List Value} {tm:Array Value} {env:Nat→AV},vals.length=args.length→args.length=ps.length→(∀ p ∈ ps,p<tm.size) →
  (∀ (i:Nat) (av:AV) (x:Value),args[i]?=some av→vals[i]?=some x→Rep g w U av x)→(∀ i,Rep g w U (env i) (tm.getD i undef)) →
  ((ps.zip vals).foldl (fun t p=>t.setIfInBounds p.1 p.2) tm).size=tm.size∧∀ i,Rep g w U (envP ps args env i) (((ps.zip vals).foldl (fun t p=>t.setIfInBounds p.1 p.2) tm).getD i undef)
 | [],args,vals,tm,env,_,h2,_,_,he=>by
  have:args=[]:=List.eq_nil_of_length_eq_zero h2
  subst this;exact ⟨rfl,he⟩
 | p :: ps,[],vals,tm,env,_,h2,_,_,_=>by cases h2
 | p :: ps,a :: args,[],tm,env,h1,_,_,_,_=>by cases h1
 | p :: ps,a :: args,v :: vals,tm,env,h1,h2,h3,h4,he=>by
  have hp:=h3 p (List.mem_cons_self ..)
  obtain ⟨q1,q2⟩:=envP_rep (ps:=ps) (args:=args) (vals:=vals) (tm:=tm.setIfInBounds p v) (env:=tput env p a) (by simpa using h1) (by simpa using h2) (fun q hq=>by simpa using h3 q (List.mem_cons_of_mem _ hq))
   (fun i av x e1 e2=>h4 (i+1) av x (by simpa using e1) (by simpa using e2)) (fun i=>by
    by_cases e:i=p
    ·subst e;have e1:tput env i a i=a:=by simp [tput]
     have e2:(tm.setIfInBounds i v).getD i undef=v:=by simp [Array.getD_eq_getD_getElem?,hp]
     rw [e1,e2];exact h4 0 a v rfl rfl
    ·have e1:tput env p a i=env i:=by simp only [tput,beq_ne e,cond_false]
     have e2:(tm.setIfInBounds p v).getD i undef=tm.getD i undef:=by
      simp [Array.getD_eq_getD_getElem?,Array.getElem?_setIfInBounds_ne (Ne.symm e)]
     rw [e1,e2];exact he i)
  exact ⟨by simpa using q1,q2⟩

theorem ycall_of {H:List (Nat × HO)} (cx:Cx) (hP:cx.P=P) (hT:TabOk P cx.T) (hm:P.follows .mixedOrders=true) (hx:cx.ext=true) {σ:Ren} (hσ:(renInj σ&&extOk σ H)=true) {fn:FuncId} {tm:Array Value} {ps:Array Tmp} {asg body:Code} {D l:Nat}
  {env:Nat→AV} {args:List AV} {U:Nat→Prop} {Q:AV→(Nat→HO)→Prop} (hps:args.length=ps.toList.length) (hN:tm.size=N) (hpN:(ps.toList.all fun p=>Nat.blt p N)=true) (hca:codeOk N asg=true) (hcb:codeOk N body=true)
  (hU:∀ i,U i→used (heapOf H hfree) i)
  (hk:awp cx asg (fun e st=>match e with | .normal=>awp cx body (fun e st=>match e with | .normal=>Q (.v (.bool true)) (renH σ (frzs st.h cx.pl.fin)) | _=>False) st | _=>False) ⟨envP ps.toList args env,heapOf H hfree⟩)
  (hY:∀ l σ g w,cx.yp l σ g w:=by exact fun _ _ _ _=>trivial) :
  YCall P (fun g w=>w.heap[l]?=some (.loop (recL fn tm ps asg body D .ready))∧∀ i,Rep g w U (env i) (tm.getD i undef)) l args (heapOf H hfree) Q:=by
 simp only [Bool.and_eq_true] at hσ;intro g w vals hs hv hI ⟨hl,hslots⟩;have hlt:l<w.heap.size:=(Array.getElem?_eq_some_iff.1 hl).1;have hE:ExtOk cx (heapOf H hfree):=by unfold ExtOk; rw [hx]; exact fun i hi=>⟨(ext_spec hσ.2 i hi).1,(ext_spec hσ.2 i hi).2.1⟩
 have hno:∀ r,((heapOf H hfree) r).live→g.own r≠some l:=fun r hr e=>not_dull (hI.objs r) hr e hl rfl;have hfold:∀ (t0:Array Value),(ps.zip vals).foldl (fun tmps (p:Nat × Value)=>tmps.setIfInBounds p.1 p.2) t0=(ps.toList.zip vals.toList).foldl (fun t p=>t.setIfInBounds p.1 p.2) t0:=fun t0=>by
  rw [← Array.foldl_toList,Array.toList_zip]
 have hry:=run_yield (P:=P) (args:=vals) hl (by simp only [hs,hps,Array.length_toList]);refine ⟨fn,_,asg,body,hry,roundIn_of_wpIn trivial ?_⟩;obtain ⟨z1,z2⟩:=envP_rep (U:=used (heapOf H hfree)) (ps:=ps.toList) (args:=args) (vals:=vals.toList) (tm:=tm) (env:=env) (by simpa using hs) hps (fun p hp=>by
  have:=(List.all_eq_true.1 hpN) p hp
  rw [hN]; simpa using this) (fun i av x e1 e2=>hv i av x e1 (by simpa using e2)) (fun i=>(hslots i).mono (.refl _ _) hU (.refl _ _))
 have hS0:SR N [] w g (heapOf H hfree) ⟨envP ps.toList args env,heapOf H hfree⟩ g { tmps:=(ps.zip vals).foldl (fun tmps (p:Nat × Value)=>tmps.setIfInBounds p.1 p.2) tm,defers:=[] } w:=by
  refine ⟨hI,.refl _ _ _,rfl,?_,fun i=>?_⟩
  ·rw [hfold]; exact z1.trans hN
  ·rw [hfold]; exact z2 i
 refine awp_ok hP hT hm hE (fun l σ _ _ w _ _ _=>hY l σ _ w) (some l) asg hca (fun e st1 g1 a1 w1 hq hS1=>?_) hS0 hk;cases e with
 | exit _=>exact hq.elim
 | ret=>exact hq.elim
 | normal =>
  have hl1:w1.heap[l]?=some (.loop (recL fn tm ps asg body D .ready)):=(hS1.inv.frame l hlt hno).trans hl;refine ⟨_,run_beginRound hl1 rfl,?_⟩;obtain ⟨iS,sS⟩:=hI.put (n0:=w.heap.size) (x:=l) (o':=.loop (recL fn tm ps asg body D .busy)) hl rfl rfl (.inr rfl);have hlS:(w.putObj l (.loop (recL fn tm ps asg body D .busy))).heap[l]?=some (.loop (recL fn tm ps asg body D .busy)):=World.putObj_heap_same hlt;have hszS:(w.putObj l (.loop (recL fn tm ps asg body D .busy))).heap.size=w.heap.size:=by simp [World.putObj]
  obtain ⟨_,sB⟩:=iS.dullS (w':=w) (n0:=w.heap.size) (x:=l) ⟨rfl,rfl,rfl⟩ (by rw [hszS]; exact Nat.le_refl _) (fun b _=>by
   by_cases e:b=l
   ·subst e; exact .inr ⟨_,_,hlS,hl,rfl,rfl⟩
   ·exact .inl (World.putObj_heap_other e).symm) (fun b _ hne=>(World.putObj_heap_other hne).symm)
  obtain ⟨i2,s2⟩:=hS1.inv.base.put (n0:=w.heap.size) (x:=l) (o':=.loop (recL fn tm ps asg body D .busy)) hl1 rfl rfl (.inr rfl);have S2:=(sB.trans (Seg.of_inv hS1.inv hS1.le (Nat.le_refl _))).trans s2;have hl2:(w1.putObj l (.loop (recL fn tm ps asg body D .busy))).heap[l]?=some (.loop (recL fn tm ps asg body D .busy)):=World.putObj_heap_same (Array.getElem?_eq_some_iff.1 hl1).1;have hI2:=i2.of_seg (by rw [hszS]; exact S2) (fun _=>hl2.trans hlS.symm);have hS2:SR N [] (w.putObj l (.loop (recL fn tm ps asg body D .busy))) g (heapOf H hfree) st1 g1 a1 (w1.putObj l (.loop (recL fn tm ps asg body D .busy))):=⟨hI2,S2.le,hS1.dfs,hS1.size,fun i=>(hS1.slots i).le s2.le⟩;refine awp_ok hP hT hm hE (fun l σ _ _ w _ _ _=>hY l σ _ w) (some l) body hcb (fun e st3 g3 a3 w3 hq hS3=>?_) hS2 hq;cases e with
  | exit _=>exact hq.elim
  | ret=>exact hq.elim
  | normal =>
   have hl3:w3.heap[l]?=some (.loop (recL fn tm ps asg body D .busy)):=(hS3.inv.frame l (by rw [hszS]; exact hlt) hno).trans hlS;refine ⟨.bool true,w3.putObj l (.loop (recL fn tm ps asg body D .ready)),run_endRound none hl3,?_⟩;obtain ⟨gf,if1,if2⟩:=frzs_ok cx.pl.fin hS3.inv;obtain ⟨i4,s4⟩:=if1.base.put (n0:=w.heap.size) (x:=l) (o':=.loop (recL fn tm ps asg body D .ready)) hl3 rfl rfl (.inr rfl);have S4:=(sS.trans (Seg.of_inv if1 (hS3.le.trans if2) (by rw [hszS]; exact Nat.le_refl _))).trans s4;have hl4:(w3.putObj l (.loop (recL fn tm ps asg body D .ready))).heap[l]?=some (.loop (recL fn tm ps asg body D .ready)):=World.putObj_heap_same (Array.getElem?_eq_some_iff.1 hl3).1;have hI4:=i4.of_seg S4 (fun _=>hl4.trans hl.symm);obtain ⟨_,j1,j2⟩:=exit_ok hσ.1 hσ.2 hI4 S4.le;exact ⟨.bool true,.v (.bool true),_,_,rfl,hq,.v _ _,j1,j2⟩

def ICall (P:Program) (Y:Gh→World→Prop) (σ:Ren) (f:Nat) (args:List AV) (h0:Nat→HO) (Q:AV→(Nat→HO)→Prop):Prop :=
 Enters P f∧∀ (g:Gh) (w:World) (vals:Array Value),vals.size=args.length→(∀ (i:Nat) (av:AV) (x:Value),args[i]?=some av→vals[i]?=some x→Rep g w (used h0) av x) →
  Inv w g h0 h0 g w→(∀ h' g' w',Inv w g h0 h' g' w'→Le h0 g w h' g' w'→Y (ghFwd σ g') w') →
  Calls P f vals w fun e w'=>∃ v r h' g',e=.returned v∧Q r h'∧Rep g' w' (used h') r v∧Inv w g h0 h' g' w'∧Le h0 g w h' g' w'
theorem icall_of {Y:Gh→World→Prop} {l:Nat} {f:Nat} {fn:Func} {c:Code} {args:List AV} {H0:List (Nat × HO)} {Q:AV→(Nat→HO)→Prop} (cx:Cx) (σ:Ren) (hP:cx.P=P) (hT:TabOk P cx.T) (hm:P.follows .mixedOrders=true) (hx:cx.ext=true) (hf:P.funcs[f]?=some fn)
  (hn : (fn.name == "runtime.NumGoroutine") = false) (hb : fn.body = some c) (hN : args.length ≤ fn.ntmps) (hc : codeOk fn.ntmps c = true) (hσ : (renInj σ && extOk σ H0) = true)
  (hy:cx.yp=fun l' σ' g w=>l'=l→σ'=σ→Y g w)
  (hk:awp cx c (endG cx fn.results.toList σ Q) ⟨envA args,heapOf H0 hfree⟩):ICall P Y σ f args (heapOf H0 hfree) Q :=
 ⟨⟨fn,hf,hn,by simp [hb]⟩,fun g w vals hs hv hI hp=>gcall_at cx σ hP hT hm hx hf hn hb hN hc hσ hk hs hv hI fun l' σ' h' g' w' _ q1 q2=>by
  rw [hy]; intro _ e; subst e; exact hp h' g' w' q1 q2⟩

theorem rf_of {fn:Func} {bid s:Nat} {ps:Array Tmp} {asg body rest:Code} (cx:Cx) (hP:cx.P=P) (hT:TabOk P cx.T) (hm:P.follows .mixedOrders=true) (hx:cx.ext=true) {σ:Ren} {H0 Hn:List (Nat × HO)} (hσ:(renInj σ&&extOk σ H0)=true) (hσn:extOk σ Hn=true)
  {env:Nat→AV} {gf:Nat} {caps:List AV} (hF:env s=.clo gf caps) {Qv:AV→Prop}
  (hIT:∀ (l D:Nat) (f' : FuncId) (tm:Array Value),tm.size=N→ICall P (fun g w=>w.heap[l]?=some (.loop (recL f' tm ps asg body D .ready))∧∀ i,Rep g w (used (heapOf H0 hfree)) (env i) (tm.getD i undef)) σ gf
   (.v (.func (.yield l) #[] #[]) :: caps) (heapOf H0 hfree) fun _ h'=>h'=heapOf Hn hfree)
  (hcr:codeOk N rest=true) (hrest:awp cx rest (endK cx fn.results.toList Qv) ⟨env,heapOf Hn hfree⟩) (hY:∀ l σ g w,cx.yp l σ g w)
  {a:Act} (ha:a.defers=[]) (hN:a.tmps.size=N) (hI:Inv w g (heapOf H0 hfree) (heapOf H0 hfree) g w) (hslots:∀ i,Rep g w (used (heapOf H0 hfree)) (env i) (a.tmps.getD i undef))
  {R:Ending→World→Prop} (hR:∀ v r h' g' w',Qv r→Rep g' w' NoU r v→Inv w g (heapOf H0 hfree) h' g' w'→Le (heapOf H0 hfree) g w h' g' w'→R (.returned v) w') :
  (Code.block bid (.rangeFunc (.tmp s) ps asg body)).wpIn (fro none) 0 P (Exit.then (rest.wpIn (fro none) 0 P (bodyPostM (fro none) 0 P fn R)) (bodyPostM (fro none) 0 P fn R)) a w:=by
 simp only [Bool.and_eq_true] at hσ;refine wpIn_block (wpIn_rangeFunc fun f' _=>?_);have hs:=hslots s;rw [hF] at hs;have heval:a.eval (.tmp s)=a.tmps.getD s undef:=rfl;generalize hfv:a.tmps.getD s undef=fv at hs heval;cases hs with
 | clo _ _ _ lb hsz hcap =>
 obtain ⟨i0,s0⟩:=hI.allocS (n0:=w.heap.size) (x:=w.heap.size) (.deferred (some [])) (Nat.le_refl _);obtain ⟨i1,s1⟩:=i0.allocS (n0:=w.heap.size) (x:=w.heap.size) (.loop (recL f' a.tmps ps asg body w.heap.size .ready)) (by rw [World.size_alloc]; omega);generalize hW:(w.alloc (.deferred (some []))).alloc (.loop (recL f' a.tmps ps asg body w.heap.size .ready))=W1 at i1 s1;have hsz1:W1.heap.size=w.heap.size+2:=by rw [← hW,World.size_alloc,World.size_alloc]
 have hl:W1.heap[w.heap.size+1]?=some (.loop (recL f' a.tmps ps asg body w.heap.size .ready)):=by
  rw [← hW]
  have:=World.alloc_heap_new (w.alloc (.deferred (some []))) (.loop (recL f' a.tmps ps asg body w.heap.size .ready))
  rwa [World.size_alloc] at this
 have hD:W1.heap[w.heap.size]?=some (.deferred (some [])):=by
  rw [← hW,heap_alloc_old _ _ (by rw [World.size_alloc]; omega)];exact World.alloc_heap_new w _
 have hno:∀ b ob,W1.heap[b]?=some ob→dull ob=true→∀ r,((heapOf H0 hfree) r).live→g.own r≠some b:=fun b ob hb hd r hr e=>not_dull (i1.objs r) hr e hb hd;have S1:=s0.trans s1;have hit:=hIT (w.heap.size+1) w.heap.size f' a.tmps hN
 refine ⟨w.heap.size+1,[{ target:=.collected w.heap.size,args:=#[] }],W1,{ target:=.fn (.func gf) lb,args:=#[.func (.yield (w.heap.size+1)) #[] #[]] },W1,gf,
  #[.func (.yield (w.heap.size+1)) #[] #[]]++lb,W1,?_,?_,fun _ _=>trivial,?_,fun e=>(by cases e),?_⟩
 ·rw [← hW]; exact run_enterLoop_outer _ _ _ _ _
 ·simp only [resolve,heval];simp [go_sem]
 ·simp only [invoke];rw [run_callFunc hit.1]
 refine callsIn_wide.2 ((hit.2 g W1 _ (by simp [hsz]; omega) (fun i av x e1 e2=>?_) i1 (fun h' g' w' q1 q2=>?_)).mono ?_)
 ·cases i with
  | zero =>
   simp only [List.getElem?_cons_zero,Option.some.injEq] at e1;rw [Array.getElem?_append] at e2
   have:x=.func (.yield (w.heap.size+1)) #[] #[]:=(Option.some.inj e2).symm
   subst e1; subst this;exact .v _ _
  | succ i =>
   have e2:lb[i]?=some x:=by rw [← e2,Array.getElem?_append]; simp
   exact (hcap i av x (by simpa using e1) e2).le S1.le
 ·obtain ⟨_,_,j2⟩:=exit_ok hσ.1 hσ.2 q1 q2;refine ⟨(q1.frame _ (by omega) (hno _ _ hl rfl)).trans hl,fun i=>?_⟩;exact ((hslots i).le S1.le).mono j2.keeps (fun _ h=>h) j2.gh
 rintro e w2 ⟨v,r,h',g2,rfl,rfl,_,q3,q4⟩
 have hl2:w2.heap[w.heap.size+1]?=some (.loop (recL f' a.tmps ps asg body w.heap.size .ready)):=(q3.frame _ (by omega) (hno _ _ hl rfl)).trans hl;have hD2:w2.heap[w.heap.size]?=some (.deferred (some [])):=(q3.frame _ (by omega) (hno _ _ hD rfl)).trans hD;refine ⟨none,_,run_endLoop hl2 (fun e=>by cases e),?_⟩;obtain ⟨i4,s4⟩:=q3.base.put (n0:=w.heap.size) (x:=w.heap.size) (o':=.loop { recL f' a.tmps ps asg body w.heap.size .ready with state:=.exhausted }) hl2 rfl rfl (.inl (by omega));have S4:=(S1.trans (Seg.of_inv q3 q4 (by omega))).trans s4;generalize hW4:w2.putObj (w.heap.size+1) (.loop { recL f' a.tmps ps asg body w.heap.size .ready with state:=.exhausted })=w4 at i4 s4 S4;have hD4:w4.heap[w.heap.size]?=some (.deferred (some [])):=by rw [← hW4,World.putObj_heap_other (by omega)]; exact hD2
 have hE:ExtOk cx (heapOf Hn hfree):=by unfold ExtOk; rw [hx]; exact fun i hi=>⟨(ext_spec hσn i hi).1,(ext_spec hσn i hi).2.1⟩
 have hS4:SR N [{ target:=.collected w.heap.size,args:=#[] }] w4 g2 (heapOf Hn hfree) ⟨env,heapOf Hn hfree⟩ g2 { a with defers:=[{ target:=.collected w.heap.size,args:=#[] }]++a.defers } w4 :=
  ⟨i4,.refl _ _ _,by simp [ha],hN,fun i=>(hslots i).le S4.le⟩
 refine awp_ok hP hT hm hE (fun l σ _ _ w _ _ _=>hY l σ _ w) none rest hcr (fun e st5 g5 a5 w5 hq hS5=>?_) hS4 hrest;have fin:outK cx st5 fn.results.toList Qv→LeavesInM (fro none) 0 P fn a5.tmps R a5.defers .returning w5:=by
  intro hk;have hD5:w5.heap[w.heap.size]?=some (.deferred (some [])):=(hS5.inv.frame _ (Array.getElem?_eq_some_iff.1 hD4).1 (fun r hr e=>not_dull (i4.objs r) hr e hD4 rfl)).trans hD4;rw [hS5.dfs];refine ⟨by simp,.inl ⟨w.heap.size,_,rfl,run_takeDeferred hD5,?_⟩⟩;obtain ⟨i6,s6⟩:=hS5.inv.base.put (n0:=w.heap.size) (x:=w.heap.size) (o':=.deferred none) hD5 rfl rfl (.inr rfl);have hS6:SR N [{ target:=.collected w.heap.size,args:=#[] }] (w5.putObj w.heap.size (.deferred none)) g5 st5.h st5 g5 a5 (w5.putObj w.heap.size (.deferred none)):=⟨i6,.refl _ _ _,hS5.dfs,hS5.size,fun i=>(hS5.slots i).le s6.le⟩;obtain ⟨g7,r,v,h7,k1,k2,k3,k4,k5⟩:=outK_ok hT hS6 hk;have S7:=((S4.trans (Seg.of_inv hS5.inv hS5.le (Nat.le_trans (Nat.le_refl _) S4.size))).trans s6).trans (Seg.of_inv k3 k4 (Nat.le_trans (Nat.le_refl _) ((S4.trans (Seg.of_inv hS5.inv hS5.le (Nat.le_trans (Nat.le_refl _) S4.size))).trans s6).size));exact ⟨v,k2,hR v r h7 g7 _ k1 k5 (k3.base.of_seg S7 fun h=>absurd h (Nat.lt_irrefl _)) S7.le⟩
 cases e with
 | normal=>exact fin hq
 | ret=>exact fin hq
 | exit id=>exact hq.elim
end
end Go.Eng

namespace Go.Eng
def awpN (cx:Cx):Nat→Code→(Ex→St→Prop)→(Code→Code→St→Prop)→St→Prop
 | 0,.seq (.seq a b) d,Q,K,st=>awp cx a (fun e st'=>match e with | .normal=>K b d st' | e=>Q e st') st
 | 0,.seq b d,_,K,st=>K b d st
 | n+1,.seq a b,Q,K,st=>awp cx a (fun e st'=>match e with | .normal=>awpN cx n b Q K st' | e=>Q e st') st
 | _,_,_,_,_=>False
section
variable {P:Program} {N:Nat} {ds:List Deferred} {w0:World} {g0:Gh} {h0:Nat→HO} {st:St} {g:Gh} {a:Act} {w:World}
theorem awpN_ok {cx:Cx} (hP:cx.P=P) (hT:TabOk P cx.T) (hm:P.follows .mixedOrders=true) (hE:ExtOk cx h0) (hY:∀ l σ h g w,renOk σ=true→Inv w0 g0 h0 h g w→Le h0 g0 w0 h g w→cx.yp l σ (ghFwd σ g) w)
  {Qa:Ex→St→Prop} {K:Code→Code→St→Prop} {Q:Exit→Act→World→Prop} (hQ:∀ e st g a w,e≠.normal→Qa e st→SR N ds w0 g0 h0 st g a w→Q e.real a w)
  (hK:∀ b d st g a w,K b d st→SR N ds w0 g0 h0 st g a w→b.wpIn (fro none) 0 P (Exit.then (d.wpIn (fro none) 0 P Q) Q) a w) :
  ∀ (n:Nat) (c:Code),codeOk N c=true→∀ {st:St} {g:Gh} {a:Act} {w:World},SR N ds w0 g0 h0 st g a w→awpN cx n c Qa K st→c.wpIn (fro none) 0 P Q a w:=by
 intro n
 induction n with
 | zero =>
  intro c hc st g a w hS hk;cases c with
  | seq y d =>
   simp only [codeOk,Bool.and_eq_true] at hc;cases y with
   | seq x b =>
    have hk:awp cx x (fun e st'=>match e with | .normal=>K b d st' | e=>Qa e st') st:=hk;simp only [codeOk,Bool.and_eq_true] at hc;refine wpIn_seq (wpIn_seq (awp_ok hP hT hm hE hY none x hc.1.1 (Qa:=fun e st'=>match e with | .normal=>K b d st' | e=>Qa e st') (fun e st g a w q hS=>?_) hS hk));cases e with
    | normal=>exact hK b d _ _ _ _ q hS
    | exit id=>exact hQ (.exit id) _ _ _ _ (fun e=>by cases e) q hS
    | ret=>exact hQ .ret _ _ _ _ (fun e=>by cases e) q hS
   | _=>exact wpIn_seq (hK _ d _ _ _ _ hk hS)
  | _=>exact hk.elim
 | succ n ih =>
  intro c hc st g a w hS hk;cases c with
  | seq x y =>
   simp only [codeOk,Bool.and_eq_true] at hc;refine wpIn_seq (awp_ok hP hT hm hE hY none x hc.1 (Qa:=fun e st'=>match e with | .normal=>awpN cx n y Qa K st' | e=>Qa e st') (fun e st g a w q hS=>?_) hS hk);cases e with
   | normal=>exact ih y hc.2 hS q
   | exit id=>exact hQ (.exit id) _ _ _ _ (fun e=>by cases e) q hS
   | ret=>exact hQ .ret _ _ _ _ (fun e=>by cases e) q hS
  | _=>exact hk.elim
def strT (h:Nat→HO):AV→AV
 | .tup cs=>.tup (cs.map (str h))
 | a=>str h a
theorem Rep.strT {h:Nat→HO} (ho:∀ r,ObjRep g w (used h) r (h r)) {av:AV} {x:Value} (r:Rep g w (used h) av x):Rep g w NoU (Eng.strT h av) x:=by
 cases av with
 | tup cs =>
  cases r with
  | tup _ _ vs hs hr =>
   exact .tup _ _ vs (by simp [hs]) fun i av x q1 q2=>by
    rw [List.getElem?_map,Option.map_eq_some_iff] at q1;obtain ⟨a,e1,rfl⟩:=q1;exact Rep.str ho (hr i a x e1 q2)
 | _=>exact Rep.str ho r
def RfK (cx2:Cx) (P:Program) (N:Nat) (fn:Func) (res:AV) (b rest:Code) (st:St):Prop :=
 ∃ (σF σ:Ren) (H0 Hn:List (Nat × HO)) (bid s:Nat) (ps:Array Tmp) (asg body:Code) (gf:Nat) (caps:List AV),
  b=.block bid (.rangeFunc (.tmp s) ps asg body)∧(renOk σF&&newFree st.h 0 0&&newApart σF 0 0)=true∧renH σF st.h=heapOf H0 hfree∧(renInj σ&&extOk σ H0)=true∧extOk σ Hn=true ∧
  ren (rfwd σF) st.h (st.t s)=.clo gf caps ∧
  (∀ (l D:Nat) (f' : FuncId) (tm:Array Value),tm.size=N→ICall P (fun g w=>w.heap[l]?=some (.loop (recL f' tm ps asg body D .ready))∧∀ i,Rep g w (used (heapOf H0 hfree)) (ren (rfwd σF) st.h (st.t i)) (tm.getD i undef)) σ gf
   (.v (.func (.yield l) #[] #[]) :: caps) (heapOf H0 hfree) fun _ h'=>h'=heapOf Hn hfree) ∧
  codeOk N rest=true∧awp cx2 rest (endK cx2 fn.results.toList fun r=>Sub r res) ⟨fun i=>ren (rfwd σF) st.h (st.t i),heapOf Hn hfree⟩
theorem pcall_rf {f : Nat} {fn : Func} {c : Code} {args : List AV} {res : AV} (cx cx2 : Cx) (hP : cx.P = P) (hT : TabOk P cx.T) (hP2 : cx2.P = P) (hT2 : TabOk P cx2.T) (hm : P.follows .mixedOrders = true) (hx : cx.ext = false) (hx2 : cx2.ext = true) (hf : P.funcs[f]? = some fn) (hn : (fn.name == "runtime.NumGoroutine") = false)
  (hb:fn.body=some c) (hN:args.length≤fn.ntmps) (hc:codeOk fn.ntmps c=true) (n:Nat) (hres:∀ g h,ren g h res=res∧strT h res=res)
  (hk:awpN cx n c (endK cx fn.results.toList fun r=>Sub r res) (RfK cx2 P fn.ntmps fn res) ⟨envA args,hfree⟩)
  (hY:∀ l σ g w,cx.yp l σ g w:=by exact fun _ _ _ _=>trivial) (hY2:∀ l σ g w,cx2.yp l σ g w:=by exact fun _ _ _ _=>trivial):PCall P f args res:=by
 refine ⟨⟨fn,hf,hn,by simp [hb]⟩,fun g w vals hs hv hI=>callsIn_wide.1 (callsIn_of_wp_marks (F:=Fence.wide) (n:=0) hf hb trivial ?_ rfl)⟩;have hU:used hfree=NoU:=by funext i; unfold used NoU hfree; simp
 have hS:SR fn.ntmps [] w g hfree ⟨envA args,hfree⟩ g { tmps:=vals++Array.replicate (fn.ntmps - vals.size) undef,defers:=[] } w:=by
  refine ⟨hI,.refl _ _ _,rfl,by simp [hs]; omega,fun i=>?_⟩
  have:=envA_rep (n:=fn.ntmps - vals.size) (args:=args) (vals:=vals.toList) (by simpa using hs) (fun i av x q1 q2=>hv i av x q1 (by simpa using q2)) i
  rw [Array.getD_eq_getD_getElem?,← Array.getElem?_toList];rw [List.getD_eq_getElem?_getD] at this;simpa using this
 refine awpN_ok hP hT hm (by unfold ExtOk; rw [hx]; exact fun _=>rfl) (fun l σ _ _ w _ _ _=>hY l σ _ w) (fun e st g' a w' hne hk hS=>?_) (fun b rest st g' a w' hk hS=>?_) n c hc hS hk
 ·have out:outK cx st fn.results.toList (fun r=>Sub r res)→LeavesInM (fro none) 0 P fn a.tmps (fun e w'=>∃ v r h' g',e=Ending.returned v∧(r=res∧h'=hfree)∧Rep g' w' (used h') r v∧Inv w g hfree h' g' w'∧Le hfree g w h' g' w') a.defers .returning w':=by
   intro hk;obtain ⟨g2,r,v,h',q1,q2,q3,q4,q5⟩:=outK_ok hT hS hk;rw [hS.dfs];exact ⟨v,q2,v,res,hfree,g2,rfl,⟨rfl,rfl⟩,by rw [hU]; exact q1 _ _ _ _ q5,Inv.toFree (st:=⟨st.t,h'⟩) q3,⟨fun i hi=>absurd rfl hi,fun i hi=>absurd rfl hi,q4.keeps⟩⟩
  cases e with
  | normal=>exact absurd rfl hne
  | ret=>exact out hk
  | exit id=>exact hk.elim
 ·obtain ⟨σF,σ,H0,Hn,bid,s,ps,asg,body,gf,caps,rfl,k1,k2,k3,k4,k5,k6,k7,k8⟩:=hk;have hσF:renOk σF=true:=by simp only [Bool.and_eq_true] at k1; exact k1.1.1
  obtain ⟨hRen,hI1⟩:=fwd_ok hS.inv hσF;rw [k2] at hI1;have hslots:∀ i,Rep (ghFwd σF g') w' (used (heapOf H0 hfree)) (ren (rfwd σF) st.h (st.t i)) (a.tmps.getD i undef):=fun i=>by
   have:=(hS.slots i).ren hRen
   rwa [k2] at this
  refine call_genC (Q:=fun r h'=>r=res) (C:=fun R'=>(∀ e w'',R' e w''→(∃ v r h' g',e=Ending.returned v∧(r=res∧h'=hfree)∧Rep g' w'' (used h') r v∧Inv w g hfree h' g' w''∧Le hfree g w h' g' w'')) →
   (Code.block bid (.rangeFunc (.tmp s) ps asg body)).wpIn (fro none) 0 P (Exit.then (rest.wpIn (fro none) 0 P (bodyPostM (fro none) 0 P fn (fun e w''=>∃ v r h' g',e=Ending.returned v∧(r=res∧h'=hfree)∧Rep g' w'' (used h') r v∧Inv w g hfree h' g' w''∧Le hfree g w h' g' w''))) (bodyPostM (fro none) 0 P fn (fun e w''=>∃ v r h' g',e=Ending.returned v∧(r=res∧h'=hfree)∧Rep g' w'' (used h') r v∧Inv w g hfree h' g' w''∧Le hfree g w h' g' w''))) a w')
   (fun h k h2=>h fun e w r=>h2 _ _ (k _ _ r)) hS.inv (d:=0) (nn:=0) k1 (fun _ hpost=>?_) (fun v r h' g2 w2 q1 q2 q3 q4=>?_) (fun _ _ h=>h)
  ·rw [k2] at hpost;exact rf_of cx2 hP2 hT2 hm hx2 k3 k4 k5 k6 k7 k8 hY2 hS.dfs hS.size hI1 hslots fun v r h' g5 w5 q1 q2 q3 q4=>hpost _ _ ⟨v,res,h',g5,rfl,rfl,(q1 _ _ _ _ q2).up _,q3,q4⟩
  ·subst q1;rw [(hres _ _).1] at q4;have q5:=Rep.strT q2.objs q4;rw [(hres (fun _=>none) _).2] at q5;exact ⟨v,r,hfree,g2,rfl,⟨rfl,rfl⟩,by rw [hU]; exact q5,Inv.toFree (st:=⟨st.t,_⟩) q2,⟨fun i hi=>absurd rfl hi,fun i hi=>absurd rfl hi,(hS.le.trans q3).keeps⟩⟩
end
end Go.Eng
