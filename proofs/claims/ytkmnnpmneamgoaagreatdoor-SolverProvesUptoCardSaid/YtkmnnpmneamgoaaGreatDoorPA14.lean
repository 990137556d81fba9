/- Lemmas 14. -/
import Derived.Test.YtkmnnpmneamgoaaGreatDoorPA13
namespace Go.Eng
variable {tm:Array Value}{ps:Array Tmp}{σ:HJ}{Es body:Code}{fn:Func}{ob:Obj}
abbrev Uy(fn:FuncId)(tm:Array Value)(ps:Array Tmp)(Es body:Code)(D PQ:Nat):Bool->Loop
 |true=>Fv fn tm ps Es body D .ready
 |false=>{ Fv fn tm ps Es body D .done with pending:=some (.exit PQ) }
section
variable {P:Program}{N:Nat}{ds:List Deferred}{w0 w:World}{g0 g:Gh}{h0 h:Nat->HO}
theorem Sx(hI:Cw w0 g0 h0 h g w){r l:Nat}{ob':Obj}(hr:h r=.raw l ob)(hb:so ob'=true) :
  ∃g',Cw w0 g0 h0 (AC h r (.raw l ob')) g' (w.putObj l ob')/\Le h g w (AC h r (.raw l ob')) g' (w.putObj l ob'):=by
 have ho:=hI.objs r;rw[hr]at ho;obtain⟨t,a1,a2,_,a4⟩:=ho;have hl:(h r).live:=by rw[hr];trivial
 have E1:l<w.heap.size:=(BZ.1 a2).1;have FG:(w.putObj l ob').heap.size=w.heap.size:=by simp_all
 obtain⟨m1,m2⟩:=hI.upd r (.raw l ob') (g.ρ r) (g.ln r) (g.tk r) (g.own r) g.S (w.putObj l ob') (some l) ⟨rfl,rfl,rfl,by rw[FG];exact Ao _⟩
  (fun k _ D8=>World.putObj_heap_other fun e=>D8 (by rw[e])) (fun b e=>by cases e;exact⟨hl,a1⟩) (fun _ _ h=>h) (fun _ _ h=>.inl h) (fun b o e hs=>by cases e;exact absurd hs (a4 o))
  (fun b _ e=>⟨by rw[FG];exact(hI.loc r b hl e).1,.inl ⟨hl,e⟩⟩) (fun e=>by cases e) (fun _=>⟨rfl,Ao _,fun _=>rfl,fun _=>rfl⟩) (fun _ _=>by
   obtain⟨_,_,u3,u4⟩:=Bh g r (g.ρ r) (g.ln r) (g.tk r) (g.own r) g.S;exact⟨u3.trans t,u4.trans a1,World.putObj_heap_same E1,hb,a4⟩)
 exact⟨_,m1,m2⟩
theorem Ux(hI:Cw w0 g0 h0 h g w){r l:Nat}(hr:h r=.raw l ob):w.heap[l]?=some ob:=by
 have ho:=hI.objs r;rw[hr]at ho;exact ho.2.2.1
theorem jo(r0:Nat){H:List (Nat×HO)}(cx:Cx)(hP:cx.P=P)(hT:BY P cx.T)(hm:P.follows .mixedOrders=true)(hx:cx.ext=true)(hσ:(EU σ&&FJ σ H)=true){fn:FuncId}{D l:Nat}{env:Nat->AV}{args:List AV}{U:Nat->Prop}{Q:AV->(Nat->HO)->Prop}(jA:Af H Ae r0=.raw l (.loop (Fv fn tm ps Es body D .ready)))(tM:args.length=ps.toList.length)(hN:tm.size=N)(hpN:(ps.toList.all fun p=>Nat.blt p N)=true)(hca:Dr N Es=true)(xw:Dr N body=true)(hU:∀i,U i->Az (Af H Ae) i)(hk:M0 cx Es (fun e st=>match e with
   |.normal=>st.h r0=.raw l (.loop (Fv fn tm ps Es body D .ready))/\M0 cx body (fun e st=>match e with
    |.normal=>st.h r0=.raw l (.loop (Fv fn tm ps Es body D .busy))/\Q (.v (.bool true)) (Fo σ (Nw (AC st.h r0 (.raw l (.loop (Uy fn tm ps Es body D 0 true)))) cx.pl.fin))
    |.exit id=>st.h r0=.raw l (.loop (Fv fn tm ps Es body D .busy))/\Q (.v (.bool false)) (Fo σ (Nw (AC st.h r0 (.raw l (.loop (Uy fn tm ps Es body D id false)))) cx.pl.fin))
    |.ret=>False) ⟨st.t,AC st.h r0 (.raw l (.loop (Fv fn tm ps Es body D .busy)))⟩
   |_=>False) ⟨gl ps.toList args env,Af H Ae⟩)(hY:∀l σ g w,cx.yp l σ g w:=by exact fun _ _ _ _=>trivial)(pF:L5 [] body=true:=by kernel_rfl) :
  G6 P (fun g w=>∀i,AY g w U (env i) (tm.getD i undef)) l args (Af H Ae) Q:=by
 simp only[Aj]at hσ;intro g w vals hs hv hI GU;have hl:=Ux hI jA;have hE:Iv cx (Af H Ae):=by unfold Iv;rw[hx];exact fun i hi=>⟨(Fa hσ.2 i hi).1,(Fa hσ.2 i hi).2.1⟩
 have xE:∀(t0:Array Value),(ps.zip vals).foldl (fun tmps (p:Nat×Value)=>tmps.setIfInBounds p.1 p.2) t0=(ps.toList.zip vals.toList).foldl (fun t p=>t.setIfInBounds p.1 p.2) t0:=fun t0=>by
  grind [Array.toList_zip]
 have hry:=run_yield (P:=P) (args:=vals) hl (by simp_all);refine⟨fn,_,Es,body,hry,roundIn_of_wpIn trivial ?_⟩;obtain⟨z1,z2⟩:=Ti (U:=Az (Af H Ae)) (ps:=ps.toList) (args:=args) (vals:=vals.toList) (tm:=tm) (env:=env) aa0 tM (fun p hp=>by
  grind [Nat.blt_eq]) (fun i av x e1 e2=>hv i av x e1 (by simp_all)) (fun i=>(GU i).mono (.refl _ _) hU (.refl _ _))
 have hS0:SR N [] w g (Af H Ae) ⟨gl ps.toList args env,Af H Ae⟩ g { tmps:=(ps.zip vals).foldl (fun tmps (p:Nat×Value)=>tmps.setIfInBounds p.1 p.2) tm,defers:=[] } w:=by
  grind [SR.mk,Le.refl]
 refine Kh hP hT hm hE (fun l σ _ _ w _ _ _=>hY l σ _ w) (some l) Es hca (fun e st1 g1 a1 w1 hq aB=>?_) hS0 hk;cases e with
 |exit _=>simp_all
 |ret=>simp_all
 |normal=>
  obtain⟨Za,hq⟩:=hq;refine⟨_,run_beginRound (Ux aB.inv Za) rfl,?_⟩;obtain⟨g2,i2,s2⟩:=Sx aB.inv Za (ob':=.loop (Fv fn tm ps Es body D .busy)) pF;have hS2:SR N [] w g (Af H Ae) ⟨st1.t,AC st1.h r0 (.raw l (.loop (Fv fn tm ps Es body D .busy)))⟩ g2 a1 (w1.putObj l (.loop (Fv fn tm ps Es body D .busy))):=
   ⟨i2,aB.le.trans s2,aB.dfs,aB.size,fun i=>(aB.slots i).le s2⟩
  refine Kh hP hT hm hE (fun l σ _ _ w _ _ _=>hY l σ _ w) (some l) body xw (fun e st3 g3 a3 w3 hq jv=>?_) hS2 hq;cases e with
  |ret=>simp_all
  |normal=>
   obtain⟨x5,hq⟩:=hq;refine⟨.bool true,_,run_endRound none (Ux jv.inv x5),?_⟩;obtain⟨g4,i4,s4⟩:=Sx jv.inv x5 (ob':=.loop (Fv fn tm ps Es body D .ready)) pF;obtain⟨gf,vC,ye⟩:=J3 cx.pl.fin i4;obtain⟨_,j1,j2⟩:=I9 hσ.1 hσ.2 vC ((jv.le.trans s4).trans ye);exact⟨.bool true,.v (.bool true),_,_,rfl,hq,.v _ _,j1,j2⟩
  |exit id=>
   obtain⟨x5,hq⟩:=hq;refine⟨.bool false,_,run_endRound (some (.exit id)) (Ux jv.inv x5),?_⟩;obtain⟨g4,i4,s4⟩:=Sx jv.inv x5 (ob':=.loop (Uy fn tm ps Es body D id false)) pF;obtain⟨gf,vC,ye⟩:=J3 cx.pl.fin i4;obtain⟨_,j1,j2⟩:=I9 hσ.1 hσ.2 vC ((jv.le.trans s4).trans ye);exact⟨.bool false,.v (.bool false),_,_,rfl,hq,.v _ _,j1,j2⟩
theorem gK(r:Nat)(o o' : HO)(H:List (Nat×HO)):AC (Af ((r,o)::H) Ae) r o'=Af ((r,o')::H) Ae:=funext fun i=>by
 show(bif Nat.beq i r then o' else bif Nat.beq i r then o else Af H Ae i)=bif Nat.beq i r then o' else Af H Ae i
 grind
theorem V0(r:Nat)(o:HO)(H:List (Nat×HO)):Af ((r,o)::H) Ae r=o:=by
 grind [Af,Nat.beq_refl]
theorem uw(r0:Nat){PQ s:Nat}{rest:Code}(cx:Cx)(hP:cx.P=P)(hT:BY P cx.T)(hm:P.follows .mixedOrders=true)(hx:cx.ext=true){H0 Hn:List (Nat×HO)}(jA:Af H0 Ae r0=.free)(hσ:∀o,(EU σ&&FJ σ ((r0,o)::H0))=true)(yd:∀o,FJ σ ((r0,o)::Hn)=true){env:Nat->AV}{gf:Nat}{caps:List AV}(hF:env s=.clo gf caps){Qv:AV->Prop}(hIT:∀(l D:Nat) (f' : FuncId) (tm:Array Value),tm.size=N->NA P (fun g w=>∀i,AY g w (Az (Af ((r0,.raw l (.loop (Fv f' tm ps Es body D .ready)))::H0) Ae)) (env i) (tm.getD i undef)) σ gf
   (.v (.func (.yield l) #[] #[])::caps) (Af ((r0,.raw l (.loop (Fv f' tm ps Es body D .ready)))::H0) Ae) fun _ h'=>∃b,h'=Af ((r0,.raw l (.loop (Uy f' tm ps Es body D PQ b)))::Hn) Ae)(hcr:Dr N rest=true)(pF:L5 [] body=true)(V2:∀o,M0 cx rest (bv cx fn.results.toList Qv) ⟨env,Af ((r0,o)::Hn) Ae⟩)(hY:∀l σ g w,cx.yp l σ g w){a:Act}(ha:a.defers=[])(hN:a.tmps.size=N)(hI:Cw w g (Af H0 Ae) (Af H0 Ae) g w)(GU:∀i,AY g w (Az (Af H0 Ae)) (env i) (a.tmps.getD i undef)){R:Ending->World->Prop}(hR:∀v r h' g' w',Qv r->AY g' w' Fs r v->Cw w g (Af H0 Ae) h' g' w'->Le (Af H0 Ae) g w h' g' w'->R (.returned v) w') :
  (Code.block PQ (.rangeFunc (.tmp s) ps Es body)).wpIn (Ia none) 0 P (Exit.then (rest.wpIn (Ia none) 0 P (bodyPostM (Ia none) 0 P fn R)) (bodyPostM (Ia none) 0 P fn R)) a w:=by
 have hσ1:EU σ=true/\∀o,FJ σ ((r0,o)::H0)=true:=⟨(Bool.and_eq_true_iff.1 (hσ .free)).1,fun o=>(Bool.and_eq_true_iff.1 (hσ o)).2⟩;refine wpIn_block (wpIn_rangeFunc fun f' _=>?_);have hs:=GU s;rw[hF]at hs;have YZ:a.eval (.tmp s)=a.tmps.getD s undef:=rfl;generalize hfv:a.tmps.getD s undef=fv at hs YZ;cases hs with
 |clo _ _ _ lb FG KH=>
 obtain⟨i0,s0⟩:=hI.allocS (n0:=w.heap.size) (x:=w.heap.size) (.deferred (some [])) (Ao _);obtain⟨rec,Vi⟩:∃rec,rec=Fv f' a.tmps ps Es body w.heap.size .ready:=⟨_,rfl⟩;have AhJ:(w.alloc (.deferred (some []))).heap.size=w.heap.size+1:=World.size_alloc ..;obtain⟨W1,hW⟩:∃W1,W1=(w.alloc (.deferred (some []))).alloc (.loop rec):=⟨_,rfl⟩;have AcI:W1.heap.size=w.heap.size+2:=by simp_all
 have hl:W1.heap[w.heap.size+1]?=some (.loop rec):=by
  grind [World.alloc_heap_new]
 have hD:W1.heap[w.heap.size]?=some (.deferred (some [])):=by
  grind [heap_alloc_old,World.alloc_heap_new]
 obtain⟨i1,e1⟩:=i0.upd r0 (.raw (w.heap.size+1) (.loop rec)) (.pointer none) (g.ln r0) false (some (w.heap.size+1)) g.S W1 none (by rw[hW];exact⟨rfl,rfl,rfl,by simp_all⟩)
  (fun k hk _=>by grind [heap_alloc_old]) (fun b e=>by cases e) (fun _ _ h=>h) (fun _ _ h=>.inl h) (fun b o e=>by cases e) (fun b _ e=>by simp_all) (fun e=>by cases e) (fun hu=>absurd jA hu) (fun _ _=>by
   obtain⟨_,_,u3,u4⟩:=Bh g r0 (.pointer none) (g.ln r0) false (some (w.heap.size+1)) g.S;exact⟨u3,u4,hl,by rw[Vi];exact pF,fun o hs=>by have:=i0.slt _ _ hs;omega⟩)
 generalize rK:g.upd r0 (.pointer none) (g.ln r0) false (some (w.heap.size+1)) g.S=g2 at i1 e1;have eh1:AC (Af H0 Ae) r0 (.raw (w.heap.size+1) (.loop rec))=Af ((r0,.raw (w.heap.size+1) (.loop rec))::H0) Ae:=rfl;rw[eh1]at i1 e1;have S1:=s0.trans (U7.of_inv i1 e1 aa0);have i2:=i1.base;have Me:∀b ob,W1.heap[b]?=some ob->Vb ob=true->∀r,((Af ((r0,.raw (w.heap.size+1) (.loop rec))::H0) Ae) r).live->g2.own r≠some b:=fun b ob hb hd r hr e=>KR (i2.objs r) hr e hb hd;have hit:=hIT (w.heap.size+1) w.heap.size f' a.tmps hN;rw[<-Vi]at hit
 refine⟨w.heap.size+1,[{ target:=.collected w.heap.size,args:=#[] }],W1,{ target:=.fn (.func gf) lb,args:=#[.func (.yield (w.heap.size+1)) #[] #[]] },W1,gf,
  #[.func (.yield (w.heap.size+1)) #[] #[]]++lb,W1,?_,?_,fun _ _=>trivial,?_,fun e=>(by cases e),?_⟩
 .grind [run_enterLoop_outer]
 .simp only[resolve,YZ];simp[go_sem]
 .simp only[invoke];rw[F5 hit.1]
 refine callsIn_wide.2 ((hit.2 g2 W1 _ (by grind) (fun i av x e1 e2=>?_) i2 (fun h' g' w' q1 q2=>?_)).mono ?_)
 .cases i with
  |zero=>
   simp only[DN,Cm]at e1
   grind [AY.v]
  |succ i=>
   have e2:lb[i]?=some x:=by grind
   exact(KH i av x (by simp_all) e2).le S1.le
 .obtain⟨_,_,j2⟩:=I9 hσ1.1 (hσ1.2 _) q1 q2;exact fun i=>((GU i).le S1.le).mono j2.keeps (fun _ h=>h) j2.gh
 rintro e w2 ⟨v,r,h',g3,rfl,⟨b,rfl⟩,_,q3,q4⟩
 have bK:=Ux q3 (V0 _ _ _);have zp:w2.heap[w.heap.size]?=some (.deferred (some [])):=(q3.frame _ aa0 (Me _ _ hD rfl)).trans hD;have xU:(Uy f' a.tmps ps Es body w.heap.size PQ b).state≠.busy:=by grind
 obtain⟨g4,i4,s4⟩:=Sx q3 (V0 _ _ _) (ob':=.loop { Uy f' a.tmps ps Es body w.heap.size PQ b with state:=.exhausted }) (by cases b<;>exact pF)
 rw[gK]at i4 s4;generalize hex:HO.raw (w.heap.size+1) (.loop { Uy f' a.tmps ps Es body w.heap.size PQ b with state:=.exhausted })=ex at i4 s4;have S4:=S1.trans (U7.of_inv i4 (q4.trans s4) aa0);have Ct:=run_endLoop (P:=P) bK xU;generalize hW4:w2.putObj (w.heap.size+1) (.loop { Uy f' a.tmps ps Es body w.heap.size PQ b with state:=.exhausted })=w4 at i4 s4 S4 Ct;have tg:w4.heap[w.heap.size]?=some (.deferred (some [])):=by grind [World.putObj_heap_other]
 have i5:=i4.base;have hE:Iv cx (Af ((r0,ex)::Hn) Ae):=by unfold Iv;rw[hx];exact fun i hi=>⟨(Fa (yd ex) i hi).1,(Fa (yd ex) i hi).2.1⟩
 have hS4:SR N [{ target:=.collected w.heap.size,args:=#[] }] w4 g4 (Af ((r0,ex)::Hn) Ae) ⟨env,Af ((r0,ex)::Hn) Ae⟩ g4 { a with defers:=[{ target:=.collected w.heap.size,args:=#[] }]++a.defers } w4:=
  ⟨i5,.refl _ _ _,by simp_all,hN,fun i=>(GU i).le S4.le⟩
 have main:rest.wpIn (Ia none) 0 P (bodyPostM (Ia none) 0 P fn R) { a with defers:=[{ target:=.collected w.heap.size,args:=#[] }]++a.defers } w4:=by
  refine Kh hP hT hm hE (fun l σ _ _ w _ _ _=>hY l σ _ w) none rest hcr (fun e uI g5 a5 w5 hq Xt=>?_) hS4 (V2 ex);have fin:iF cx uI fn.results.toList Qv->LeavesInM (Ia none) 0 P fn a5.tmps R a5.defers .returning w5:=by
   intro hk;have wZ:w5.heap[w.heap.size]?=some (.deferred (some [])):=(Xt.inv.frame _ (BZ.1 tg).1 (fun r hr e=>KR (i5.objs r) hr e tg rfl)).trans tg;rw[Xt.dfs];refine⟨by simp,.inl ⟨w.heap.size,_,rfl,run_takeDeferred wZ,?_⟩⟩;obtain⟨i6,s6⟩:=Xt.inv.base.put (n0:=w.heap.size) (x:=w.heap.size) (o':=.deferred none) wZ rfl rfl (.inr rfl);have hS6:SR N [{ target:=.collected w.heap.size,args:=#[] }] (w5.putObj w.heap.size (.deferred none)) g5 uI.h uI g5 a5 (w5.putObj w.heap.size (.deferred none)):=⟨i6,.refl _ _ _,Xt.dfs,Xt.size,fun i=>(Xt.slots i).le s6.le⟩;obtain⟨g7,r,v,h7,k1,k2,k3,k4,k5⟩:=XM hT hS6 hk;have S7:=((S4.trans (U7.of_inv Xt.inv Xt.le (Bl (Ao _) S4.size))).trans s6).trans (U7.of_inv k3 k4 (Bl (Ao _) ((S4.trans (U7.of_inv Xt.inv Xt.le (Bl (Ao _) S4.size))).trans s6).size));exact⟨v,k2,hR v r h7 g7 _ k1 k5 (k3.base.of_seg S7 fun h=>absurd h (Nat.lt_irrefl _)) S7.le⟩
  cases e with
  |normal=>exact fin hq
  |ret=>exact fin hq
  |exit id=>exact hq.elim
 refine⟨_,w4,Ct,?_⟩;cases b with
 |true=>exact main
 |false=>
  refine wpIn_exit ?_;show Exit.inBlock PQ _ (.exit PQ) _ _;simp only[Exit.inBlock,if_true];exact main
def RfB(r0:Nat)(Qh:Cx)(P:Program)(N:Nat)(fn:Func)(res:AV)(b rest:Code)(st:St):Prop:=
 ∃(σF σ:HJ) (H0 Hn:List (Nat×HO)) (PQ s:Nat) (ps:Array Tmp) (Es body:Code) (gf:Nat) (caps:List AV),
  b=.block PQ (.rangeFunc (.tmp s) ps Es body)/\(D7 σF&&DL st.h 0 0&&CI σF 0 0)=true/\Fo σF st.h=Af H0 Ae/\Af H0 Ae r0=.free/\(∀o,(EU σ&&FJ σ ((r0,o)::H0))=true)/\(∀o,FJ σ ((r0,o)::Hn)=true) /\
  ren (Cf σF) st.h (st.t s)=.clo gf caps /\
  (∀(l D:Nat) (f' : FuncId) (tm:Array Value),tm.size=N->NA P (fun g w=>∀i,AY g w (Az (Af ((r0,.raw l (.loop (Fv f' tm ps Es body D .ready)))::H0) Ae)) (ren (Cf σF) st.h (st.t i)) (tm.getD i undef)) σ gf
   (.v (.func (.yield l) #[] #[])::caps) (Af ((r0,.raw l (.loop (Fv f' tm ps Es body D .ready)))::H0) Ae) fun _ h'=>∃b,h'=Af ((r0,.raw l (.loop (Uy f' tm ps Es body D PQ b)))::Hn) Ae) /\
  Dr N rest=true/\L5 [] body=true/\(∀o,M0 Qh rest (bv Qh fn.results.toList fun r=>Ea r res) ⟨fun i=>ren (Cf σF) st.h (st.t i),Af ((r0,o)::Hn) Ae⟩)
theorem iM (r0 : Nat){f : Nat}{c : Code}{args : List AV}{res : AV}(cx Qh : Cx)(hP : cx.P = P)(hT : BY P cx.T)(hP2 : Qh.P = P)(hT2 : BY P Qh.T)(hm : P.follows .mixedOrders = true)(hx : cx.ext = false)(vA : Qh.ext = true)(hf : P.funcs[f]? = some fn)(hn : (fn.name == "runtime.NumGoroutine") = false)(hb:fn.body=some c)(hN:args.length<=fn.ntmps)(hc:Dr fn.ntmps c=true)(n:Nat)(lM:∀g h,ren g h res=res/\strT h res=res)(hk:jQ cx n c (bv cx fn.results.toList fun r=>Ea r res) (RfB r0 Qh P fn.ntmps fn res) ⟨L6 args,Ae⟩)(hY:∀l σ g w,cx.yp l σ g w:=by exact fun _ _ _ _=>trivial)(hY2:∀l σ g w,Qh.yp l σ g w:=by exact fun _ _ _ _=>trivial):LM P f args res:=by
 refine⟨⟨fn,hf,hn,by simp_all⟩,fun g w vals hs hv hI=>callsIn_wide.1 (callsIn_of_wp_marks (F:=Fence.wide) (n:=0) hf hb trivial ?_ rfl)⟩;have hU:Az Ae=Fs:=by grind [Az,Fs,Ae]
 have hS:SR fn.ntmps [] w g Ae ⟨L6 args,Ae⟩ g { tmps:=vals++Array.replicate (fn.ntmps-vals.size) undef,defers:=[] } w:=by
  refine⟨hI,.refl _ _ _,rfl,by simp_all,fun i=>?_⟩
  have:=Mr (n:=fn.ntmps-vals.size) (args:=args) (vals:=vals.toList) aa0 (fun i av x q1 q2=>hv i av x q1 (by simp_all)) i
  grind [Array.getD_eq_getD_getElem?,Array.toList_append,Array.toList_replicate]
 refine dh hP hT hm (by unfold Iv;rw[hx];exact fun _=>rfl) (fun l σ _ _ w _ _ _=>hY l σ _ w) (fun e st g' a w' D8 hk hS=>?_) (fun b rest st g' a w' hk hS=>?_) n c hc hS hk
 .have out:iF cx st fn.results.toList (fun r=>Ea r res)->LeavesInM (Ia none) 0 P fn a.tmps (fun e w'=>∃v r h' g',e=Ending.returned v/\(r=res/\h'=Ae)/\AY g' w' (Az h') r v/\Cw w g Ae h' g' w'/\Le Ae g w h' g' w') a.defers .returning w':=by
   intro hk;obtain⟨g2,r,v,h',q1,q2,q3,q4,q5⟩:=XM hT hS hk;rw[hS.dfs];exact⟨v,q2,v,res,Ae,g2,rfl,⟨rfl,rfl⟩,by rw[hU];exact q1 _ _ _ _ q5,Cw.toFree (st:=⟨st.t,h'⟩) q3,⟨fun i hi=>absurd rfl hi,fun i hi=>absurd rfl hi,q4.keeps⟩⟩
  cases e with
  |normal=>simp_all
  |ret=>exact out hk
  |exit id=>exact hk.elim
 .obtain⟨σF,σ,H0,Hn,PQ,s,ps,Es,body,gf,caps,rfl,k1,k2,k0,k3,k4,k5,k6,k7,k9,k8⟩:=hk;have hσF:D7 σF=true:=by simp_all
  obtain⟨w7,w6⟩:=TB hS.inv hσF;rw[k2]at w6;have GU:∀i,AY (CF σF g') w' (Az (Af H0 Ae)) (ren (Cf σF) st.h (st.t i)) (a.tmps.getD i undef):=fun i=>by
   grind [AY.ren,SR.slots]
  refine Kx (Q:=fun r h'=>r=res) (C:=fun R'=>(∀e Ra,R' e Ra->(∃v r h' g',e=Ending.returned v/\(r=res/\h'=Ae)/\AY g' Ra (Az h') r v/\Cw w g Ae h' g' Ra/\Le Ae g w h' g' Ra)) ->
   (Code.block PQ (.rangeFunc (.tmp s) ps Es body)).wpIn (Ia none) 0 P (Exit.then (rest.wpIn (Ia none) 0 P (bodyPostM (Ia none) 0 P fn (fun e Ra=>∃v r h' g',e=Ending.returned v/\(r=res/\h'=Ae)/\AY g' Ra (Az h') r v/\Cw w g Ae h' g' Ra/\Le Ae g w h' g' Ra))) (bodyPostM (Ia none) 0 P fn (fun e Ra=>∃v r h' g',e=Ending.returned v/\(r=res/\h'=Ae)/\AY g' Ra (Az h') r v/\Cw w g Ae h' g' Ra/\Le Ae g w h' g' Ra))) a w')
   (fun h k h2=>h fun e w r=>h2 _ _ (k _ _ r)) hS.inv (d:=0) (nn:=0) k1 (fun _ Y8=>?_) (fun v r h' g2 w2 q1 q2 q3 q4=>?_) (fun _ _ h=>h)
  .rw[k2]at Y8;exact uw r0 Qh hP2 hT2 hm vA k0 k3 k4 k5 k6 k7 k9 k8 hY2 hS.dfs hS.size w6 GU fun v r h' g5 w5 q1 q2 q3 q4=>Y8 _ _ ⟨v,res,h',g5,rfl,rfl,(q1 _ _ _ _ q2).up _,q3,q4⟩
  .subst q1;rw[(lM _ _).1]at q4;have q5:=AY.strT q2.objs q4;rw[(lM (fun _=>none) _).2]at q5;exact⟨v,r,Ae,g2,rfl,⟨rfl,rfl⟩,by simp_all,Cw.toFree (st:=⟨st.t,_⟩) q2,⟨fun i hi=>absurd rfl hi,fun i hi=>absurd rfl hi,(hS.le.trans q3).keeps⟩⟩
theorem m5{H:List (Nat×HO)}(hσ:(EU σ&&FJ σ H)=true){U:Nat->Prop}(hU:∀i,U i->Az (Af H Ae) i){env:Nat->AV} :
  ∀g w h' g' w',Cw w g (Af H Ae) (Af H Ae) g w->Cw w g (Af H Ae) h' g' w'->Le (Af H Ae) g w h' g' w' ->
   (∀i,AY g w U (env i) (tm.getD i undef))->∀i,AY (CF σ g') w' U (env i) (tm.getD i undef):=by
 intro g w h' g' w' _ q1 q2 GU;simp only[Aj]at hσ;obtain⟨_,_,j2⟩:=I9 hσ.1 hσ.2 q1 q2;exact fun i=>(GU i).mono j2.keeps (fun _ h=>h) fun r hr=>j2.gh r (hU r hr)
end
end Go.Eng
