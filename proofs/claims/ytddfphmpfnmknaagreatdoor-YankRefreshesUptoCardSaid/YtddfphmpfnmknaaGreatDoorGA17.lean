/- Lemmas for the claims of this seat, without a condition: part 17 (EngZQ, EngZS, EngZT, EngZU, EngZV, EngZW, EngZX). -/
import Derived.Test.YtddfphmpfnmknaaGreatDoorGA16
namespace Go.Eng
variable {ps:Array Tmp}{fn:Func}{σ:JO}{Hh body:Code}(cx:Cx)
def nC(cx:Cx):Nat→Code→(Ex→St→Prop)→(Code→Code→St→Prop)→St→Prop
 |0,.seq (.seq a b) d,Q,K,st=>Re cx a (fun e EA=>match e with |.normal=>K b d EA |e=>Q e EA) st
 |0,.seq b d,_,K,st=>K b d st
 |n+1,.seq a b,Q,K,st=>Re cx a (fun e EA=>match e with |.normal=>nC cx n b Q K EA |e=>Q e EA) st
 |_,_,_,_,_=>False
section
variable {P:Program}{N:Nat}{ds:List Deferred}{w0:World}{g0:Gh}{h0:Nat→HO}{st:St}{g:Gh}{a:Act}{w:World}
theorem nD{cx:Cx}(hP:cx.P=P)(hT:CL P cx.T)(hm:P.follows .mixedOrders=true)(hE:Mj cx h0)(hY:∀l σ h g w,EK σ=true→DV w0 g0 h0 h g w→Le h0 g0 w0 h g w→cx.yp l σ (DK σ g) w)
  {Qa:Ex→St→Prop} {K:Code→Code→St→Prop} {Q:Exit→Act→World→Prop} (hQ:∀e st g a w,e≠.normal→Qa e st→SR N ds w0 g0 h0 st g a w→Q e.real a w)
  (hK:∀b d st g a w,K b d st→SR N ds w0 g0 h0 st g a w→b.wpIn (KA none) 0 P (Exit.then (d.wpIn (KA none) 0 P Q) Q) a w) :
  ∀(n:Nat) (c:Code),ES N c=true→∀{st:St} {g:Gh} {a:Act} {w:World},SR N ds w0 g0 h0 st g a w→nC cx n c Qa K st→c.wpIn (KA none) 0 P Q a w:=by
 intro n
 induction n with
 |zero =>
  intro c hc st g a w hS hk;cases c with
  |seq y d =>
   simp only[ES,Ai]at hc;cases y with
   |seq x b =>
    have hk:Re cx x (fun e EA=>match e with | .normal=>K b d EA | e=>Qa e EA) st:=hk;simp only[ES,Ai]at hc;refine wpIn_seq (wpIn_seq (OA hP hT hm hE hY none x hc.1.1 (Qa:=fun e EA=>match e with | .normal=>K b d EA | e=>Qa e EA) (fun e st g a w q hS=>?_) hS hk));cases e with
    |normal=>exact hK b d _ _ _ _ q hS
    |exit id=>exact hQ (.exit id) _ _ _ _ (fun e=>by cases e) q hS
    |ret=>exact hQ .ret _ _ _ _ (fun e=>by cases e) q hS
   |_=>exact wpIn_seq (hK _ d _ _ _ _ hk hS)
  |_=>exact hk.elim
 |succ n ih =>
  intro c hc st g a w hS hk;cases c with
  |seq x y =>
   simp only[ES,Ai]at hc;refine wpIn_seq (OA hP hT hm hE hY none x hc.1 (Qa:=fun e EA=>match e with | .normal=>nC cx n y Qa K EA | e=>Qa e EA) (fun e st g a w q hS=>?_) hS hk);cases e with
   |normal=>exact ih y hc.2 hS q
   |exit id=>exact hQ (.exit id) _ _ _ _ (fun e=>by cases e) q hS
   |ret=>exact hQ .ret _ _ _ _ (fun e=>by cases e) q hS
  |_=>exact hk.elim
end
section
variable {P:Program}{N:Nat}{ds:List Deferred}{w0:World}{g0:Gh}{h0:Nat→HO}{st:St}{g:Gh}{a:Act}{w:World}
theorem SR.rebase{w1:World}{g1:Gh}{h1:Nat→HO}(hS:SR N ds w0 g0 h0 st g a w)(hI:DV w1 g1 h1 st.h g w)(hL:Le h1 g1 w1 st.h g w):SR N ds w1 g1 h1 st g a w:=⟨hI,hL,hS.dfs,hS.size,hS.slots⟩
theorem eD{cx:Cx}(hT:CL P cx.T){H0:List (Nat×HO)}(hσ:Hm σ=true)(qz:Ji σ H0=true){Q:AV→(Nat→HO)→Prop}(hS:SR N ds w0 g0 (Ak H0 Af) st g a w)(hk:ip cx st fn.results.toList σ Q) :
  ∃v,(results fn a.tmps).run P w=.ok v w∧∃r h' g',Q r h'∧BP g' w (AT h') r v∧DV w0 g0 (Ak H0 Af) h' g' w∧Le (Ak H0 Af) g0 w0 h' g' w:=by
 obtain⟨g2,i1,i2⟩:=NE cx.pl.fin hS.inv;have Ut : SR N ds w0 g0 (Ak H0 Af) ⟨st.t,Qc st.h cx.pl.fin⟩ g2 a w:=⟨i1,hS.le.trans i2,hS.dfs,hS.size,fun i=>(hS.slots i).le i2⟩;obtain⟨l,vs,h1,h2,h3,h4,h5⟩:=TB hT Ut _ hk;obtain⟨hR,j1,j2⟩:=PQ hσ qz i1 Ut.le;have Da:(results fn a.tmps).run P w=.ok (if h:vs.toArray.size=1 then vs.toArray[0]else .tuple vs.toArray) w:=by
  rw[Pd,show fn.results=fn.results.toList.toArray by simp,List.mapM_toArray];simp only[Sem.run_bind,Sem.run_map,h2,Result.andThen_ok,Sem.run_pure]
 match l,vs,h1,h3,h5,Da with
 | [v],[x],h1,h3,h5,Da=>exact⟨x,by simpa using Da,_,_,_,h1,(h5 0 v x rfl rfl).ren hR,j1,j2⟩
 | [],vs,h1,h3,h5,Da =>
  have:vs=[]:=AK h3
  subst this;exact⟨.tuple #[],by simpa using Da,_,_,_,h1,BP.ren hR (.tup _ [] _ rfl fun i av x q=>by simp at q),j1,j2⟩
 |v::v' :: l,vs,h1,h3,h5,Da =>
  refine⟨.tuple vs.toArray,?_,_,_,_,h1,BP.ren hR (.tup _ _ _ (by simpa using h3) fun i av x q1 q2=>h5 i av x q1 (by simpa using q2)),j1,j2⟩;rw[Da]
  have:vs.toArray.size≠1:=by simp[h3]
  simp only[this,dif_neg,not_false_eq_true]
theorem s8{qc s:Nat}{rest:Code}(hP:cx.P=P)(hT:CL P cx.T)(hm:P.follows .mixedOrders=true)(hx:cx.ext=true){H0 Hn:List (Nat×HO)}(hσ:(Hm σ&&Ji σ H0)=true)(hσn:Ji σ Hn=true){env:Nat→AV}{gf:Nat}{caps:List AV}(hF:env s=.clo gf caps){Qv:AV→(Nat→HO)→Prop}(hIT:∀(l D:Nat) (f' : FuncId) (tm:Array Value),tm.size=N→YT P (fun g w=>w.heap[l]?=some (.loop (IL f' tm ps Hh body D .ready))∧∀i,BP g w (AT (Ak H0 Af)) (env i) (tm.getD i undef)) σ gf
   (.v (.func (.yield l) #[] #[])::caps) (Ak H0 Af) fun _ h'=>h'=Ak Hn Af)(hcr:ES N rest=true)(hbk:PD [] body=false)(wo:Re cx rest (Zi cx fn.results.toList σ Qv) ⟨env,Ak Hn Af⟩)(hY:∀l σ g w,cx.yp l σ g w){a:Act}(ha:a.defers=[])(hN:a.tmps.size=N)(hI:DV w g (Ak H0 Af) (Ak H0 Af) g w)(OP:∀i,BP g w (AT (Ak H0 Af)) (env i) (a.tmps.getD i undef)){R:Ending→World→Prop}(hR:∀v r h' g' w',Qv r h'→BP g' w' (AT h') r v→DV w g (Ak H0 Af) h' g' w'→Le (Ak H0 Af) g w h' g' w'→R (.returned v) w') :
  (Code.block qc (.rangeFunc (.tmp s) ps Hh body)).wpIn (KA none) 0 P (Exit.then (rest.wpIn (KA none) 0 P (bodyPostM (KA none) 0 P fn R)) (bodyPostM (KA none) 0 P fn R)) a w:=by
 simp only[Ai]at hσ;have hdl:∀f' tm D s,X0 (.loop (IL f' tm ps Hh body D s))=true:=fun _ _ _ _=>by show(!PD [] body)=true;rw[hbk];rfl
 refine wpIn_block (wpIn_rangeFunc fun f' _=>?_);have hs:=OP s;rw[hF]at hs;have qn:a.eval (.tmp s)=a.tmps.getD s undef:=rfl;generalize hfv:a.tmps.getD s undef=fv at hs qn;cases hs with
 |clo _ _ _ lb Ev Qg =>
 obtain⟨i0,s0⟩:=hI.allocS (n0:=w.heap.size) (x:=w.heap.size) (.deferred (some [])) (Ao _);obtain⟨i1,s1⟩:=i0.allocS (n0:=w.heap.size) (x:=w.heap.size) (.loop (IL f' a.tmps ps Hh body w.heap.size .ready)) (by rw[World.size_alloc];omega);generalize hW:(w.alloc (.deferred (some []))).alloc (.loop (IL f' a.tmps ps Hh body w.heap.size .ready))=W1 at i1 s1;have Afs:W1.heap.size=w.heap.size+2:=by rw[←hW,World.size_alloc,World.size_alloc]
 have hl:W1.heap[w.heap.size+1]?=some (.loop (IL f' a.tmps ps Hh body w.heap.size .ready)):=by
  rw[←hW]
  have:=World.alloc_heap_new (w.alloc (.deferred (some []))) (.loop (IL f' a.tmps ps Hh body w.heap.size .ready))
  rwa [World.size_alloc]at this
 have hD:W1.heap[w.heap.size]?=some (.deferred (some [])):=by
  rw[←hW,heap_alloc_old _ _ (by rw[World.size_alloc];omega)];exact World.alloc_heap_new w _
 have Tb:∀b ob,W1.heap[b]?=some ob→X0 ob=true→∀r,((Ak H0 Af) r).live→g.own r≠some b:=fun b ob hb hd r hr e=>Qw (i1.objs r) hr e hb hd;have S1:=s0.trans s1;have hit:=hIT (w.heap.size+1) w.heap.size f' a.tmps hN
 refine⟨w.heap.size+1,[{ target:=.collected w.heap.size,args:=#[] }],W1,{ target:=.fn (.func gf) lb,args:=#[.func (.yield (w.heap.size+1)) #[] #[]] },W1,gf,
  #[.func (.yield (w.heap.size+1)) #[] #[]]++lb,W1,?_,?_,fun _ _=>trivial,?_,fun e=>(by cases e),?_⟩
 ·rw[←hW];exact run_enterLoop_outer _ _ _ _ _
 ·simp only[resolve,qn];simp[go_sem]
 ·simp only[invoke];rw[Hc hit.1]
 refine callsIn_wide.2 ((hit.2 g W1 _ (by simp[Ev];omega) (fun i av x e1 e2=>?_) i1 (fun h' g' w' q1 q2=>?_)).mono ?_)
 ·cases i with
  |zero =>
   simp only[A9,Bq]at e1;rw[IJ]at e2
   have:x=.func (.yield (w.heap.size+1)) #[] #[]:=(Cr e2).symm
   subst e1;subst this;exact .v _ _
  |succ i =>
   have e2:lb[i]?=some x:=by rw[←e2,IJ];simp
   exact(Qg i av x (by simpa using e1) e2).le S1.le
 ·obtain⟨_,_,j2⟩:=PQ hσ.1 hσ.2 q1 q2;refine⟨(q1.frame _ ch (Tb _ _ hl (hdl _ _ _ _))).trans hl,fun i=>?_⟩;exact((OP i).le S1.le).mono j2.keeps (fun _ h=>h) j2.gh
 rintro e w2 ⟨v,r,h',g2,rfl,rfl,_,q3,q4⟩
 have gA:w2.heap[w.heap.size+1]?=some (.loop (IL f' a.tmps ps Hh body w.heap.size .ready)):=(q3.frame _ ch (Tb _ _ hl (hdl _ _ _ _))).trans hl;have hD2:w2.heap[w.heap.size]?=some (.deferred (some [])):=(q3.frame _ ch (Tb _ _ hD rfl)).trans hD;refine⟨none,_,run_endLoop gA (fun e=>by cases e),?_⟩;obtain⟨i4,s4⟩:=q3.base.put (n0:=w.heap.size) (x:=w.heap.size) (o':=.loop { IL f' a.tmps ps Hh body w.heap.size .ready with state:=.exhausted }) gA (hdl _ _ _ _) (hdl f' a.tmps w.heap.size .exhausted) (.inl ch);have S4:=(S1.trans (dt.of_inv q3 q4 ch)).trans s4;generalize hW4:w2.putObj (w.heap.size+1) (.loop { IL f' a.tmps ps Hh body w.heap.size .ready with state:=.exhausted })=w4 at i4 s4 S4;have hD4:w4.heap[w.heap.size]?=some (.deferred (some [])):=by rw[←hW4,World.putObj_heap_other ch];exact hD2
 have hE:Mj cx (Ak Hn Af):=by unfold Mj;rw[hx];exact fun i hi=>⟨(GY hσn i hi).1,(GY hσn i hi).2.1⟩
 have hS4:SR N [{ target:=.collected w.heap.size,args:=#[] }] w4 g2 (Ak Hn Af) ⟨env,Ak Hn Af⟩ g2 { a with defers:=[{ target:=.collected w.heap.size,args:=#[] }]++a.defers } w4 :=
  ⟨i4,.refl _ _ _,by simp[ha],hN,fun i=>(OP i).le S4.le⟩
 refine OA hP hT hm hE (fun l σ _ _ w _ _ _=>hY l σ _ w) none rest hcr (fun e st5 g5 a5 w5 hq qk=>?_) hS4 wo;have fin:ip cx st5 fn.results.toList σ Qv→LeavesInM (KA none) 0 P fn a5.tmps R a5.defers .returning w5:=by
  intro hk;have hD5:w5.heap[w.heap.size]?=some (.deferred (some [])):=(qk.inv.frame _ (Bw.1 hD4).1 (fun r hr e=>Qw (i4.objs r) hr e hD4 rfl)).trans hD4;rw[qk.dfs];refine⟨by simp,.inl ⟨w.heap.size,_,rfl,run_takeDeferred hD5,?_⟩⟩;obtain⟨i6,s6⟩:=qk.inv.base.put (n0:=w.heap.size) (x:=w.heap.size) (o':=.deferred none) hD5 rfl rfl (.inr rfl);have hS6:SR N [{ target:=.collected w.heap.size,args:=#[] }] (w5.putObj w.heap.size (.deferred none)) g5 st5.h st5 g5 a5 (w5.putObj w.heap.size (.deferred none)):=⟨i6,.refl _ _ _,qk.dfs,qk.size,fun i=>(qk.slots i).le s6.le⟩;have S6:=(S4.trans (dt.of_inv qk.inv qk.le (Bf (Ao _) S4.size))).trans s6;obtain⟨v,k2,r,h7,g7,k1,k5,k3,k4⟩:=eD (H0:=H0) hT hσ.1 hσ.2 (SR.rebase hS6 (i6.of_seg S6 fun h=>absurd h (Nat.lt_irrefl _)) S6.le) hk;exact⟨v,k2,hR v r h7 g7 _ k1 k5 k3 k4⟩
 cases e with
 |normal=>exact fin hq
 |ret=>exact fin hq
 |exit id=>exact hq.elim
end
section
variable {P:Program}{N:Nat}{w:World}{g:Gh}
theorem iT(o k r:Nat){H:List (Nat×HO)}(cx:Cx)(hP:cx.P=P)(hT:CL P cx.T)(hm:P.follows .mixedOrders=true)(hx:cx.ext=true)(hσ:(Hm σ&&Ji σ H)=true){fn:FuncId}{tm:Array Value}{D l:Nat}{env:Nat→AV}{args:List AV}{U:Nat→Prop}{Q:AV→(Nat→HO)→Prop}(hps:args.length=ps.toList.length)(hN:tm.size=N)(hpN:(ps.toList.all fun p=>Nat.blt p N)=true)(hca:ES N Hh=true)(hcb:ES N body=true)(hU:∀i,U i→AT (Ak H Af) i)(hk:Re cx Hh (fun e st=>match e with | .normal=>Re cx body (fun e st=>match e with | .normal=>yA st.h o k r fun h'=>Q (.v (.bool true)) (F4 σ (Qc h' cx.pl.fin)) | _=>False) st | _=>False) ⟨nV ps.toList args env,Ak H Af⟩)(hY:∀l σ g w,cx.yp l σ g w:=by exact fun _ _ _ _=>trivial)(hbk:PD [] body=false:=by kernel_rfl) :
  JH P (fun g w=>w.heap[l]?=some (.loop (IL fn tm ps Hh body D .ready))∧∀i,BP g w U (env i) (tm.getD i undef)) l args (Ak H Af) Q:=by
 simp only[Ai]at hσ;intro g w vals hs hv hI ⟨hl,OP⟩;have DJ:l<w.heap.size:=(Bw.1 hl).1;have hdl:∀s,X0 (.loop (IL fn tm ps Hh body D s))=true:=fun s=>by show(!PD [] body)=true;rw[hbk];rfl
 have hE:Mj cx (Ak H Af):=by unfold Mj;rw[hx];exact fun i hi=>⟨(GY hσ.2 i hi).1,(GY hσ.2 i hi).2.1⟩
 have Tb:∀r,((Ak H Af) r).live→g.own r≠some l:=fun r hr e=>Qw (hI.objs r) hr e hl (hdl _);have qo:∀(t0:Array Value),(ps.zip vals).foldl (fun tmps (p:Nat×Value)=>tmps.setIfInBounds p.1 p.2) t0=(ps.toList.zip vals.toList).foldl (fun t p=>t.setIfInBounds p.1 p.2) t0:=fun t0=>by
  rw[←Array.foldl_toList,Array.toList_zip]
 have hry:=run_yield (P:=P) (args:=vals) hl (by simp only[hs,hps,B9]);refine⟨fn,_,Hh,body,hry,roundIn_of_wpIn trivial ?_⟩;obtain⟨z1,z2⟩:=Zl (U:=AT (Ak H Af)) (ps:=ps.toList) (args:=args) (vals:=vals.toList) (tm:=tm) (env:=env) (by simpa using hs) hps (fun p hp=>by
  have:=(AZ.1 hpN) p hp
  rw[hN];simpa using this) (fun i av x e1 e2=>hv i av x e1 (by simpa using e2)) (fun i=>(OP i).mono (.refl _ _) hU (.refl _ _))
 have hS0:SR N [] w g (Ak H Af) ⟨nV ps.toList args env,Ak H Af⟩ g { tmps:=(ps.zip vals).foldl (fun tmps (p:Nat×Value)=>tmps.setIfInBounds p.1 p.2) tm,defers:=[] } w:=by
  refine⟨hI,.refl _ _ _,rfl,?_,fun i=>?_⟩
  ·rw[qo];exact z1.trans hN
  ·rw[qo];exact z2 i
 refine OA hP hT hm hE (fun l σ _ _ w _ _ _=>hY l σ _ w) (some l) Hh hca (fun e st1 g1 a1 w1 hq kz=>?_) hS0 hk;cases e with
 |exit _=>exact hq.elim
 |ret=>exact hq.elim
 |normal =>
  have x9:w1.heap[l]?=some (.loop (IL fn tm ps Hh body D .ready)):=(kz.inv.frame l DJ Tb).trans hl;refine⟨_,run_beginRound x9 rfl,?_⟩;obtain⟨iS,sS⟩:=hI.put (n0:=w.heap.size) (x:=l) (o':=.loop (IL fn tm ps Hh body D .busy)) hl (hdl _) (hdl _) (.inr rfl);have hlS:(w.putObj l (.loop (IL fn tm ps Hh body D .busy))).heap[l]?=some (.loop (IL fn tm ps Hh body D .busy)):=World.putObj_heap_same DJ;have oH:(w.putObj l (.loop (IL fn tm ps Hh body D .busy))).heap.size=w.heap.size:=by simp[World.putObj]
  obtain⟨_,sB⟩:=iS.dullS (w':=w) (n0:=w.heap.size) (x:=l) ⟨rfl,rfl,rfl⟩ (by rw[oH];exact Ao _) (fun b _=>by
   by_cases e:b=l
   ·subst e;exact .inr ⟨_,_,hlS,hl,hdl _,hdl _⟩
   ·exact .inl (World.putObj_heap_other e).symm) (fun b _ DM=>(World.putObj_heap_other DM).symm)
  obtain⟨i2,s2⟩:=kz.inv.base.put (n0:=w.heap.size) (x:=l) (o':=.loop (IL fn tm ps Hh body D .busy)) x9 (hdl _) (hdl _) (.inr rfl);have S2:=(sB.trans (dt.of_inv kz.inv kz.le (Ao _))).trans s2;have gA:(w1.putObj l (.loop (IL fn tm ps Hh body D .busy))).heap[l]?=some (.loop (IL fn tm ps Hh body D .busy)):=World.putObj_heap_same (Bw.1 x9).1;have hI2:=i2.of_seg (by rw[oH];exact S2) (fun _=>gA.trans hlS.symm);have hS2:SR N [] (w.putObj l (.loop (IL fn tm ps Hh body D .busy))) g (Ak H Af) st1 g1 a1 (w1.putObj l (.loop (IL fn tm ps Hh body D .busy))):=⟨hI2,S2.le,kz.dfs,kz.size,fun i=>(kz.slots i).le s2.le⟩;refine OA hP hT hm hE (fun l σ _ _ w _ _ _=>hY l σ _ w) (some l) body hcb (fun e st3 g3 a3 w3 hq ve=>?_) hS2 hq;cases e with
  |exit _=>exact hq.elim
  |ret=>exact hq.elim
  |normal =>
   obtain⟨h3,g3',ve,hq⟩:=mn ve hq;have vU:w3.heap[l]?=some (.loop (IL fn tm ps Hh body D .busy)):=(ve.inv.frame l (by rw[oH];exact DJ) Tb).trans hlS;refine⟨.bool true,w3.putObj l (.loop (IL fn tm ps Hh body D .ready)),run_endRound none vU,?_⟩;obtain⟨gf,if1,if2⟩:=NE cx.pl.fin ve.inv;obtain⟨i4,s4⟩:=if1.base.put (n0:=w.heap.size) (x:=l) (o':=.loop (IL fn tm ps Hh body D .ready)) vU (hdl _) (hdl _) (.inr rfl);have S4:=(sS.trans (dt.of_inv if1 (ve.le.trans if2) (by rw[oH];exact Ao _))).trans s4;have hl4:(w3.putObj l (.loop (IL fn tm ps Hh body D .ready))).heap[l]?=some (.loop (IL fn tm ps Hh body D .ready)):=World.putObj_heap_same (Bw.1 vU).1;have hI4:=i4.of_seg S4 (fun _=>hl4.trans hl.symm);obtain⟨_,j1,j2⟩:=PQ hσ.1 hσ.2 hI4 S4.le;exact⟨.bool true,.v (.bool true),_,_,rfl,hq,.v _ _,j1,j2⟩
end
def ue(h:Nat→HO)(o k r sz:Nat)(K:(Nat→HO)→Prop):Prop :=
 match h o with
 |.cells cs=>match JV cs k with
  |.v (.slice none 0 0)=>match h r with
   |.free=>K (A0 (A0 h r (.var sz 0 0)) o (.cells (E1 cs k (.slice (.ver r sz 0) []))))
   |_=>False
  |_=>False
 |_=>False
section
variable {P:Program}{N:Nat}{ds:List Deferred}{w0:World}{g0:Gh}{h0:Nat→HO}{st:St}{g:Gh}{a:Act}{w:World}
theorem sM(hS:SR N ds w0 g0 h0 st g a w){o k r sz:Nat}{K:(Nat→HO)→Prop}(hk:ue st.h o k r sz K):∃h' g',SR N ds w0 g0 h0 ⟨st.t,h'⟩ g' a w∧K h':=by
 unfold ue at hk;split at hk
 ·rename_i cs e0;split at hk
  ·rename_i e1;split at hk
   ·rename_i hf;have m7:o≠r:=fun e=>by rw[e,hf]at e0;cases e0
    have QW:=J4 cs k _ e1 B0
    obtain⟨m1,m2⟩:=hS.inv.upd r (.var sz 0 0) (.slice none 0 0) 0 true none g.S w none ⟨rfl,rfl,rfl,Ao _⟩ (fun _ _ _=>rfl) (fun b e=>by cases e) (fun _ _ h=>h) (fun _ _ h=>.inl h) (fun b o e=>by cases e) (fun b hh e=>by first | (cases e;done) | (exact absurd hh.2 B0)) B0
     (fun hu=>absurd hf hu) (fun _ _=>by
      obtain⟨u1,u2,u3,u4⟩:=BG g r (.slice none 0 0) 0 true none g.S;exact⟨u3,u2,none,0,u1,.inl ⟨rfl,u4⟩⟩)
    generalize Ts:g.upd r (.slice none 0 0) 0 true none g.S=g1 at m1 m2;have gr:g1.tk r=true∧g1.ln r=0∧g1.ρ r=.slice none 0 0:=by rw[←Ts];simp[Gh.upd]
    have rG : (A0 st.h r (.var sz 0 0)) o=.cells cs:=by rw[B7 _ _ _ _ m7,e0]
    obtain⟨g3,p1,p2⟩:=PE m1 rG QW (new:=.slice (.ver r sz 0) []) (fun y hy=>by
     cases hy
     exact .ver _ r sz 0 [] _ (.snil _ _ _) (fun c hc=>by cases hc) (by unfold AT;rw[Bg];simp) gr.1 (AA _) (fun _=>gr.2.2.symm))
    exact⟨_,g3,⟨p1,hS.le.trans (m2.trans p2),hS.dfs,hS.size,fun i=>(hS.slots i).le (m2.trans p2)⟩,hk⟩
   ·exact hk.elim
  ·exact hk.elim
 ·exact hk.elim
def yL(o k r sz:Nat)(fT:Cx)(P:Program)(N:Nat)(fn:Func)(σ:JO)(Q:AV→(Nat→HO)→Prop)(b rest:Code)(st:St):Prop :=
 ue st.h o k r sz fun h1 =>
  ∃(σF σr:JO) (H0 Hn:List (Nat×HO)) (qc s:Nat) (ps:Array Tmp) (Hh body:Code) (gf:Nat) (caps:List AV),
  b=.block qc (.rangeFunc (.tmp s) ps Hh body)∧(EK σF&&DR h1 0 0&&DD σF 0 0)=true∧F4 σF h1=Ak H0 Af∧(Hm σr&&Ji σr H0)=true∧Ji σr Hn=true ∧
  ren (CC σF) h1 (st.t s)=.clo gf caps ∧
  (∀(l D:Nat) (f' : FuncId) (tm:Array Value),tm.size=N→YT P (fun g w=>w.heap[l]?=some (.loop (IL f' tm ps Hh body D .ready))∧∀i,BP g w (AT (Ak H0 Af)) (ren (CC σF) h1 (st.t i)) (tm.getD i undef)) σr gf
   (.v (.func (.yield l) #[] #[])::caps) (Ak H0 Af) fun _ h'=>h'=Ak Hn Af) ∧
  ES N rest=true∧PD [] body=false∧Re fT rest (Zi fT fn.results.toList σr fun r h'=>Q (ren (CC σ) (Eu σF 0 0 h1 h') (ren (FC σF 0 0) h' r)) (F4 σ (Eu σF 0 0 h1 h')))
   ⟨fun i=>ren (CC σF) h1 (st.t i),Ak Hn Af⟩
theorem fu (o k r sz : Nat){f : Nat}{c : Code}{args : List AV}{H : List (Nat × HO)}{Q : AV → (Nat → HO) → Prop}(cx fT : Cx)(σ : JO)(hP : cx.P = P)(hT : CL P cx.T)(hP2 : fT.P = P)(hT2 : CL P fT.T)(hm : P.follows .mixedOrders = true)(hx : cx.ext = true)(t8 : fT.ext = true)(hf : P.funcs[f]? = some fn)(hn : (fn.name == "runtime.NumGoroutine") = false)(hb:fn.body=some c)(hN:args.length≤fn.ntmps)(hc:ES fn.ntmps c=true)(hσ:(Hm σ&&Ji σ H)=true)(n:Nat)(hk:nC cx n c (Zi cx fn.results.toList σ fun r h'=>∃r',GF r r'∧Q r' h') (yL o k r sz fT P fn.ntmps fn σ fun r h'=>∃r',GF r r'∧Q r' h') ⟨PN args,Ak H Af⟩)(hY:∀l σ g w,cx.yp l σ g w:=by exact fun _ _ _ _=>trivial)(hY2:∀l σ g w,fT.yp l σ g w:=by exact fun _ _ _ _=>trivial):A1 P f args (Ak H Af) Q:=by
 refine A1.mono (Q:=fun r h'=>∃r',GF r r'∧Q r' h') ?_ fun _ _ ⟨r',s,q⟩=>⟨r',s,q⟩;simp only[Ai]at hσ;refine⟨⟨fn,hf,hn,by simp[hb]⟩,fun g w vals hs hv hI=>callsIn_wide.1 (callsIn_of_wp_marks (F:=Fence.wide) (n:=0) hf hb trivial ?_ rfl)⟩;have hE:Mj cx (Ak H Af):=by unfold Mj;rw[hx];exact fun i hi=>⟨(GY hσ.2 i hi).1,(GY hσ.2 i hi).2.1⟩
 have hS:SR fn.ntmps [] w g (Ak H Af) ⟨PN args,Ak H Af⟩ g { tmps:=vals++Array.replicate (fn.ntmps-vals.size) undef,defers:=[] } w:=by
  refine⟨hI,.refl _ _ _,rfl,by simp[hs];omega,fun i=>?_⟩
  have:=PO (n:=fn.ntmps-vals.size) (args:=args) (vals:=vals.toList) (by simpa using hs) (fun i av x q1 q2=>hv i av x q1 (by simpa using q2)) i
  rw[CD,←AQ];rw[B6]at this;simpa using this
 refine nD hP hT hm hE (fun l σ _ _ w _ _ _=>hY l σ _ w) (fun e st g' a w' DM hk hS=>?_) (fun b rest st g' a w' hk hS=>?_) n c hc hS hk
 ·have out:ip cx st fn.results.toList σ (fun r h'=>∃r',GF r r'∧Q r' h')→LeavesInM (KA none) 0 P fn a.tmps (fun e w'=>∃v r h' g',e=Ending.returned v∧(∃r',GF r r'∧Q r' h')∧BP g' w' (AT h') r v∧DV w g (Ak H Af) h' g' w'∧Le (Ak H Af) g w h' g' w') a.defers .returning w':=by
   intro hk;obtain⟨v,q2,r,h',g2,q1,q3,q4,q5⟩:=eD hT hσ.1 hσ.2 hS hk;rw[hS.dfs];exact⟨v,q2,v,r,h',g2,rfl,q1,q3,q4,q5⟩
  cases e with
  |normal=>exact absurd rfl DM
  |ret=>exact out hk
  |exit id=>exact hk.elim
 ·obtain⟨h1,g',hS,hk⟩:=sM hS hk;obtain⟨σF,σr,H0,Hn,qc,s,ps,Hh,body,gf,caps,rfl,k1,k2,k3,k4,k5,k6,k7,k9,k8⟩:=hk;have hσF:EK σF=true:=by simp only[Ai]at k1;exact k1.1.1
  obtain⟨Aa8,xT⟩:=Yb hS.inv hσF;rw[k2]at xT;have OP:∀i,BP (DK σF g') w' (AT (Ak H0 Af)) (ren (CC σF) h1 (st.t i)) (a.tmps.getD i undef):=fun i=>by
   have:=(hS.slots i).ren Aa8
   rwa [k2]at this
  refine Ny (Q:=fun r h'=>∃r',GF (ren (CC σ) (Eu σF 0 0 h1 h') (ren (FC σF 0 0) h' r)) r'∧Q r' (F4 σ (Eu σF 0 0 h1 h'))) (C:=fun R'=>(∀e fm,R' e fm→(∃v r h' g',e=Ending.returned v∧(∃r',GF r r'∧Q r' h')∧BP g' fm (AT h') r v∧DV w g (Ak H Af) h' g' fm∧Le (Ak H Af) g w h' g' fm)) →
   (Code.block qc (.rangeFunc (.tmp s) ps Hh body)).wpIn (KA none) 0 P (Exit.then (rest.wpIn (KA none) 0 P (bodyPostM (KA none) 0 P fn (fun e fm=>∃v r h' g',e=Ending.returned v∧(∃r',GF r r'∧Q r' h')∧BP g' fm (AT h') r v∧DV w g (Ak H Af) h' g' fm∧Le (Ak H Af) g w h' g' fm))) (bodyPostM (KA none) 0 P fn (fun e fm=>∃v r h' g',e=Ending.returned v∧(∃r',GF r r'∧Q r' h')∧BP g' fm (AT h') r v∧DV w g (Ak H Af) h' g' fm∧Le (Ak H Af) g w h' g' fm))) a w')
   (fun h k h2=>h fun e w r=>h2 _ _ (k _ _ r)) hS.inv (d:=0) (nn:=0) k1 (fun _ qt=>?_) (fun v r h' g2 w2 q1 q2 q3 q4=>?_) (fun _ _ h=>h)
  ·rw[k2]at qt;exact s8 fT hP2 hT2 hm t8 k3 k4 k5 k6 k7 k9 k8 hY2 hS.dfs hS.size xT OP fun v r h' g5 w5 q1 q2 q3 q4=>qt _ _ ⟨v,r,h',g5,rfl,q1,q2,q3,q4⟩
  ·obtain⟨hR,j1,j2⟩:=PQ hσ.1 hσ.2 q2 (hS.le.trans q3);exact⟨v,_,_,_,rfl,q1,q4.ren hR,j1,j2⟩
end
end Go.Eng
namespace Go.Eng
open Go.Sort
end Go.Eng
namespace Go.Eng
end Go.Eng
namespace Go.Eng
open Go.Proofs
variable {P:Program}
theorem J9.lend{f:Nat}{sz:Nat}{es:List (List AV)}{vs:List Value}{x:Value}(hp:J9 P f [.agg (.slice .none es::vs.map .v)] (.v x)) :
  A1 P f [.agg (.msl 1000 es.length::vs.map .v)] (Ak [(1000,.arr sz es)] Af) fun r h'=>r=.v x∧h'=Ak [(1000,.arr sz es)] Af:=by
 refine⟨hp.1,fun g w us hs hv hI=>?_⟩;have ho:Ez g w (AT (Ak [(1000,.arr sz es)] Af)) 1000 (.arr sz es):=hI.objs 1000;have hl:∀r,(Ak [(1000,HO.arr sz es)] Af r).live→r=1000:=fun r hr=>by
  unfold Ak at hr;cases e:Nat.beq r 1000 with
  |true=>exact AM e
  |false=>rw[e]at hr;exact hr.elim
 obtain⟨t,vX,Ev,vC⟩:=ho
 match us,hs with
 | ⟨[u]⟩,_ =>
 have h0:=hv 0 _ u rfl rfl;generalize hU:AT (Ak [(1000,HO.arr sz es)] Af)=U at h0;generalize hc:AV.msl 1000 es.length::vs.map AV.v=cs at h0;cases h0 with
 |agg _ _ us h1 h2 h3 =>
  subst hc;have Lb:0<us.size:=by rw[h1];simp
  have hm:=h3 0 _ us[0] rfl (Bs Lb);generalize hy:us[0]=y at hm;cases hm with
  |msl _ _ _ a cap q1 q2 q3 q4 q5 =>
   have hρ:=q5 vX.symm
   -- the ghost in which the array is stable
   obtain⟨S1,kz,hS2,hR⟩:∃S1:Nat→Nat→Prop,(∀b o,g.S b o→S1 b o)∧(∀b o,S1 b o→b<w.heap.size)∧BP { g with S:=S1 } w FQ (.slice .none es) (.slice a es.length cap):=by
    rcases vC with ⟨e1,e2,e3⟩ | ⟨b,LR,E,xs,e1,e2,e3,e4,e5,e6,e7⟩
    ·subst e1;exact⟨g.S,fun _ _ h=>h,hI.slt,.snil _ _ _⟩
    ·rw[e1]at hρ;cases hρ;have hK:E3 g w { g with S:=fun c o=>g.S c o∨c=b } w:=fun c o h=>⟨.inl h,rfl,fun _ _ h=>h⟩
     refine⟨fun c o=>g.S c o∨c=b,fun _ _ h=>.inl h,fun c o h=>h.elim (hI.slt c o) fun h=>?_,?_⟩
     ·subst h;exact(Bw.1 e4).1
     ·exact BP.slice_row e4 Ev e3 (e6.mono hK (fun _ h=>h) (fun _ h=>h.elim)) fun o _=>.inr rfl
   have hK:E3 g w { g with S:=S1 } w:=fun c o h=>⟨kz _ _ h,rfl,fun _ _ h=>h⟩;have hA:BP { g with S:=S1 } w (AT Af) (.agg (.slice .none es::vs.map .v)) (.agg us):=by
    refine .agg _ _ _ (by rw[h1];rfl) h2 fun i av z k1 k2=>?_
    match i,k1 with
    |0,k1 =>
     have:us[0]?=some us[0]:=Bs Lb
     rw[this]at k2;cases k2;cases k1;rw[hy];exact hR.up _
    |i+1,k1 =>
     have k3:=h3 (i+1) av z k1 k2
     have:∃q,av=.v q:=by
      have k1' : (vs.map AV.v)[i]?=some av:=k1;rw[AL,AW]at k1';exact k1'.imp fun _ h=>h.2.symm
     obtain⟨q,rfl⟩:=this;rw[k3.v_eq];exact .v _ _
   have xT:DV w { g with S:=S1 } Af Af { g with S:=S1 } w :=
    ⟨rfl,rfl,rfl,Ao _,fun _ _ _=>rfl,hS2,fun _=>trivial,fun _ _ _ h=>h.elim,fun _ _ h=>h.elim,fun _ _ h=>.inl h,hI.glob.keep hK⟩
   refine(hp.2 { g with S:=S1 } w ⟨[Value.agg us]⟩ rfl (fun i av z k1 k2=>by
    match i,k1,k2 with
    |0,k1,k2=>cases k1;cases k2;exact hA) xT).mono ?_
   rintro e w' ⟨v,r,h',g',rfl,⟨rfl,rfl⟩,p1,p2,p3⟩
   have i9:∀b,b<w.heap.size→w'.heap[b]?=w.heap[b]?:=fun b hb=>p2.frame b hb fun _ h=>h.elim;have hKw:E3 g w g w':=fun b o hS=>by
    have:=i9 b (hI.slt b o hS)
    exact⟨hS,by simp[World.cell?,this],fun es ck h=>this.trans h⟩
   refine⟨v,.v x,_,g,rfl,⟨rfl,rfl⟩,by rw[p1.v_eq];exact .v _ _,?_,⟨.refl _ _,fun _ h=>h,hKw⟩⟩;refine⟨p2.os,p2.tape,p2.output,p2.size,fun b hb _=>i9 b hb,fun b o h=>BD (hI.slt b o h) p2.size,fun r=>?_,hI.inj,fun r b h1 h2=>?_,fun _ _ h=>.inl h,hI.glob.keep hKw⟩
   ·exact(hI.objs r).same hKw (fun _ h=>h) (.refl _ _) rfl rfl rfl rfl fun b hb1 Uy=>⟨i9 b (hI.loc r b hb1 Uy).1,fun _ h=>h⟩
   ·exact⟨BD (hI.loc r b h1 h2).1 p2.size,.inr ⟨r,h1,h2⟩⟩
end Go.Eng
