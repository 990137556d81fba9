/- Lemmas 17. -/
import Derived.Test.YteaiieomnhbmgaaGreatDoorFA16
namespace Go.Eng
variable {ps:Array Tmp}{fn:Func}{σ:J6}{Hl body:Code}(cx:Cx)
def qr(cx:Cx):Nat->Code->(Ex->St->Prop)->(Code->Code->St->Prop)->St->Prop
 |0,.seq (.seq a b) d,Q,K,st=>Tw cx a (fun e EB=>match e with |.normal=>K b d EB |e=>Q e EB) st
 |0,.seq b d,_,K,st=>K b d st
 |n+1,.seq a b,Q,K,st=>Tw cx a (fun e EB=>match e with |.normal=>qr cx n b Q K EB |e=>Q e EB) st
 |_,_,_,_,_=>False
section
variable {P:Program}{N:Nat}{ds:List Deferred}{w0:World}{g0:Gh}{h0:Nat->HO}{st:St}{g:Gh}{a:Act}{w:World}
theorem qt{cx:Cx}(hP:cx.P=P)(hT:CM P cx.T)(hm:P.follows .mixedOrders=true)(hE:MP cx h0)(hY:∀l σ h g w,EK σ=true->D3 w0 g0 h0 h g w->Le h0 g0 w0 h g w->cx.yp l σ (DU σ g) w)
  {Qa:Ex->St->Prop} {K:Code->Code->St->Prop} {Q:Exit->Act->World->Prop} (hQ:∀e st g a w,e≠.normal->Qa e st->SR N ds w0 g0 h0 st g a w->Q e.real a w)
  (hK:∀b d st g a w,K b d st->SR N ds w0 g0 h0 st g a w->b.wpIn (K3 none) 0 P (Exit.then (d.wpIn (K3 none) 0 P Q) Q) a w) :
  ∀(n:Nat) (c:Code),ER N c=true->∀{st:St} {g:Gh} {a:Act} {w:World},SR N ds w0 g0 h0 st g a w->qr cx n c Qa K st->c.wpIn (K3 none) 0 P Q a w:=by
 intro n
 induction n with
 |zero=>
  intro c hc st g a w hS hk;cases c with
  |seq y d=>
   simp only[ER,Af]at hc;cases y with
   |seq x b=>
    have hk:Tw cx x (fun e EB=>match e with | .normal=>K b d EB|e=>Qa e EB) st:=hk;simp only[ER,Af]at hc;refine wpIn_seq (wpIn_seq (OW hP hT hm hE hY none x hc.1.1 (Qa:=fun e EB=>match e with | .normal=>K b d EB|e=>Qa e EB) (fun e st g a w q hS=>?_) hS hk));cases e with
    |normal=>exact hK b d _ _ _ _ q hS
    |exit id=>exact hQ (.exit id) _ _ _ _ (fun e=>by cases e) q hS
    |ret=>exact hQ .ret _ _ _ _ (fun e=>by cases e) q hS
   |_=>exact wpIn_seq (hK _ d _ _ _ _ hk hS)
  |_=>exact hk.elim
 |succ n ih=>
  intro c hc st g a w hS hk;cases c with
  |seq x y=>
   simp only[ER,Af]at hc;refine wpIn_seq (OW hP hT hm hE hY none x hc.1 (Qa:=fun e EB=>match e with | .normal=>qr cx n y Qa K EB|e=>Qa e EB) (fun e st g a w q hS=>?_) hS hk);cases e with
   |normal=>exact ih y hc.2 hS q
   |exit id=>exact hQ (.exit id) _ _ _ _ (fun e=>by cases e) q hS
   |ret=>exact hQ .ret _ _ _ _ (fun e=>by cases e) q hS
  |_=>exact hk.elim
end
section
variable {P:Program}{N:Nat}{ds:List Deferred}{w0:World}{g0:Gh}{h0:Nat->HO}{st:St}{g:Gh}{a:Act}{w:World}
theorem SR.rebase{w1:World}{g1:Gh}{h1:Nat->HO}(hS:SR N ds w0 g0 h0 st g a w)(hI:D3 w1 g1 h1 st.h g w)(hL:Le h1 g1 w1 st.h g w):SR N ds w1 g1 h1 st g a w:=⟨hI,hL,hS.dfs,hS.size,hS.slots⟩
theorem g8{cx:Cx}(hT:CM P cx.T){H0:List (Nat×HO)}(hσ:Hv σ=true)(tx:Jw σ H0=true){Q:AV->(Nat->HO)->Prop}(hS:SR N ds w0 g0 (As H0 Ag) st g a w)(hk:kl cx st fn.results.toList σ Q) :
  ∃v,(results fn a.tmps).run P w=.ok v w/\∃r h' g',Q r h'/\BU g' w (AR h') r v/\D3 w0 g0 (As H0 Ag) h' g' w/\Le (As H0 Ag) g0 w0 h' g' w:=by
 obtain⟨g2,i1,i2⟩:=N1 cx.pl.fin hS.inv;have U0:SR N ds w0 g0 (As H0 Ag) ⟨st.t,Qz st.h cx.pl.fin⟩ g2 a w:=⟨i1,hS.le.trans i2,hS.dfs,hS.size,fun i=>(hS.slots i).le i2⟩;obtain⟨l,vs,h1,h2,h3,h4,h5⟩:=T1 hT U0 _ hk;obtain⟨hR,j1,j2⟩:=Qj hσ tx i1 U0.le;have CZ:(results fn a.tmps).run P w=.ok (if h:vs.toArray.size=1 then vs.toArray[0]else .tuple vs.toArray) w:=by
  rw[Pv,show fn.results=fn.results.toList.toArray by simp,List.mapM_toArray];simp only[Sem.run_bind,Sem.run_map,h2,Result.andThen_ok,Sem.run_pure]
 match l,vs,h1,h3,h5,CZ with
 | [v],[x],h1,h3,h5,CZ=>exact⟨x,by simpa using CZ,_,_,_,h1,(h5 0 v x rfl rfl).ren hR,j1,j2⟩
 | [],vs,h1,h3,h5,CZ=>
  have:vs=[]:=AQ h3
  subst this;exact⟨.tuple #[],by simpa using CZ,_,_,_,h1,BU.ren hR (.tup _ [] _ rfl fun i av x q=>by simp at q),j1,j2⟩
 |v::v' :: l,vs,h1,h3,h5,CZ=>
  refine⟨.tuple vs.toArray,?_,_,_,_,h1,BU.ren hR (.tup _ _ _ (by simpa using h3) fun i av x q1 q2=>h5 i av x q1 (by simpa using q2)),j1,j2⟩;rw[CZ]
  have:vs.toArray.size≠1:=by simp[h3]
  simp only[this,dif_neg,not_false_eq_true]
theorem wt{sW s:Nat}{rest:Code}(hP:cx.P=P)(hT:CM P cx.T)(hm:P.follows .mixedOrders=true)(hx:cx.ext=true){H0 Hn:List (Nat×HO)}(hσ:(Hv σ&&Jw σ H0)=true)(hσn:Jw σ Hn=true){env:Nat->AV}{gf:Nat}{caps:List AV}(hF:env s=.clo gf caps){Qv:AV->(Nat->HO)->Prop}(hIT:∀(l D:Nat) (f' : FuncId) (tm:Array Value),tm.size=N->ab P (fun g w=>w.heap[l]?=some (.loop (IZ f' tm ps Hl body D .ready))/\∀i,BU g w (AR (As H0 Ag)) (env i) (tm.getD i undef)) σ gf
   (.v (.func (.yield l) #[] #[])::caps) (As H0 Ag) fun _ h'=>h'=As Hn Ag)(hcr:ER N rest=true)(hbk:PV [] body=false)(zC:Tw cx rest (aM cx fn.results.toList σ Qv) ⟨env,As Hn Ag⟩)(hY:∀l σ g w,cx.yp l σ g w){a:Act}(ha:a.defers=[])(hN:a.tmps.size=N)(hI:D3 w g (As H0 Ag) (As H0 Ag) g w)(Pi:∀i,BU g w (AR (As H0 Ag)) (env i) (a.tmps.getD i undef)){R:Ending->World->Prop}(hR:∀v r h' g' w',Qv r h'->BU g' w' (AR h') r v->D3 w g (As H0 Ag) h' g' w'->Le (As H0 Ag) g w h' g' w'->R (.returned v) w') :
  (Code.block sW (.rangeFunc (.tmp s) ps Hl body)).wpIn (K3 none) 0 P (Exit.then (rest.wpIn (K3 none) 0 P (bodyPostM (K3 none) 0 P fn R)) (bodyPostM (K3 none) 0 P fn R)) a w:=by
 simp only[Af]at hσ;have hdl:∀f' tm D s,YS (.loop (IZ f' tm ps Hl body D s))=true:=fun _ _ _ _=>by show(!PV [] body)=true;rw[hbk];rfl
 refine wpIn_block (wpIn_rangeFunc fun f' _=>?_);have hs:=Pi s;rw[hF]at hs;have td:a.eval (.tmp s)=a.tmps.getD s undef:=rfl;generalize hfv:a.tmps.getD s undef=fv at hs td;cases hs with
 |clo _ _ _ lb ES Mx=>
 obtain⟨i0,s0⟩:=hI.allocS (n0:=w.heap.size) (x:=w.heap.size) (.deferred (some [])) (Am _);obtain⟨i1,s1⟩:=i0.allocS (n0:=w.heap.size) (x:=w.heap.size) (.loop (IZ f' a.tmps ps Hl body w.heap.size .ready)) (by rw[World.size_alloc];omega);generalize hW:(w.alloc (.deferred (some []))).alloc (.loop (IZ f' a.tmps ps Hl body w.heap.size .ready))=W1 at i1 s1;have Aid:W1.heap.size=w.heap.size+2:=by rw[<-hW,World.size_alloc,World.size_alloc]
 have hl:W1.heap[w.heap.size+1]?=some (.loop (IZ f' a.tmps ps Hl body w.heap.size .ready)):=by
  rw[<-hW]
  have:=World.alloc_heap_new (w.alloc (.deferred (some []))) (.loop (IZ f' a.tmps ps Hl body w.heap.size .ready))
  rwa [World.size_alloc]at this
 have hD:W1.heap[w.heap.size]?=some (.deferred (some [])):=by
  rw[<-hW,heap_alloc_old _ _ (by rw[World.size_alloc];omega)];exact World.alloc_heap_new w _
 have Ok:∀b ob,W1.heap[b]?=some ob->YS ob=true->∀r,((As H0 Ag) r).live->g.own r≠some b:=fun b ob hb hd r hr e=>QQ (i1.objs r) hr e hb hd;have S1:=s0.trans s1;have hit:=hIT (w.heap.size+1) w.heap.size f' a.tmps hN
 refine⟨w.heap.size+1,[{ target:=.collected w.heap.size,args:=#[] }],W1,{ target:=.fn (.func gf) lb,args:=#[.func (.yield (w.heap.size+1)) #[] #[]] },W1,gf,
  #[.func (.yield (w.heap.size+1)) #[] #[]]++lb,W1,?_,?_,fun _ _=>trivial,?_,fun e=>(by cases e),?_⟩
 .rw[<-hW];exact run_enterLoop_outer _ _ _ _ _
 .simp only[resolve,td];simp[go_sem]
 .simp only[invoke];rw[Hi hit.1]
 refine callsIn_wide.2 ((hit.2 g W1 _ (by simp[ES];omega) (fun i av x e1 e2=>?_) i1 (fun h' g' w' q1 q2=>?_)).mono ?_)
 .cases i with
  |zero=>
   simp only[Bd,BB]at e1;rw[IW]at e2
   have:x=.func (.yield (w.heap.size+1)) #[] #[]:=(Cj e2).symm
   subst e1;subst this;exact .v _ _
  |succ i=>
   have e2:lb[i]?=some x:=by rw[<-e2,IW];simp
   exact(Mx i av x (by simpa using e1) e2).le S1.le
 .obtain⟨_,_,j2⟩:=Qj hσ.1 hσ.2 q1 q2;refine⟨(q1.frame _ ch (Ok _ _ hl (hdl _ _ _ _))).trans hl,fun i=>?_⟩;exact((Pi i).le S1.le).mono j2.keeps (fun _ h=>h) j2.gh
 rintro e w2 ⟨v,r,h',g2,rfl,rfl,_,q3,q4⟩
 have jG:w2.heap[w.heap.size+1]?=some (.loop (IZ f' a.tmps ps Hl body w.heap.size .ready)):=(q3.frame _ ch (Ok _ _ hl (hdl _ _ _ _))).trans hl;have hD2:w2.heap[w.heap.size]?=some (.deferred (some [])):=(q3.frame _ ch (Ok _ _ hD rfl)).trans hD;refine⟨none,_,run_endLoop jG (fun e=>by cases e),?_⟩;obtain⟨i4,s4⟩:=q3.base.put (n0:=w.heap.size) (x:=w.heap.size) (o':=.loop { IZ f' a.tmps ps Hl body w.heap.size .ready with state:=.exhausted }) jG (hdl _ _ _ _) (hdl f' a.tmps w.heap.size .exhausted) (.inl ch);have S4:=(S1.trans (fO.of_inv q3 q4 ch)).trans s4;generalize hW4:w2.putObj (w.heap.size+1) (.loop { IZ f' a.tmps ps Hl body w.heap.size .ready with state:=.exhausted })=w4 at i4 s4 S4;have hD4:w4.heap[w.heap.size]?=some (.deferred (some [])):=by rw[<-hW4,World.putObj_heap_other ch];exact hD2
 have hE:MP cx (As Hn Ag):=by unfold MP;rw[hx];exact fun i hi=>⟨(GZ hσn i hi).1,(GZ hσn i hi).2.1⟩
 have hS4:SR N [{ target:=.collected w.heap.size,args:=#[] }] w4 g2 (As Hn Ag) ⟨env,As Hn Ag⟩ g2 { a with defers:=[{ target:=.collected w.heap.size,args:=#[] }]++a.defers } w4:=
  ⟨i4,.refl _ _ _,by simp[ha],hN,fun i=>(Pi i).le S4.le⟩
 refine OW hP hT hm hE (fun l σ _ _ w _ _ _=>hY l σ _ w) none rest hcr (fun e st5 g5 a5 w5 hq s9=>?_) hS4 zC;have fin:kl cx st5 fn.results.toList σ Qv->LeavesInM (K3 none) 0 P fn a5.tmps R a5.defers .returning w5:=by
  intro hk;have hD5:w5.heap[w.heap.size]?=some (.deferred (some [])):=(s9.inv.frame _ (Bv.1 hD4).1 (fun r hr e=>QQ (i4.objs r) hr e hD4 rfl)).trans hD4;rw[s9.dfs];refine⟨by simp,.inl ⟨w.heap.size,_,rfl,run_takeDeferred hD5,?_⟩⟩;obtain⟨i6,s6⟩:=s9.inv.base.put (n0:=w.heap.size) (x:=w.heap.size) (o':=.deferred none) hD5 rfl rfl (.inr rfl);have hS6:SR N [{ target:=.collected w.heap.size,args:=#[] }] (w5.putObj w.heap.size (.deferred none)) g5 st5.h st5 g5 a5 (w5.putObj w.heap.size (.deferred none)):=⟨i6,.refl _ _ _,s9.dfs,s9.size,fun i=>(s9.slots i).le s6.le⟩;have S6:=(S4.trans (fO.of_inv s9.inv s9.le (AK (Am _) S4.size))).trans s6;obtain⟨v,k2,r,h7,g7,k1,k5,k3,k4⟩:=g8 (H0:=H0) hT hσ.1 hσ.2 (SR.rebase hS6 (i6.of_seg S6 fun h=>absurd h (Nat.lt_irrefl _)) S6.le) hk;exact⟨v,k2,hR v r h7 g7 _ k1 k5 k3 k4⟩
 cases e with
 |normal=>exact fin hq
 |ret=>exact fin hq
 |exit id=>exact hq.elim
end
section
variable {P:Program}{N:Nat}{w:World}{g:Gh}
theorem lg(o k r:Nat){H:List (Nat×HO)}(cx:Cx)(hP:cx.P=P)(hT:CM P cx.T)(hm:P.follows .mixedOrders=true)(hx:cx.ext=true)(hσ:(Hv σ&&Jw σ H)=true){fn:FuncId}{tm:Array Value}{D l:Nat}{env:Nat->AV}{args:List AV}{U:Nat->Prop}{Q:AV->(Nat->HO)->Prop}(hps:args.length=ps.toList.length)(hN:tm.size=N)(hpN:(ps.toList.all fun p=>Nat.blt p N)=true)(hca:ER N Hl=true)(hcb:ER N body=true)(hU:∀i,U i->AR (As H Ag) i)(hk:Tw cx Hl (fun e st=>match e with | .normal=>Tw cx body (fun e st=>match e with | .normal=>rvK st.h o k r fun h'=>Q (.v (.bool true)) (F1 σ (Qz h' cx.pl.fin))|_=>False) st|_=>False) ⟨qM ps.toList args env,As H Ag⟩)(hY:∀l σ g w,cx.yp l σ g w:=by exact fun _ _ _ _=>trivial)(hbk:PV [] body=false:=by kernel_rfl) :
  JU P (fun g w=>w.heap[l]?=some (.loop (IZ fn tm ps Hl body D .ready))/\∀i,BU g w U (env i) (tm.getD i undef)) l args (As H Ag) Q:=by
 simp only[Af]at hσ;intro g w vals hs hv hI ⟨hl,Pi⟩;have DF:l<w.heap.size:=(Bv.1 hl).1;have hdl:∀s,YS (.loop (IZ fn tm ps Hl body D s))=true:=fun s=>by show(!PV [] body)=true;rw[hbk];rfl
 have hE:MP cx (As H Ag):=by unfold MP;rw[hx];exact fun i hi=>⟨(GZ hσ.2 i hi).1,(GZ hσ.2 i hi).2.1⟩
 have Ok:∀r,((As H Ag) r).live->g.own r≠some l:=fun r hr e=>QQ (hI.objs r) hr e hl (hdl _);have te:∀(t0:Array Value),(ps.zip vals).foldl (fun tmps (p:Nat×Value)=>tmps.setIfInBounds p.1 p.2) t0=(ps.toList.zip vals.toList).foldl (fun t p=>t.setIfInBounds p.1 p.2) t0:=fun t0=>by
  rw[<-Array.foldl_toList,Array.toList_zip]
 have hry:=run_yield (P:=P) (args:=vals) hl (by simp only[hs,hps,B1]);refine⟨fn,_,Hl,body,hry,roundIn_of_wpIn trivial ?_⟩;obtain⟨z1,z2⟩:=aQ (U:=AR (As H Ag)) (ps:=ps.toList) (args:=args) (vals:=vals.toList) (tm:=tm) (env:=env) (by simpa using hs) hps (fun p hp=>by
  have:=(A1.1 hpN) p hp
  rw[hN];simpa using this) (fun i av x e1 e2=>hv i av x e1 (by simpa using e2)) (fun i=>(Pi i).mono (.refl _ _) hU (.refl _ _))
 have hS0:SR N [] w g (As H Ag) ⟨qM ps.toList args env,As H Ag⟩ g { tmps:=(ps.zip vals).foldl (fun tmps (p:Nat×Value)=>tmps.setIfInBounds p.1 p.2) tm,defers:=[] } w:=by
  refine⟨hI,.refl _ _ _,rfl,?_,fun i=>?_⟩
  .rw[te];exact z1.trans hN
  .rw[te];exact z2 i
 refine OW hP hT hm hE (fun l σ _ _ w _ _ _=>hY l σ _ w) (some l) Hl hca (fun e st1 g1 a1 w1 hq mU=>?_) hS0 hk;cases e with
 |exit _=>exact hq.elim
 |ret=>exact hq.elim
 |normal=>
  have xG:w1.heap[l]?=some (.loop (IZ fn tm ps Hl body D .ready)):=(mU.inv.frame l DF Ok).trans hl;refine⟨_,run_beginRound xG rfl,?_⟩;obtain⟨iS,sS⟩:=hI.put (n0:=w.heap.size) (x:=l) (o':=.loop (IZ fn tm ps Hl body D .busy)) hl (hdl _) (hdl _) (.inr rfl);have hlS:(w.putObj l (.loop (IZ fn tm ps Hl body D .busy))).heap[l]?=some (.loop (IZ fn tm ps Hl body D .busy)):=World.putObj_heap_same DF;have re:(w.putObj l (.loop (IZ fn tm ps Hl body D .busy))).heap.size=w.heap.size:=by simp[World.putObj]
  obtain⟨_,sB⟩:=iS.dullS (w':=w) (n0:=w.heap.size) (x:=l) ⟨rfl,rfl,rfl⟩ (by rw[re];exact Am _) (fun b _=>by
   by_cases e:b=l
   .subst e;exact .inr ⟨_,_,hlS,hl,hdl _,hdl _⟩
   .exact .inl (World.putObj_heap_other e).symm) (fun b _ DJ=>(World.putObj_heap_other DJ).symm)
  obtain⟨i2,s2⟩:=mU.inv.base.put (n0:=w.heap.size) (x:=l) (o':=.loop (IZ fn tm ps Hl body D .busy)) xG (hdl _) (hdl _) (.inr rfl);have S2:=(sB.trans (fO.of_inv mU.inv mU.le (Am _))).trans s2;have jG:(w1.putObj l (.loop (IZ fn tm ps Hl body D .busy))).heap[l]?=some (.loop (IZ fn tm ps Hl body D .busy)):=World.putObj_heap_same (Bv.1 xG).1;have hI2:=i2.of_seg (by rw[re];exact S2) (fun _=>jG.trans hlS.symm);have hS2:SR N [] (w.putObj l (.loop (IZ fn tm ps Hl body D .busy))) g (As H Ag) st1 g1 a1 (w1.putObj l (.loop (IZ fn tm ps Hl body D .busy))):=⟨hI2,S2.le,mU.dfs,mU.size,fun i=>(mU.slots i).le s2.le⟩;refine OW hP hT hm hE (fun l σ _ _ w _ _ _=>hY l σ _ w) (some l) body hcb (fun e st3 g3 a3 w3 hq yK=>?_) hS2 hq;cases e with
  |exit _=>exact hq.elim
  |ret=>exact hq.elim
  |normal=>
   obtain⟨h3,g3',yK,hq⟩:=oX yK hq;have hl3:w3.heap[l]?=some (.loop (IZ fn tm ps Hl body D .busy)):=(yK.inv.frame l (by rw[re];exact DF) Ok).trans hlS;refine⟨.bool true,w3.putObj l (.loop (IZ fn tm ps Hl body D .ready)),run_endRound none hl3,?_⟩;obtain⟨gf,if1,if2⟩:=N1 cx.pl.fin yK.inv;obtain⟨i4,s4⟩:=if1.base.put (n0:=w.heap.size) (x:=l) (o':=.loop (IZ fn tm ps Hl body D .ready)) hl3 (hdl _) (hdl _) (.inr rfl);have S4:=(sS.trans (fO.of_inv if1 (yK.le.trans if2) (by rw[re];exact Am _))).trans s4;have hl4:(w3.putObj l (.loop (IZ fn tm ps Hl body D .ready))).heap[l]?=some (.loop (IZ fn tm ps Hl body D .ready)):=World.putObj_heap_same (Bv.1 hl3).1;have hI4:=i4.of_seg S4 (fun _=>hl4.trans hl.symm);obtain⟨_,j1,j2⟩:=Qj hσ.1 hσ.2 hI4 S4.le;exact⟨.bool true,.v (.bool true),_,_,rfl,hq,.v _ _,j1,j2⟩
end
def xO(h:Nat->HO)(o k r sz:Nat)(K:(Nat->HO)->Prop):Prop:=
 match h o with
 |.cells cs=>match Kg cs k with
  |.v (.slice none 0 0)=>match h r with
   |.free=>K (A3 (A3 h r (.var sz 0 0)) o (.cells (EZ cs k (.slice (.ver r sz 0) []))))
   |_=>False
  |_=>False
 |_=>False
section
variable {P:Program}{N:Nat}{ds:List Deferred}{w0:World}{g0:Gh}{h0:Nat->HO}{st:St}{g:Gh}{a:Act}{w:World}
theorem v8(hS:SR N ds w0 g0 h0 st g a w){o k r sz:Nat}{K:(Nat->HO)->Prop}(hk:xO st.h o k r sz K):∃h' g',SR N ds w0 g0 h0 ⟨st.t,h'⟩ g' a w/\K h':=by
 unfold xO at hk;split at hk
 .rename_i cs e0;split at hk
  .rename_i e1;split at hk
   .rename_i hf;have p8:o≠r:=fun e=>by rw[e,hf]at e0;cases e0
    have Ze:=Kn cs k _ e1 B0
    obtain⟨m1,m2⟩:=hS.inv.upd r (.var sz 0 0) (.slice none 0 0) 0 true none g.S w none ⟨rfl,rfl,rfl,Am _⟩ (fun _ _ _=>rfl) (fun b e=>by cases e) (fun _ _ h=>h) (fun _ _ h=>.inl h) (fun b o e=>by cases e) (fun b hh e=>by first|(cases e;done)|(exact absurd hh.2 B0)) B0
     (fun hu=>absurd hf hu) (fun _ _=>by
      obtain⟨u1,u2,u3,u4⟩:=BK g r (.slice none 0 0) 0 true none g.S;exact⟨u3,u2,none,0,u1,.inl ⟨rfl,u4⟩⟩)
    generalize WJ:g.upd r (.slice none 0 0) 0 true none g.S=g1 at m1 m2;have gr:g1.tk r=true/\g1.ln r=0/\g1.ρ r=.slice none 0 0:=by rw[<-WJ];simp[Gh.upd]
    have uM:(A3 st.h r (.var sz 0 0)) o=.cells cs:=by rw[Cg _ _ _ _ p8,e0]
    obtain⟨g3,p1,p2⟩:=PX m1 uM Ze (new:=.slice (.ver r sz 0) []) (fun y hy=>by
     cases hy
     exact .ver _ r sz 0 [] _ (.snil _ _ _) (fun c hc=>by cases hc) (by unfold AR;rw[Bi];simp) gr.1 (AB _) (fun _=>gr.2.2.symm))
    exact⟨_,g3,⟨p1,hS.le.trans (m2.trans p2),hS.dfs,hS.size,fun i=>(hS.slots i).le (m2.trans p2)⟩,hk⟩
   .exact hk.elim
  .exact hk.elim
 .exact hk.elim
def RfV(o k r sz:Nat)(jo:Cx)(P:Program)(N:Nat)(fn:Func)(σ:J6)(Q:AV->(Nat->HO)->Prop)(b rest:Code)(st:St):Prop:=
 xO st.h o k r sz fun h1=>
  ∃(σF σr:J6) (H0 Hn:List (Nat×HO)) (sW s:Nat) (ps:Array Tmp) (Hl body:Code) (gf:Nat) (caps:List AV),
  b=.block sW (.rangeFunc (.tmp s) ps Hl body)/\(EK σF&&D0 h1 0 0&&DK σF 0 0)=true/\F1 σF h1=As H0 Ag/\(Hv σr&&Jw σr H0)=true/\Jw σr Hn=true /\
  ren (CI σF) h1 (st.t s)=.clo gf caps /\
  (∀(l D:Nat) (f' : FuncId) (tm:Array Value),tm.size=N->ab P (fun g w=>w.heap[l]?=some (.loop (IZ f' tm ps Hl body D .ready))/\∀i,BU g w (AR (As H0 Ag)) (ren (CI σF) h1 (st.t i)) (tm.getD i undef)) σr gf
   (.v (.func (.yield l) #[] #[])::caps) (As H0 Ag) fun _ h'=>h'=As Hn Ag) /\
  ER N rest=true/\PV [] body=false/\Tw jo rest (aM jo fn.results.toList σr fun r h'=>Q (ren (CI σ) (Eu σF 0 0 h1 h') (ren (FA σF 0 0) h' r)) (F1 σ (Eu σF 0 0 h1 h')))
   ⟨fun i=>ren (CI σF) h1 (st.t i),As Hn Ag⟩
theorem iO (o k r sz:Nat){f:Nat}{c:Code}{args:List AV}{H:List (Nat × HO)}{Q:AV->(Nat->HO)->Prop}(cx jo:Cx)(σ:J6)(hP:cx.P = P)(hT:CM P cx.T)(hP2:jo.P = P)(hT2:CM P jo.T)(hm:P.follows .mixedOrders = true)(hx:cx.ext = true)(tv:jo.ext = true)(hf:P.funcs[f]? = some fn)(hn:(fn.name == "runtime.NumGoroutine") = false)(hb:fn.body=some c)(hN:args.length<=fn.ntmps)(hc:ER fn.ntmps c=true)(hσ:(Hv σ&&Jw σ H)=true)(n:Nat)(hk:qr cx n c (aM cx fn.results.toList σ fun r h'=>∃r',CX r r'/\Q r' h') (RfV o k r sz jo P fn.ntmps fn σ fun r h'=>∃r',CX r r'/\Q r' h') ⟨Qh args,As H Ag⟩)(hY:∀l σ g w,cx.yp l σ g w:=by exact fun _ _ _ _=>trivial)(hY2:∀l σ g w,jo.yp l σ g w:=by exact fun _ _ _ _=>trivial):A9 P f args (As H Ag) Q:=by
 refine A9.mono (Q:=fun r h'=>∃r',CX r r'/\Q r' h') ?_ fun _ _ ⟨r',s,q⟩=>⟨r',s,q⟩;simp only[Af]at hσ;refine⟨⟨fn,hf,hn,by simp[hb]⟩,fun g w vals hs hv hI=>callsIn_wide.1 (callsIn_of_wp_marks (F:=Fence.wide) (n:=0) hf hb trivial ?_ rfl)⟩;have hE:MP cx (As H Ag):=by unfold MP;rw[hx];exact fun i hi=>⟨(GZ hσ.2 i hi).1,(GZ hσ.2 i hi).2.1⟩
 have hS:SR fn.ntmps [] w g (As H Ag) ⟨Qh args,As H Ag⟩ g { tmps:=vals++Array.replicate (fn.ntmps-vals.size) undef,defers:=[] } w:=by
  refine⟨hI,.refl _ _ _,rfl,by simp[hs];omega,fun i=>?_⟩
  have:=Qi (n:=fn.ntmps-vals.size) (args:=args) (vals:=vals.toList) (by simpa using hs) (fun i av x q1 q2=>hv i av x q1 (by simpa using q2)) i
  rw[CJ,<-A5];rw[Cf]at this;simpa using this
 refine qt hP hT hm hE (fun l σ _ _ w _ _ _=>hY l σ _ w) (fun e st g' a w' DJ hk hS=>?_) (fun b rest st g' a w' hk hS=>?_) n c hc hS hk
 .have out:kl cx st fn.results.toList σ (fun r h'=>∃r',CX r r'/\Q r' h')->LeavesInM (K3 none) 0 P fn a.tmps (fun e w'=>∃v r h' g',e=Ending.returned v/\(∃r',CX r r'/\Q r' h')/\BU g' w' (AR h') r v/\D3 w g (As H Ag) h' g' w'/\Le (As H Ag) g w h' g' w') a.defers .returning w':=by
   intro hk;obtain⟨v,q2,r,h',g2,q1,q3,q4,q5⟩:=g8 hT hσ.1 hσ.2 hS hk;rw[hS.dfs];exact⟨v,q2,v,r,h',g2,rfl,q1,q3,q4,q5⟩
  cases e with
  |normal=>exact absurd rfl DJ
  |ret=>exact out hk
  |exit id=>exact hk.elim
 .obtain⟨h1,g',hS,hk⟩:=v8 hS hk;obtain⟨σF,σr,H0,Hn,sW,s,ps,Hl,body,gf,caps,rfl,k1,k2,k3,k4,k5,k6,k7,k9,k8⟩:=hk;have hσF:EK σF=true:=by simp only[Af]at k1;exact k1.1.1
  obtain⟨Ad2,hI1⟩:=Y9 hS.inv hσF;rw[k2]at hI1;have Pi:∀i,BU (DU σF g') w' (AR (As H0 Ag)) (ren (CI σF) h1 (st.t i)) (a.tmps.getD i undef):=fun i=>by
   have:=(hS.slots i).ren Ad2
   rwa [k2]at this
  refine NW (Q:=fun r h'=>∃r',CX (ren (CI σ) (Eu σF 0 0 h1 h') (ren (FA σF 0 0) h' r)) r'/\Q r' (F1 σ (Eu σF 0 0 h1 h'))) (C:=fun R'=>(∀e iC,R' e iC->(∃v r h' g',e=Ending.returned v/\(∃r',CX r r'/\Q r' h')/\BU g' iC (AR h') r v/\D3 w g (As H Ag) h' g' iC/\Le (As H Ag) g w h' g' iC)) ->
   (Code.block sW (.rangeFunc (.tmp s) ps Hl body)).wpIn (K3 none) 0 P (Exit.then (rest.wpIn (K3 none) 0 P (bodyPostM (K3 none) 0 P fn (fun e iC=>∃v r h' g',e=Ending.returned v/\(∃r',CX r r'/\Q r' h')/\BU g' iC (AR h') r v/\D3 w g (As H Ag) h' g' iC/\Le (As H Ag) g w h' g' iC))) (bodyPostM (K3 none) 0 P fn (fun e iC=>∃v r h' g',e=Ending.returned v/\(∃r',CX r r'/\Q r' h')/\BU g' iC (AR h') r v/\D3 w g (As H Ag) h' g' iC/\Le (As H Ag) g w h' g' iC))) a w')
   (fun h k h2=>h fun e w r=>h2 _ _ (k _ _ r)) hS.inv (d:=0) (nn:=0) k1 (fun _ tj=>?_) (fun v r h' g2 w2 q1 q2 q3 q4=>?_) (fun _ _ h=>h)
  .rw[k2]at tj;exact wt jo hP2 hT2 hm tv k3 k4 k5 k6 k7 k9 k8 hY2 hS.dfs hS.size hI1 Pi fun v r h' g5 w5 q1 q2 q3 q4=>tj _ _ ⟨v,r,h',g5,rfl,q1,q2,q3,q4⟩
  .obtain⟨hR,j1,j2⟩:=Qj hσ.1 hσ.2 q2 (hS.le.trans q3);exact⟨v,_,_,_,rfl,q1,q4.ren hR,j1,j2⟩
end
end Go.Eng
namespace Go.Eng
open Go.Sort
end Go.Eng
namespace Go.Eng
end Go.Eng
namespace Go.Eng
open Go.Proofs
variable {P:Program}
theorem Jp.lend{f:Nat}{sz:Nat}{es:List (List AV)}{vs:List Value}{x:Value}(hp:Jp P f [.agg (.slice .none es::vs.map .v)] (.v x)) :
  A9 P f [.agg (.msl 1000 es.length::vs.map .v)] (As [(1000,.arr sz es)] Ag) fun r h'=>r=.v x/\h'=As [(1000,.arr sz es)] Ag:=by
 refine⟨hp.1,fun g w us hs hv hI=>?_⟩;have ho:Ez g w (AR (As [(1000,.arr sz es)] Ag)) 1000 (.arr sz es):=hI.objs 1000;have hl:∀r,(As [(1000,HO.arr sz es)] Ag r).live->r=1000:=fun r hr=>by
  unfold As at hr;cases e:Nat.beq r 1000 with
  |true=>exact AL e
  |false=>rw[e]at hr;exact hr.elim
 obtain⟨t,hln,ES,yZ⟩:=ho
 match us,hs with
 | ⟨[u]⟩,_=>
 have h0:=hv 0 _ u rfl rfl;generalize hU:AR (As [(1000,HO.arr sz es)] Ag)=U at h0;generalize hc:AV.msl 1000 es.length::vs.map AV.v=cs at h0;cases h0 with
 |agg _ _ us h1 h2 h3=>
  subst hc;have LF:0<us.size:=by rw[h1];simp
  have hm:=h3 0 _ us[0] rfl (A6 LF);generalize hy:us[0]=y at hm;cases hm with
  |msl _ _ _ a cap q1 q2 q3 q4 q5=>
   have hρ:=q5 hln.symm
   -- the ghost in which the array is stable
   obtain⟨S1,mU,hS2,hR⟩:∃S1:Nat->Nat->Prop,(∀b o,g.S b o->S1 b o)/\(∀b o,S1 b o->b<w.heap.size)/\BU { g with S:=S1 } w FB (.slice .none es) (.slice a es.length cap):=by
    rcases yZ with ⟨e1,e2,e3⟩|⟨b,Ml,E,xs,e1,e2,e3,e4,e5,e6,e7⟩
    .subst e1;exact⟨g.S,fun _ _ h=>h,hI.slt,.snil _ _ _⟩
    .rw[e1]at hρ;cases hρ;have hK:EO g w { g with S:=fun c o=>g.S c o\/c=b } w:=fun c o h=>⟨.inl h,rfl,fun _ _ h=>h⟩
     refine⟨fun c o=>g.S c o\/c=b,fun _ _ h=>.inl h,fun c o h=>h.elim (hI.slt c o) fun h=>?_,?_⟩
     .subst h;exact(Bv.1 e4).1
     .exact BU.slice_row e4 ES e3 (e6.mono hK (fun _ h=>h) (fun _ h=>h.elim)) fun o _=>.inr rfl
   have hK:EO g w { g with S:=S1 } w:=fun c o h=>⟨mU _ _ h,rfl,fun _ _ h=>h⟩;have hA:BU { g with S:=S1 } w (AR Ag) (.agg (.slice .none es::vs.map .v)) (.agg us):=by
    refine .agg _ _ _ (by rw[h1];rfl) h2 fun i av z k1 k2=>?_
    match i,k1 with
    |0,k1=>
     have:us[0]?=some us[0]:=A6 LF
     rw[this]at k2;cases k2;cases k1;rw[hy];exact hR.up _
    |i+1,k1=>
     have k3:=h3 (i+1) av z k1 k2
     have:∃q,av=.v q:=by
      have k1' : (vs.map AV.v)[i]?=some av:=k1;rw[AG,AX]at k1';exact k1'.imp fun _ h=>h.2.symm
     obtain⟨q,rfl⟩:=this;rw[k3.v_eq];exact .v _ _
   have hI1:D3 w { g with S:=S1 } Ag Ag { g with S:=S1 } w:=
    ⟨rfl,rfl,rfl,Am _,fun _ _ _=>rfl,hS2,fun _=>trivial,fun _ _ _ h=>h.elim,fun _ _ h=>h.elim,fun _ _ h=>.inl h,hI.glob.keep hK⟩
   refine(hp.2 { g with S:=S1 } w ⟨[Value.agg us]⟩ rfl (fun i av z k1 k2=>by
    match i,k1,k2 with
    |0,k1,k2=>cases k1;cases k2;exact hA) hI1).mono ?_
   rintro e w' ⟨v,r,h',g',rfl,⟨rfl,rfl⟩,p1,p2,p3⟩
   have lq:∀b,b<w.heap.size->w'.heap[b]?=w.heap[b]?:=fun b hb=>p2.frame b hb fun _ h=>h.elim;have hKw:EO g w g w':=fun b o hS=>by
    have:=lq b (hI.slt b o hS)
    exact⟨hS,by simp[World.cell?,this],fun es ck h=>this.trans h⟩
   refine⟨v,.v x,_,g,rfl,⟨rfl,rfl⟩,by rw[p1.v_eq];exact .v _ _,?_,⟨.refl _ _,fun _ h=>h,hKw⟩⟩;refine⟨p2.os,p2.tape,p2.output,p2.size,fun b hb _=>lq b hb,fun b o h=>BC (hI.slt b o h) p2.size,fun r=>?_,hI.inj,fun r b h1 h2=>?_,fun _ _ h=>.inl h,hI.glob.keep hKw⟩
   .exact(hI.objs r).same hKw (fun _ h=>h) (.refl _ _) rfl rfl rfl rfl fun b hb1 Rr=>⟨lq b (hI.loc r b hb1 Rr).1,fun _ h=>h⟩
   .exact⟨BC (hI.loc r b h1 h2).1 p2.size,.inr ⟨r,h1,h2⟩⟩
end Go.Eng
namespace Go.Eng
section
variable {P:Program}
theorem Yk{i:Nat}(h:AR Ag i):False:=h rfl
theorem br{r i:Nat}{o:HO}(h:r≠i):As [(i,o)] Ag r=.free:=by
 simp only[As,Dd h,Es];rfl
theorem di{f sz:Nat}{n:Int}(hE:F3 P f)
  (h:∀w:World,Calls P f #[.slice none 0 0,.int .i64 n] w fun e w'=>∃(G:Nat) (cs:Array Value) (T:TypeId),e=.returned (.slice (some ⟨w.heap.size,0,none⟩) 0 G)/\cs.size=G*sz/\w'=w.drew.alloc (.cells cs T)) :
  A9 P f [nzA,.v (.int .i64 n)] Ag fun r h'=>r=.slice (.id 2000 sz) []/\h'=As [(2000,.tok sz 0)] Ag:=by
 refine⟨hE,fun g w us hs hv hI=>?_⟩;have hu:us=#[.slice none 0 0,.int .i64 n]:=by
  have h0:=hv 0 nzA (us[0]'(by simp only[Al,Au]at hs;omega)) rfl (A6 _);have h1:=hv 1 (.v (.int .i64 n)) (us[1]'(by simp only[Al,Au]at hs;omega)) rfl (A6 _);refine PE (by simpa using hs) fun i q1 q2=>?_
  match i,q1,q2 with
  |0,_,_=>exact h0.v_eq
  |1,_,_=>exact h1.v_eq
  |_+2,_,q2=>exact absurd q2 B0
 subst hu;refine(h w).mono ?_
 rintro e w' ⟨G,cs,T,rfl,hc,rfl⟩
 have ED:(w.drew.alloc (.cells cs T)).heap[w.heap.size]?=some (.cells cs T (0,0)):=G0 w.drew _ rfl;have RL:∀b,b<w.heap.size->(w.drew.alloc (.cells cs T)).heap[b]?=w.heap[b]?:=fun b hb=>heap_alloc_old (w:=w.drew) _ hb;have ES:(w.drew.alloc (.cells cs T)).heap.size=w.heap.size+1:=World.size_alloc ..;obtain⟨g',TS⟩:∃g' : Gh,g'=⟨fun r=>bif Nat.beq r 2000 then .slice (some ⟨w.heap.size,0,none⟩) 0 G else g.ρ r,fun r=>bif Nat.beq r 2000 then 0 else g.ln r,fun r=>bif Nat.beq r 2000 then true else g.tk r,fun r=>bif Nat.beq r 2000 then some w.heap.size else g.own r,g.S⟩:=⟨_,rfl⟩;have eS:g'.S=g.S:=by rw[TS]
 have e1:g'.ρ 2000=.slice (some ⟨w.heap.size,0,none⟩) 0 G:=by rw[TS];rfl
 have e2:g'.ln 2000=0:=by rw[TS];rfl
 have e3:g'.tk 2000=true:=by rw[TS];rfl
 have e4:g'.own 2000=some w.heap.size:=by rw[TS];rfl
 have hK:EO g w g' (w.drew.alloc (.cells cs T)):=fun b o hb=>by
  have DF:=hI.slt b o hb;exact⟨eS▸hb,by simp only[World.cell?,RL b DF],fun es ck he=>(RL b DF).trans he⟩
 have KC:∀r,(As [(2000,HO.tok sz 0)] Ag r).live->r=2000:=fun r hr=>by
  by_cases e:r=2000
  .exact e
  .rw[br e]at hr;exact hr.elim
 refine⟨_,_,_,g',rfl,⟨rfl,rfl⟩,.tok _ 2000 sz [] _ (.snil _ _ _) B0 (fun q=>by cases q) e3 (by rw[e2];exact Am _) (fun _=>e1.symm),⟨rfl,rfl,rfl,by rw[ES];omega,fun b hb _=>RL b hb,fun b o hs=>?_,fun r=>?_,fun r r' b h1 h2 _ _=>(KC r h1).trans (KC r' h2).symm,fun r b hr hb=>?_,fun b o hs=>.inl (eS▸hs),?_⟩,⟨fun i hi=>(Yk hi).elim,fun i hi=>(Yk hi).elim,hK⟩⟩
 .rw[ES]
  have:=hI.slt b o (eS▸hs);omega
 .by_cases e:r=2000
  .subst e;refine⟨e3,e2,_,G,e1,.inr ⟨AB _,w.heap.size,T,cs,0,rfl,e4,.of ED,by rw[hc];omega,fun o ho=>?_⟩⟩;rw[eS]at ho
   have:=hI.slt _ o ho;omega
  .rw[br e];trivial
 .obtain rfl:=KC r hr;rw[e4]at hb;cases hb;exact⟨by rw[ES];omega,.inl (Am _)⟩
 .have:=hI.glob.keep hK
  exact this
end
end Go.Eng
