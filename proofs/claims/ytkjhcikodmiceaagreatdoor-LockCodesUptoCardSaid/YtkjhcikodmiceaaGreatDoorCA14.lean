/- Lemmas 14. -/
import Derived.Test.YtkjhcikodmiceaaGreatDoorCA13
import Derived.RangeFuncLeaves
import Derived.RangeFuncNested
namespace Go.Eng
abbrev Ap8:=List (Nat×HO)
variable {ps:Array Tmp}{fn:Func}{F7 body:Code}{args:List AV}{c rest:Code}(cx:Cx)(σ:I7)
def Vm:Obj->Bool
 |.cells ..=>false
 |.map ..=>false
 |.mapIter ..=>false
 |.loop r=>!Oh [] r.body
 |_=>true
structure XL(n0 x:Nat)(w:World)(g:D)(h:Nat->HO)(w' : World)(g' : D)(h' : Nat->HO):Prop where
 os:w'.os=w.os
 tape:w'.tape=w.tape
 output:w'.output=w.output
 size:w.heap.size<=w'.heap.size
 frame:∀b,b<n0->b≠x->(∀r,(h r).live->g.own r≠some b)->w'.heap[b]?=w.heap[b]?
 loc:∀r b,(h' r).live->g'.own r=some b->n0<=b\/∃r',(h r').live/\g.own r'=some b
 sg:∀b o,g'.S b o->g.S b o\/n0<=b\/∃r',(h r').live/\g.own r'=some b
 le:Le h g w h' g' w'
section
variable {P:Program}{N:Nat}{ds:List Deferred}{n0 x:Nat}{w w' w1 w2:World}{g g' g1 g2:D}{h h' h1 h2:Nat->HO}
theorem XL.trans(a:XL n0 x w g h w1 g1 h1)(b:XL n0 x w1 g1 h1 w2 g2 h2):XL n0 x w g h w2 g2 h2 where
 os:=b.os.trans a.os
 tape:=b.tape.trans a.tape
 output:=b.output.trans a.output
 size:=Az a.size b.size
 frame c hc hx hn:=(b.frame c hc hx fun r hl e=>by
  rcases a.loc r c hl e with h | ⟨r',h1,h2⟩<;>grind).trans (a.frame c hc hx hn)
 loc r c hl e:=by
  rcases b.loc r c hl e with h | ⟨r',h1,h2⟩
  .omega
  .exact a.loc r' c h1 h2
 sg c o hs:=by
  rcases b.sg c o hs with h | h | ⟨r',h1,h2⟩
  .exact a.sg c o h
  .omega
  .rcases a.loc r' c h1 h2 with h | h<;>simp_all
 le:=a.le.trans b.le
theorem XL.of_inv(hI:CH w g h h' g' w')(hL:Le h g w h' g' w')(hn:n0<=w.heap.size):XL n0 x w g h w' g' h' where
 os:=hI.os
 tape:=hI.tape
 output:=hI.output
 size:=hI.size
 frame c hc _ nI:=hI.frame c I nI
 loc r c hl e:=by
  rcases(hI.loc r c hl e).2 with h | h<;>grind
 sg c o hs:=by
  grind [CH.sg]
 le:=hL
theorem CH.base(hI:CH w g h h' g' w'):CH w' g' h' h' g' w' where
 os:=rfl
 tape:=rfl
 output:=rfl
 size:=Af _
 frame _ _ _:=rfl
 slt:=hI.slt
 objs:=hI.objs
 inj:=hI.inj
 loc r b hl e:=⟨(hI.loc r b hl e).1,.inr ⟨r,hl,e⟩⟩
 sg _ _ hs:=.inl hs
 glob:=hI.glob
theorem CH.of_seg(hI:CH w' g' h' h' g' w')(s:XL w.heap.size x w g h w' g' h')(hx:x<w.heap.size->w'.heap[x]?=w.heap[x]?):CH w g h h' g' w' where
 os:=s.os
 tape:=s.tape
 output:=s.output
 size:=s.size
 frame b hb hn:=by
  grind [XL.frame]
 slt:=hI.slt
 objs:=hI.objs
 inj:=hI.inj
 loc r b hl e:=⟨(hI.loc r b hl e).1,s.loc r b hl e⟩
 sg:=s.sg
 glob:=hI.glob
theorem Ld{U:Nat->Prop}{r b:Nat}{o:HO}{ob:Obj}(ho:DE g w U r o)(hl:o.live)(e:g.own r=some b)(hb:w.heap[b]?=some ob)(hd:Vm ob=true):False:=by
 cases o with
 |free=>exact hl
 |dead=>exact hl
 |ro cs=>exact hl
 |rom sh BM=>exact hl
 |cells cs=>
  obtain⟨_,b',E,vs,h1,_,h3,_⟩:=ho;rw[e]at h1;cases h1;rw[hb]at h3;cases h3;cases hd
 |tok sz n=>
  obtain⟨_,_,a,cap,_,(⟨_,h1⟩ | ⟨_,b',E,vs,off,_,h1,⟨_,h3,_⟩,_⟩)⟩:=ho
  .simp_all
  .rw[e]at h1;cases h1;rw[hb]at h3;cases h3;cases hd
 |vox v=>exact hl
 |raw b' lw=>
  obtain⟨_,h1,h2,h3,_⟩:=ho;rw[e]at h1;cases h1;rw[hb]at h2;cases h2;cases ob<;>simp[Vm,Ae4]at hd h3
  simp_all
 |var sz v n=>
  obtain⟨_,_,a,cap,_,(⟨_,h1⟩ | ⟨_,b',E,vs,off,_,h1,⟨_,h3,_⟩,_⟩)⟩:=ho
  .simp_all
  .rw[e]at h1;cases h1;rw[hb]at h3;cases h3;cases hd
 |arr sz es=>
  obtain⟨_,_,_,(⟨_,_,h1⟩ | ⟨b',cap,E,vs,_,h1,_,h3,_⟩)⟩:=ho
  .simp_all
  .rw[e]at h1;cases h1;rw[hb]at h3;cases h3;cases hd
 |map sh BM=>
  obtain⟨_,b',es,ck,h1,_,h3,_⟩:=ho;rw[e]at h1;cases h1;rw[hb]at h3;cases h3;cases hd
 |mapU sh BM=>
  obtain⟨_,b',es,ck,h1,_,h3,_⟩:=ho;rw[e]at h1;cases h1;rw[hb]at h3;cases h3;cases hd
 |iter all rem DU=>
  obtain⟨_,b',mb,Ku,seen,st,es,ck,h1,_,h3,_⟩:=ho;rw[e]at h1;cases h1;rw[hb]at h3;cases h3;cases hd
theorem CH.dullS(hI:CH w g h h g w)(ho:w'.os=w.os/\w'.tape=w.tape/\w'.output=w.output)(EC:w.heap.size<=w'.heap.size)
  (hb:∀b,b<w.heap.size->w'.heap[b]?=w.heap[b]?\/∃o o',w.heap[b]?=some o/\w'.heap[b]?=some o'/\Vm o=true/\Vm o'=true)
  (hn:∀b,b<n0->b≠x->w'.heap[b]?=w.heap[b]?):CH w' g h h g w'/\XL n0 x w g h w' g h:=by
 have hk:D8 g w g w':=fun b o hs=>by
  refine⟨hs,?_⟩;rcases hb b (hI.slt b o hs)with e | ⟨ob,lw,e1,e2,d1,d2⟩
  .grind [World.cell?]
  .refine⟨?_,fun es ck he=>?_⟩
   .simp only[World.cell?,e1,e2];cases ob<;>cases lw<;>first | rfl | (cases d1;done) | (cases d2;done)
   .rw[e1]at he;cases he;cases d1
 have Ph:∀r b,(h r).live->g.own r=some b->w'.heap[b]?=w.heap[b]?:=fun r b hl e=>by
  rcases hb b (hI.loc r b hl e).1 with e' | ⟨ob,lw,e1,_,d1,_⟩
  .exact e'
  .exact(Ld (hI.objs r) hl e e1 d1).elim
 refine⟨⟨rfl,rfl,rfl,Af _,fun _ _ _=>rfl,fun b o hs=>AF (hI.slt b o hs) EC,fun r=>?_,hI.inj,fun r b hl e=>⟨AF (hI.loc r b hl e).1 EC,.inr ⟨r,hl,e⟩⟩,fun _ _ hs=>.inl hs,hI.glob.keep hk⟩,⟨ho.1,ho.2.1,ho.2.2,EC,fun b ky hx _=>hn b ky hx,fun r b hl e=>.inr ⟨r,hl,e⟩,fun _ _ hs=>.inl hs,⟨.refl _ _,fun _ h=>h,hk⟩⟩⟩;exact(hI.objs r).same hk (fun _ h=>h) (.refl _ _) rfl rfl rfl rfl fun b hl e=>⟨Ph r b hl e,fun _ h=>h⟩
theorem CH.put(hI:CH w g h h g w){l:Nat}{o o' : Obj}(hl:w.heap[l]?=some o)(hd:Vm o=true)(vg : Vm o'=true)(hx:n0<=l\/l=x) :
  CH (w.putObj l o') g h h g (w.putObj l o')/\XL n0 x w g h (w.putObj l o') g h:=by
 grind [World.putObj,CH.dullS]
theorem CH.allocS(hI:CH w g h h g w)(o:Obj)(hn:n0<=w.heap.size):CH (w.alloc o) g h h g (w.alloc o)/\XL n0 x w g h (w.alloc o) g h:=by
 refine hI.dullS ⟨rfl,rfl,rfl⟩ aa0 (fun b hb=>.inl (heap_alloc_old _ _ hb)) (fun b hb _=>heap_alloc_old _ _ I)
end
abbrev GC(fn:FuncId)(tm:Array Value)(ps:Array Tmp)(F7 body:Code)(D:Nat)(s:LoopState):Loop:=
 { state:=s,pending:=none,fn:=fn,tmps:=tm,params:=ps,assign:=F7,body:=body,defers:=D }
def wl:List Nat->List AV->(Nat->AV)->Nat->AV
 |p::ps,v::vs,e=>wl ps vs (KE e p v)
 |_,_,e=>e
section
variable {P:Program}{N:Nat}{w:World}{g:D}
theorem cQ{U:Nat->Prop}:∀{ps:List Nat} {args:List AV} {vals:List Value} {tm:Array Value} {env:Nat->AV},vals.length=args.length->args.length=ps.length->(∀p∈ps,p<tm.size) ->
  (∀(i:Nat) (av:AV) (x:Value),args[i]?=some av->vals[i]?=some x->O g w U av x)->(∀i,O g w U (env i) (tm.getD i undef)) ->
  ((ps.zip vals).foldl (fun t p=>t.setIfInBounds p.1 p.2) tm).size=tm.size/\∀i,O g w U (wl ps args env i) (((ps.zip vals).foldl (fun t p=>t.setIfInBounds p.1 p.2) tm).getD i undef)
 | [],args,vals,tm,env,_,h2,_,_,he=>by
  have:args=[]:=AI h2
  subst this;exact⟨rfl,he⟩
 |p::ps,[],vals,tm,env,_,h2,_,_,_=>by cases h2
 |p::ps,a::args,[],tm,env,h1,_,_,_,_=>by cases h1
 |p::ps,a::args,v::vals,tm,env,h1,h2,h3,h4,he=>by
  have hp:=h3 p (Ad ..)
  obtain⟨q1,q2⟩:=cQ (ps:=ps) (args:=args) (vals:=vals) (tm:=tm.setIfInBounds p v) (env:=KE env p a) aa0 aa0 (fun q hq=>by simp_all)
   (fun i av x e1 e2=>h4 (i+1) av x aa0 aa0) (fun i=>by
    by_cases e:i=p
    .subst e;have e1:KE env i a i=a:=by simp[KE]
     have e2:(tm.setIfInBounds i v).getD i undef=v:=aa0
     rw[e1,e2];exact h4 0 a v rfl rfl
    .have e1:KE env p a i=env i:=by grind [KE,Dw]
     have e2:(tm.setIfInBounds p v).getD i undef=tm.getD i undef:=by
      simp[Array.getD_eq_getD_getElem?,Array.getElem?_setIfInBounds_ne (Ne.symm e)]
     simp_all)
  exact⟨by simp_all,q2⟩
def XK(P:Program)(Y:D->World->Prop)(σ:I7)(f:Nat)(args:List AV)(h0:Nat->HO)(Q:AV->(Nat->HO)->Prop):Prop:=
 Fx P f/\∀(g:D) (w:World) (vals:Array Value),vals.size=args.length->(∀(i:Nat) (av:AV) (x:Value),args[i]?=some av->vals[i]?=some x->O g w (L h0) av x) ->
  CH w g h0 h0 g w->(∀h' g' w',CH w g h0 h' g' w'->Le h0 g w h' g' w'->Y (DA σ g') w') ->
  Calls P f vals w fun e w'=>∃v r h' g',e=.returned v/\Q r h'/\O g' w' (L h') r v/\CH w g h0 h' g' w'/\Le h0 g w h' g' w'
theorem rR{Y:D->World->Prop}{l:Nat}{f:Nat}{H0:Ap8}{Q:AV->(Nat->HO)->Prop}(hP:cx.P=P)(hT:B8 P cx.T)(hm:P.follows .mixedOrders=true)(hx:cx.ext=true)(hf:P.funcs[f]?=some fn)(hn : (fn.name == "runtime.NumGoroutine")=false)(hb : fn.body=some c)(hN : args.length <= fn.ntmps)(hc : D4 fn.ntmps c=true)(hσ : (GD σ && HX σ H0)=true)(hy:cx.yp=fun l' σ' g w=>l'=l->σ'=σ->Y g w)(hk:Tn cx c (cN cx fn.results.toList σ Q) ⟨Qm args,Ah H0 Ab⟩):XK P Y σ f args (Ah H0 Ab) Q:=
 ⟨⟨fn,hf,hn,by simp_all⟩,fun g w vals hs hv hI hp=>de cx σ hP hT hm hx hf hn hb hN hc hσ hk hs hv hI fun l' σ' h' g' w' _ q1 q2=>by
  grind⟩
theorem Aa8{ve s:Nat}(hP:cx.P=P)(hT:B8 P cx.T)(hm:P.follows .mixedOrders=true)(hx:cx.ext=true){σ:I7}{H0 Hn:Ap8}(hσ:(GD σ&&HX σ H0)=true)(hσn:HX σ Hn=true){env:Nat->AV}{gf:Nat}{caps:List AV}(hF:env s=.clo gf caps){Qv:AV->Prop}(hIT:∀(l D:Nat) (f' : FuncId) (tm:Array Value),tm.size=N->XK P (fun g w=>w.heap[l]?=some (.loop (GC f' tm ps F7 body D .ready))/\∀i,O g w (L (Ah H0 Ab)) (env i) (tm.getD i undef)) σ gf
   (.v (.func (.yield l) #[] #[])::caps) (Ah H0 Ab) fun _ h'=>h'=Ah Hn Ab)(hcr:D4 N rest=true)(hbk:Oh [] body=false)(Yl:Tn cx rest (wj cx fn.results.toList Qv) ⟨env,Ah Hn Ab⟩)(hY:∀l σ g w,cx.yp l σ g w){a:Act}(ha:a.defers=[])(hN:a.tmps.size=N)(hI:CH w g (Ah H0 Ab) (Ah H0 Ab) g w)(JJ:∀i,O g w (L (Ah H0 Ab)) (env i) (a.tmps.getD i undef)){R:Ending->World->Prop}(hR:∀v r h' g' w',Qv r->O g' w' DS r v->CH w g (Ah H0 Ab) h' g' w'->Le (Ah H0 Ab) g w h' g' w'->R (.returned v) w') :
  (Code.block ve (.rangeFunc (.tmp s) ps F7 body)).wpIn (K2 none) 0 P (Exit.then (rest.wpIn (K2 none) 0 P (bodyPostM (K2 none) 0 P fn R)) (bodyPostM (K2 none) 0 P fn R)) a w:=by
 simp only[Ao]at hσ;have hdl:∀f' tm D s,Vm (.loop (GC f' tm ps F7 body D s))=true:=fun _ _ _ _=>by show(!Oh [] body)=true;simp_all
 refine wpIn_block (wpIn_rangeFunc fun f' _=>?_);have hs:=JJ s;rw[hF]at hs;have dn:a.eval (.tmp s)=a.tmps.getD s undef:=rfl;generalize hfv:a.tmps.getD s undef=fv at hs dn;cases hs with
 |clo _ _ _ lb EC Pf=>
 obtain⟨i0,s0⟩:=hI.allocS (n0:=w.heap.size) (x:=w.heap.size) (.deferred (some [])) (Af _);obtain⟨i1,s1⟩:=i0.allocS (n0:=w.heap.size) (x:=w.heap.size) (.loop (GC f' a.tmps ps F7 body w.heap.size .ready)) aa0;generalize hW:(w.alloc (.deferred (some []))).alloc (.loop (GC f' a.tmps ps F7 body w.heap.size .ready))=W1 at i1 s1;have AkI:W1.heap.size=w.heap.size+2:=by grind [World.size_alloc]
 have hl:W1.heap[w.heap.size+1]?=some (.loop (GC f' a.tmps ps F7 body w.heap.size .ready)):=by
  grind [World.alloc_heap_new]
 have hD:W1.heap[w.heap.size]?=some (.deferred (some [])):=by
  grind [heap_alloc_old,World.alloc_heap_new]
 have OB:∀b ob,W1.heap[b]?=some ob->Vm ob=true->∀r,((Ah H0 Ab) r).live->g.own r≠some b:=fun b ob hb hd r hr e=>Ld (i1.objs r) hr e hb hd;have S1:=s0.trans s1;have hit:=hIT (w.heap.size+1) w.heap.size f' a.tmps hN
 refine⟨w.heap.size+1,[{ target:=.collected w.heap.size,args:=#[] }],W1,{ target:=.fn (.func gf) lb,args:=#[.func (.yield (w.heap.size+1)) #[] #[]] },W1,gf,
  #[.func (.yield (w.heap.size+1)) #[] #[]]++lb,W1,?_,?_,fun _ _=>trivial,?_,fun e=>(by cases e),?_⟩
 .grind [run_enterLoop_outer]
 .simp only[resolve,dn];simp[go_sem]
 .simp only[invoke];rw[FO hit.1]
 refine callsIn_wide.2 ((hit.2 g W1 _ aa2 (fun i av x e1 e2=>?_) i1 (fun h' g' w' q1 q2=>?_)).mono ?_)
 .cases i with
  |zero=>
   grind [O.v]
  |succ i=>
   have e2:lb[i]?=some x:=aa2
   exact(Pf i av x aa0 e2).le S1.le
 .obtain⟨_,_,j2⟩:=NQ hσ.1 hσ.2 q1 q2;refine⟨(q1.frame _ I (OB _ _ hl (hdl _ _ _ _))).trans hl,fun i=>?_⟩;exact((JJ i).le S1.le).mono j2.keeps (fun _ h=>h) j2.gh
 rintro e w2 ⟨v,r,h',g2,rfl,rfl,_,q3,q4⟩
 have Xu:w2.heap[w.heap.size+1]?=some (.loop (GC f' a.tmps ps F7 body w.heap.size .ready)):=(q3.frame _ I (OB _ _ hl (hdl _ _ _ _))).trans hl;have hD2:w2.heap[w.heap.size]?=some (.deferred (some [])):=(q3.frame _ I (OB _ _ hD rfl)).trans hD;refine⟨none,_,run_endLoop Xu (fun e=>by cases e),?_⟩;obtain⟨i4,s4⟩:=q3.base.put (n0:=w.heap.size) (x:=w.heap.size) (o':=.loop { GC f' a.tmps ps F7 body w.heap.size .ready with state:=.exhausted }) Xu (hdl _ _ _ _) (hdl f' a.tmps w.heap.size .exhausted) (.inl I);have S4:=(S1.trans (XL.of_inv q3 q4 I)).trans s4;generalize hW4:w2.putObj (w.heap.size+1) (.loop { GC f' a.tmps ps F7 body w.heap.size .ready with state:=.exhausted })=w4 at i4 s4 S4;have hD4:w4.heap[w.heap.size]?=some (.deferred (some [])):=by grind [World.putObj_heap_other]
 have hE:Kb cx (Ah Hn Ab):=by unfold Kb;rw[hx];exact fun i hi=>⟨(Fz hσn i hi).1,(Fz hσn i hi).2.1⟩
 have hS4:SR N [{ target:=.collected w.heap.size,args:=#[] }] w4 g2 (Ah Hn Ab) ⟨env,Ah Hn Ab⟩ g2 { a with defers:=[{ target:=.collected w.heap.size,args:=#[] }]++a.defers } w4:=
  ⟨i4,.refl _ _ _,by simp_all,hN,fun i=>(JJ i).le S4.le⟩
 refine MU hP hT hm hE (fun l σ _ _ w _ _ _=>hY l σ _ w) none rest hcr (fun e st5 g5 a5 w5 hq ap=>?_) hS4 Yl;have fin:te cx st5 fn.results.toList Qv->LeavesInM (K2 none) 0 P fn a5.tmps R a5.defers .returning w5:=by
  intro hk;have hD5:w5.heap[w.heap.size]?=some (.deferred (some [])):=(ap.inv.frame _ (Ag.1 hD4).1 (fun r hr e=>Ld (i4.objs r) hr e hD4 rfl)).trans hD4;rw[ap.dfs];refine⟨by simp,.inl ⟨w.heap.size,_,rfl,run_takeDeferred hD5,?_⟩⟩;obtain⟨i6,s6⟩:=ap.inv.base.put (n0:=w.heap.size) (x:=w.heap.size) (o':=.deferred none) hD5 rfl rfl (.inr rfl);have hS6:SR N [{ target:=.collected w.heap.size,args:=#[] }] (w5.putObj w.heap.size (.deferred none)) g5 st5.h st5 g5 a5 (w5.putObj w.heap.size (.deferred none)):=⟨i6,.refl _ _ _,ap.dfs,ap.size,fun i=>(ap.slots i).le s6.le⟩;obtain⟨g7,r,v,h7,k1,k2,k3,k4,k5⟩:=lz hT hS6 hk;have S7:=((S4.trans (XL.of_inv ap.inv ap.le (Az (Af _) S4.size))).trans s6).trans (XL.of_inv k3 k4 (Az (Af _) ((S4.trans (XL.of_inv ap.inv ap.le (Az (Af _) S4.size))).trans s6).size));exact⟨v,k2,hR v r h7 g7 _ k1 k5 (k3.base.of_seg S7 fun h=>absurd h (Nat.lt_irrefl _)) S7.le⟩
 cases e with
 |normal=>exact fin hq
 |ret=>exact fin hq
 |exit id=>exact hq.elim
end
def vK(cx:Cx):Nat->Code->(Ex->St->Prop)->(Code->Code->St->Prop)->St->Prop
 |0,.seq (.seq a b) d,Q,K,st=>Tn cx a (fun e E6=>match e with |.normal=>K b d E6 |e=>Q e E6) st
 |0,.seq b d,_,K,st=>K b d st
 |n+1,.seq a b,Q,K,st=>Tn cx a (fun e E6=>match e with |.normal=>vK cx n b Q K E6 |e=>Q e E6) st
 |_,_,_,_,_=>False
section
variable {P:Program}{N:Nat}{ds:List Deferred}{w0:World}{g0:D}{h0:Nat->HO}{st:St}{g:D}{a:Act}{w:World}
theorem vL{cx:Cx}(hP:cx.P=P)(hT:B8 P cx.T)(hm:P.follows .mixedOrders=true)(hE:Kb cx h0)(hY:∀l σ h g w,Ea σ=true->CH w0 g0 h0 h g w->Le h0 g0 w0 h g w->cx.yp l σ (DA σ g) w)
  {Qa:Ex->St->Prop} {K:Code->Code->St->Prop} {Q:Exit->Act->World->Prop} (hQ:∀e st g a w,e≠.normal->Qa e st->SR N ds w0 g0 h0 st g a w->Q e.real a w)
  (hK:∀b d st g a w,K b d st->SR N ds w0 g0 h0 st g a w->b.wpIn (K2 none) 0 P (Exit.then (d.wpIn (K2 none) 0 P Q) Q) a w) :
  ∀(n:Nat) (c:Code),D4 N c=true->∀{st:St} {g:D} {a:Act} {w:World},SR N ds w0 g0 h0 st g a w->vK cx n c Qa K st->c.wpIn (K2 none) 0 P Q a w:=by
 intro n
 induction n with
 |zero=>
  intro c hc st g a w hS hk;cases c with
  |seq y d=>
   simp only[D4,Ao]at hc;cases y with
   |seq x b=>
    have hk:Tn cx x (fun e E6=>match e with | .normal=>K b d E6 | e=>Qa e E6) st:=hk;simp only[D4,Ao]at hc;refine wpIn_seq (wpIn_seq (MU hP hT hm hE hY none x hc.1.1 (Qa:=fun e E6=>match e with | .normal=>K b d E6 | e=>Qa e E6) (fun e st g a w q hS=>?_) hS hk));cases e with
    |normal=>exact hK b d _ _ _ _ q hS
    |exit id=>exact hQ (.exit id) _ _ _ _ (fun e=>by cases e) q hS
    |ret=>exact hQ .ret _ _ _ _ (fun e=>by cases e) q hS
   |_=>exact wpIn_seq (hK _ d _ _ _ _ hk hS)
  |_=>exact hk.elim
 |succ n ih=>
  intro c hc st g a w hS hk;cases c with
  |seq x y=>
   simp only[D4,Ao]at hc;refine wpIn_seq (MU hP hT hm hE hY none x hc.1 (Qa:=fun e E6=>match e with | .normal=>vK cx n y Qa K E6 | e=>Qa e E6) (fun e st g a w q hS=>?_) hS hk);cases e with
   |normal=>exact ih y hc.2 hS q
   |exit id=>exact hQ (.exit id) _ _ _ _ (fun e=>by cases e) q hS
   |ret=>exact hQ .ret _ _ _ _ (fun e=>by cases e) q hS
  |_=>exact hk.elim
end
section
variable {P:Program}{N:Nat}{ds:List Deferred}{w0:World}{g0:D}{h0:Nat->HO}{st:St}{g:D}{a:Act}{w:World}
theorem SR.rebase{w1:World}{g1:D}{h1:Nat->HO}(hS:SR N ds w0 g0 h0 st g a w)(hI:CH w1 g1 h1 st.h g w)(hL:Le h1 g1 w1 st.h g w):SR N ds w1 g1 h1 st g a w:=⟨hI,hL,hS.dfs,hS.size,hS.slots⟩
theorem ly{cx:Cx}(hT:B8 P cx.T){H0:Ap8}{σ:I7}(hσ:GD σ=true)(hxo:HX σ H0=true){Q:AV->(Nat->HO)->Prop}(hS:SR N ds w0 g0 (Ah H0 Ab) st g a w)(hk:oH cx st fn.results.toList σ Q) :
  ∃v,(results fn a.tmps).run P w=.ok v w/\∃r h' g',Q r h'/\O g' w (L h') r v/\CH w0 g0 (Ah H0 Ab) h' g' w/\Le (Ah H0 Ab) g0 w0 h' g' w:=by
 obtain⟨g2,i1,i2⟩:=NT cx.pl.fin hS.inv;have Pe : SR N ds w0 g0 (Ah H0 Ab) ⟨st.t,Qw st.h cx.pl.fin⟩ g2 a w:=⟨i1,hS.le.trans i2,hS.dfs,hS.size,fun i=>(hS.slots i).le i2⟩;obtain⟨l,vs,h1,h2,h3,h4,h5⟩:=UI hT Pe _ hk;obtain⟨hR,j1,j2⟩:=NQ hσ hxo i1 Pe.le;have CV:(results fn a.tmps).run P w=.ok (if h:vs.toArray.size=1 then vs.toArray[0]else .tuple vs.toArray) w:=by
  rw[Px,show fn.results=fn.results.toList.toArray by simp,List.mapM_toArray];simp_all
 match l,vs,h1,h3,h5,CV with
 | [v],[x],h1,h3,h5,CV=>exact⟨x,by simp_all,_,_,_,h1,(h5 0 v x rfl rfl).ren hR,j1,j2⟩
 | [],vs,h1,h3,h5,CV=>
  have:vs=[]:=AI h3
  subst this;exact⟨.tuple #[],by simp_all,_,_,_,h1,O.ren hR (.tup _ [] _ rfl fun i av x q=>by simp_all),j1,j2⟩
 |v::v' :: l,vs,h1,h3,h5,CV=>
  refine⟨.tuple vs.toArray,?_,_,_,_,h1,O.ren hR (.tup _ _ _ I fun i av x q1 q2=>h5 i av x q1 aa0),j1,j2⟩;simp_all
theorem Acu{ve s:Nat}(hP:cx.P=P)(hT:B8 P cx.T)(hm:P.follows .mixedOrders=true)(hx:cx.ext=true){σ:I7}{H0 Hn:Ap8}(hσ:(GD σ&&HX σ H0)=true)(hσn:HX σ Hn=true){env:Nat->AV}{gf:Nat}{caps:List AV}(hF:env s=.clo gf caps){Qv:AV->(Nat->HO)->Prop}(hIT:∀(l D:Nat) (f' : FuncId) (tm:Array Value),tm.size=N->XK P (fun g w=>w.heap[l]?=some (.loop (GC f' tm ps F7 body D .ready))/\∀i,O g w (L (Ah H0 Ab)) (env i) (tm.getD i undef)) σ gf
   (.v (.func (.yield l) #[] #[])::caps) (Ah H0 Ab) fun _ h'=>h'=Ah Hn Ab)(hcr:D4 N rest=true)(hbk:Oh [] body=false)(Yl:Tn cx rest (cN cx fn.results.toList σ Qv) ⟨env,Ah Hn Ab⟩)(hY:∀l σ g w,cx.yp l σ g w){a:Act}(ha:a.defers=[])(hN:a.tmps.size=N)(hI:CH w g (Ah H0 Ab) (Ah H0 Ab) g w)(JJ:∀i,O g w (L (Ah H0 Ab)) (env i) (a.tmps.getD i undef)){R:Ending->World->Prop}(hR:∀v r h' g' w',Qv r h'->O g' w' (L h') r v->CH w g (Ah H0 Ab) h' g' w'->Le (Ah H0 Ab) g w h' g' w'->R (.returned v) w') :
  (Code.block ve (.rangeFunc (.tmp s) ps F7 body)).wpIn (K2 none) 0 P (Exit.then (rest.wpIn (K2 none) 0 P (bodyPostM (K2 none) 0 P fn R)) (bodyPostM (K2 none) 0 P fn R)) a w:=by
 simp only[Ao]at hσ;have hdl:∀f' tm D s,Vm (.loop (GC f' tm ps F7 body D s))=true:=fun _ _ _ _=>by show(!Oh [] body)=true;simp_all
 refine wpIn_block (wpIn_rangeFunc fun f' _=>?_);have hs:=JJ s;rw[hF]at hs;have dn:a.eval (.tmp s)=a.tmps.getD s undef:=rfl;generalize hfv:a.tmps.getD s undef=fv at hs dn;cases hs with
 |clo _ _ _ lb EC Pf=>
 obtain⟨i0,s0⟩:=hI.allocS (n0:=w.heap.size) (x:=w.heap.size) (.deferred (some [])) (Af _);obtain⟨i1,s1⟩:=i0.allocS (n0:=w.heap.size) (x:=w.heap.size) (.loop (GC f' a.tmps ps F7 body w.heap.size .ready)) aa0;generalize hW:(w.alloc (.deferred (some []))).alloc (.loop (GC f' a.tmps ps F7 body w.heap.size .ready))=W1 at i1 s1;have AkI:W1.heap.size=w.heap.size+2:=by grind [World.size_alloc]
 have hl:W1.heap[w.heap.size+1]?=some (.loop (GC f' a.tmps ps F7 body w.heap.size .ready)):=by
  grind [World.alloc_heap_new]
 have hD:W1.heap[w.heap.size]?=some (.deferred (some [])):=by
  grind [heap_alloc_old,World.alloc_heap_new]
 have OB:∀b ob,W1.heap[b]?=some ob->Vm ob=true->∀r,((Ah H0 Ab) r).live->g.own r≠some b:=fun b ob hb hd r hr e=>Ld (i1.objs r) hr e hb hd;have S1:=s0.trans s1;have hit:=hIT (w.heap.size+1) w.heap.size f' a.tmps hN
 refine⟨w.heap.size+1,[{ target:=.collected w.heap.size,args:=#[] }],W1,{ target:=.fn (.func gf) lb,args:=#[.func (.yield (w.heap.size+1)) #[] #[]] },W1,gf,
  #[.func (.yield (w.heap.size+1)) #[] #[]]++lb,W1,?_,?_,fun _ _=>trivial,?_,fun e=>(by cases e),?_⟩
 .grind [run_enterLoop_outer]
 .simp only[resolve,dn];simp[go_sem]
 .simp only[invoke];rw[FO hit.1]
 refine callsIn_wide.2 ((hit.2 g W1 _ aa2 (fun i av x e1 e2=>?_) i1 (fun h' g' w' q1 q2=>?_)).mono ?_)
 .cases i with
  |zero=>
   grind [O.v]
  |succ i=>
   grind [O.le,XL.le]
 .obtain⟨_,_,j2⟩:=NQ hσ.1 hσ.2 q1 q2;refine⟨(q1.frame _ I (OB _ _ hl (hdl _ _ _ _))).trans hl,fun i=>?_⟩;exact((JJ i).le S1.le).mono j2.keeps (fun _ h=>h) j2.gh
 rintro e w2 ⟨v,r,h',g2,rfl,rfl,_,q3,q4⟩
 have Xu:w2.heap[w.heap.size+1]?=some (.loop (GC f' a.tmps ps F7 body w.heap.size .ready)):=(q3.frame _ I (OB _ _ hl (hdl _ _ _ _))).trans hl;have hD2:w2.heap[w.heap.size]?=some (.deferred (some [])):=(q3.frame _ I (OB _ _ hD rfl)).trans hD;refine⟨none,_,run_endLoop Xu (fun e=>by cases e),?_⟩;obtain⟨i4,s4⟩:=q3.base.put (n0:=w.heap.size) (x:=w.heap.size) (o':=.loop { GC f' a.tmps ps F7 body w.heap.size .ready with state:=.exhausted }) Xu (hdl _ _ _ _) (hdl f' a.tmps w.heap.size .exhausted) (.inl I);have S4:=(S1.trans (XL.of_inv q3 q4 I)).trans s4;generalize hW4:w2.putObj (w.heap.size+1) (.loop { GC f' a.tmps ps F7 body w.heap.size .ready with state:=.exhausted })=w4 at i4 s4 S4;have hD4:w4.heap[w.heap.size]?=some (.deferred (some [])):=by grind [World.putObj_heap_other]
 have hE:Kb cx (Ah Hn Ab):=by unfold Kb;rw[hx];exact fun i hi=>⟨(Fz hσn i hi).1,(Fz hσn i hi).2.1⟩
 have hS4:SR N [{ target:=.collected w.heap.size,args:=#[] }] w4 g2 (Ah Hn Ab) ⟨env,Ah Hn Ab⟩ g2 { a with defers:=[{ target:=.collected w.heap.size,args:=#[] }]++a.defers } w4:=
  ⟨i4,.refl _ _ _,by simp_all,hN,fun i=>(JJ i).le S4.le⟩
 refine MU hP hT hm hE (fun l σ _ _ w _ _ _=>hY l σ _ w) none rest hcr (fun e st5 g5 a5 w5 hq ap=>?_) hS4 Yl;have fin:oH cx st5 fn.results.toList σ Qv->LeavesInM (K2 none) 0 P fn a5.tmps R a5.defers .returning w5:=by
  intro hk;have hD5:w5.heap[w.heap.size]?=some (.deferred (some [])):=(ap.inv.frame _ (Ag.1 hD4).1 (fun r hr e=>Ld (i4.objs r) hr e hD4 rfl)).trans hD4;rw[ap.dfs];refine⟨by simp,.inl ⟨w.heap.size,_,rfl,run_takeDeferred hD5,?_⟩⟩;obtain⟨i6,s6⟩:=ap.inv.base.put (n0:=w.heap.size) (x:=w.heap.size) (o':=.deferred none) hD5 rfl rfl (.inr rfl);have hS6:SR N [{ target:=.collected w.heap.size,args:=#[] }] (w5.putObj w.heap.size (.deferred none)) g5 st5.h st5 g5 a5 (w5.putObj w.heap.size (.deferred none)):=⟨i6,.refl _ _ _,ap.dfs,ap.size,fun i=>(ap.slots i).le s6.le⟩;have S6:=(S4.trans (XL.of_inv ap.inv ap.le (Az (Af _) S4.size))).trans s6;obtain⟨v,k2,r,h7,g7,k1,k5,k3,k4⟩:=ly (H0:=H0) hT hσ.1 hσ.2 (SR.rebase hS6 (i6.of_seg S6 fun h=>absurd h (Nat.lt_irrefl _)) S6.le) hk;exact⟨v,k2,hR v r h7 g7 _ k1 k5 k3 k4⟩
 cases e with
 |normal=>exact fin hq
 |ret=>exact fin hq
 |exit id=>exact hq.elim
end
section
variable {P:Program}{N:Nat}{w:World}{g:D}
theorem pI(o k r:Nat){H:Ap8}(cx:Cx)(hP:cx.P=P)(hT:B8 P cx.T)(hm:P.follows .mixedOrders=true)(hx:cx.ext=true){σ:I7}(hσ:(GD σ&&HX σ H)=true){fn:FuncId}{tm:Array Value}{D l:Nat}{env:Nat->AV}{U:Nat->Prop}{Q:AV->(Nat->HO)->Prop}(nJ:args.length=ps.toList.length)(hN:tm.size=N)(hpN:(ps.toList.all fun p=>Nat.blt p N)=true)(hca:D4 N F7=true)(hcb:D4 N body=true)(hU:∀i,U i->L (Ah H Ab) i)(hk:Tn cx F7 (fun e st=>match e with | .normal=>Tn cx body (fun e st=>match e with | .normal=>rvK st.h o k r fun h'=>Q (.v (.bool true)) (Fv σ (Qw h' cx.pl.fin)) | _=>False) st | _=>False) ⟨wl ps.toList args env,Ah H Ab⟩)(hY:∀l σ g w,cx.yp l σ g w:=by exact fun _ _ _ _=>trivial)(hbk:Oh [] body=false:=by kernel_rfl) :
  I9 P (fun g w=>w.heap[l]?=some (.loop (GC fn tm ps F7 body D .ready))/\∀i,O g w U (env i) (tm.getD i undef)) l args (Ah H Ab) Q:=by
 simp only[Ao]at hσ;intro g w vals hs hv hI ⟨hl,JJ⟩;have CL:l<w.heap.size:=(Ag.1 hl).1;have hdl:∀s,Vm (.loop (GC fn tm ps F7 body D s))=true:=fun s=>by show(!Oh [] body)=true;simp_all
 have hE:Kb cx (Ah H Ab):=by unfold Kb;rw[hx];exact fun i hi=>⟨(Fz hσ.2 i hi).1,(Fz hσ.2 i hi).2.1⟩
 have OB:∀r,((Ah H Ab) r).live->g.own r≠some l:=fun r hr e=>Ld (hI.objs r) hr e hl (hdl _);have AmW:∀(t0:Array Value),(ps.zip vals).foldl (fun tmps (p:Nat×Value)=>tmps.setIfInBounds p.1 p.2) t0=(ps.toList.zip vals.toList).foldl (fun t p=>t.setIfInBounds p.1 p.2) t0:=fun t0=>by
  grind [Array.toList_zip]
 have hry:=run_yield (P:=P) (args:=vals) hl aa0;refine⟨fn,_,F7,body,hry,roundIn_of_wpIn trivial ?_⟩;obtain⟨z1,z2⟩:=cQ (U:=L (Ah H Ab)) (ps:=ps.toList) (args:=args) (vals:=vals.toList) (tm:=tm) (env:=env) I nJ (fun p hp=>by
  grind [Nat.blt_eq]) (fun i av x e1 e2=>hv i av x e1 aa0) (fun i=>(JJ i).mono (.refl _ _) hU (.refl _ _))
 have hS0:SR N [] w g (Ah H Ab) ⟨wl ps.toList args env,Ah H Ab⟩ g { tmps:=(ps.zip vals).foldl (fun tmps (p:Nat×Value)=>tmps.setIfInBounds p.1 p.2) tm,defers:=[] } w:=by
  grind [SR.mk,Le.refl]
 refine MU hP hT hm hE (fun l σ _ _ w _ _ _=>hY l σ _ w) (some l) F7 hca (fun e st1 g1 a1 w1 hq wG=>?_) hS0 hk;cases e with
 |exit _=>simp_all
 |ret=>simp_all
 |normal=>
  have hl1:w1.heap[l]?=some (.loop (GC fn tm ps F7 body D .ready)):=(wG.inv.frame l CL OB).trans hl;refine⟨_,run_beginRound hl1 rfl,?_⟩;obtain⟨iS,sS⟩:=hI.put (n0:=w.heap.size) (x:=l) (o':=.loop (GC fn tm ps F7 body D .busy)) hl (hdl _) (hdl _) (.inr rfl);have hlS:(w.putObj l (.loop (GC fn tm ps F7 body D .busy))).heap[l]?=some (.loop (GC fn tm ps F7 body D .busy)):=World.putObj_heap_same CL;have AkJ:(w.putObj l (.loop (GC fn tm ps F7 body D .busy))).heap.size=w.heap.size:=aa0
  obtain⟨_,sB⟩:=iS.dullS (w':=w) (n0:=w.heap.size) (x:=l) ⟨rfl,rfl,rfl⟩ I (fun b _=>by
   grind [World.putObj_heap_other]) (fun b _ Ec=>(World.putObj_heap_other Ec).symm)
  obtain⟨i2,s2⟩:=wG.inv.base.put (n0:=w.heap.size) (x:=l) (o':=.loop (GC fn tm ps F7 body D .busy)) hl1 (hdl _) (hdl _) (.inr rfl);have S2:=(sB.trans (XL.of_inv wG.inv wG.le (Af _))).trans s2;have Xu:(w1.putObj l (.loop (GC fn tm ps F7 body D .busy))).heap[l]?=some (.loop (GC fn tm ps F7 body D .busy)):=World.putObj_heap_same (Ag.1 hl1).1;have hI2:=i2.of_seg (by rw[AkJ];exact S2) (fun _=>Xu.trans hlS.symm);have hS2:SR N [] (w.putObj l (.loop (GC fn tm ps F7 body D .busy))) g (Ah H Ab) st1 g1 a1 (w1.putObj l (.loop (GC fn tm ps F7 body D .busy))):=⟨hI2,S2.le,wG.dfs,wG.size,fun i=>(wG.slots i).le s2.le⟩;refine MU hP hT hm hE (fun l σ _ _ w _ _ _=>hY l σ _ w) (some l) body hcb (fun e st3 g3 a3 w3 hq hS3=>?_) hS2 hq;cases e with
  |exit _=>simp_all
  |ret=>simp_all
  |normal=>
   obtain⟨h3,g3',hS3,hq⟩:=tZ hS3 hq;have hl3:w3.heap[l]?=some (.loop (GC fn tm ps F7 body D .busy)):=(hS3.inv.frame l I OB).trans hlS;refine⟨.bool true,w3.putObj l (.loop (GC fn tm ps F7 body D .ready)),run_endRound none hl3,?_⟩;obtain⟨gf,if1,if2⟩:=NT cx.pl.fin hS3.inv;obtain⟨i4,s4⟩:=if1.base.put (n0:=w.heap.size) (x:=l) (o':=.loop (GC fn tm ps F7 body D .ready)) hl3 (hdl _) (hdl _) (.inr rfl);have S4:=(sS.trans (XL.of_inv if1 (hS3.le.trans if2) I)).trans s4;have hl4:(w3.putObj l (.loop (GC fn tm ps F7 body D .ready))).heap[l]?=some (.loop (GC fn tm ps F7 body D .ready)):=World.putObj_heap_same (Ag.1 hl3).1;have hI4:=i4.of_seg S4 (fun _=>hl4.trans hl.symm);obtain⟨_,j1,j2⟩:=NQ hσ.1 hσ.2 hI4 S4.le;exact⟨.bool true,.v (.bool true),_,_,rfl,hq,.v _ _,j1,j2⟩
end
def niK(h:Nat->HO)(o k r sz:Nat)(K:(Nat->HO)->Prop):Prop:=
 match h o with
 |.cells cs=>match Jq cs k with
  |.v (.slice none 0 0)=>match h r with
   |.free=>K (AS (AS h r (.var sz 0 0)) o (.cells (Fs cs k (.slice (.ver r sz 0) []))))
   |_=>False
  |_=>False
 |_=>False
section
variable {P:Program}{N:Nat}{ds:List Deferred}{w0:World}{g0:D}{h0:Nat->HO}{st:St}{g:D}{a:Act}{w:World}
theorem Acd(hS:SR N ds w0 g0 h0 st g a w){o k r sz:Nat}{K:(Nat->HO)->Prop}(hk:niK st.h o k r sz K):∃h' g',SR N ds w0 g0 h0 ⟨st.t,h'⟩ g' a w/\K h':=by
 unfold niK at hk;split at hk
 .rename_i cs e0;split at hk
  .rename_i e1;split at hk
   .rename_i hf;have hor:o≠r:=fun e=>by simp_all
    have Xd:=Jx cs k _ e1 aa1
    obtain⟨m1,m2⟩:=hS.inv.upd r (.var sz 0 0) (.slice none 0 0) 0 true none g.S w none ⟨rfl,rfl,rfl,Af _⟩ (fun _ _ _=>rfl) (fun b e=>by cases e) (fun _ _ h=>h) (fun _ _ h=>.inl h) (fun b o e=>by cases e) (fun b hh e=>by simp_all) aa1
     (fun hu=>absurd hf hu) (fun _ _=>by
      obtain⟨u1,u2,u3,u4⟩:=Bn g r (.slice none 0 0) 0 true none g.S;exact⟨u3,u2,none,0,u1,.inl ⟨rfl,u4⟩⟩)
    generalize kG:g.upd r (.slice none 0 0) 0 true none g.S=g1 at m1 m2;have gr:g1.tk r=true/\g1.ln r=0/\g1.ρ r=.slice none 0 0:=by grind [D.upd]
    have e0' : (AS st.h r (.var sz 0 0)) o=.cells cs:=by grind [BS]
    obtain⟨g3,p1,p2⟩:=Qb m1 e0' Xd (new:=.slice (.ver r sz 0) []) (fun y hy=>by
     grind [L,A0,cases O,O.ver,O.snil])
    exact⟨_,g3,⟨p1,hS.le.trans (m2.trans p2),hS.dfs,hS.size,fun i=>(hS.slots i).le (m2.trans p2)⟩,hk⟩
   simp_all
  simp_all
 simp_all
def RfV(o k r sz:Nat)(m7:Cx)(P:Program)(N:Nat)(fn:Func)(σ:I7)(Q:AV->(Nat->HO)->Prop)(b rest:Code)(st:St):Prop:=
 niK st.h o k r sz fun h1=>
  ∃(σF σr:I7) (H0 Hn:Ap8) (ve s:Nat) (ps:Array Tmp) (F7 body:Code) (gf:Nat) (caps:List AV),
  b=.block ve (.rangeFunc (.tmp s) ps F7 body)/\(Ea σF&&DO h1 0 0&&CQ σF 0 0)=true/\Fv σF h1=Ah H0 Ab/\(GD σr&&HX σr H0)=true/\HX σr Hn=true /\
  ren (Ck σF) h1 (st.t s)=.clo gf caps /\
  (∀(l D:Nat) (f' : FuncId) (tm:Array Value),tm.size=N->XK P (fun g w=>w.heap[l]?=some (.loop (GC f' tm ps F7 body D .ready))/\∀i,O g w (L (Ah H0 Ab)) (ren (Ck σF) h1 (st.t i)) (tm.getD i undef)) σr gf
   (.v (.func (.yield l) #[] #[])::caps) (Ah H0 Ab) fun _ h'=>h'=Ah Hn Ab) /\
  D4 N rest=true/\Oh [] body=false/\Tn m7 rest (cN m7 fn.results.toList σr fun r h'=>Q (ren (Ck σ) (DW σF 0 0 h1 h') (ren (E2 σF 0 0) h' r)) (Fv σ (DW σF 0 0 h1 h')))
   ⟨fun i=>ren (Ck σF) h1 (st.t i),Ah Hn Ab⟩
theorem mF (o k r sz : Nat){f : Nat}{args : List AV}{H : List (Nat × HO)}{Q : AV -> (Nat -> HO) -> Prop}(cx m7 : Cx)(σ : I7)(hP : cx.P=P)(hT : B8 P cx.T)(hP2 : m7.P=P)(hT2 : B8 P m7.T)(hm : P.follows .mixedOrders=true)(hx : cx.ext=true)(hx2 : m7.ext=true)(hf : P.funcs[f]?=some fn)(hn : (fn.name == "runtime.NumGoroutine")=false)(hb:fn.body=some c)(hN:args.length<=fn.ntmps)(hc:D4 fn.ntmps c=true)(hσ:(GD σ&&HX σ H)=true)(n:Nat)(hk:vK cx n c (cN cx fn.results.toList σ fun r h'=>∃r',Da r r'/\Q r' h') (RfV o k r sz m7 P fn.ntmps fn σ fun r h'=>∃r',Da r r'/\Q r' h') ⟨Qm args,Ah H Ab⟩)(hY:∀l σ g w,cx.yp l σ g w:=by exact fun _ _ _ _=>trivial)(hY2:∀l σ g w,m7.yp l σ g w:=by exact fun _ _ _ _=>trivial):A1 P f args (Ah H Ab) Q:=by
 refine A1.mono (Q:=fun r h'=>∃r',Da r r'/\Q r' h') ?_ fun _ _ ⟨r',s,q⟩=>⟨r',s,q⟩;simp only[Ao]at hσ;refine⟨⟨fn,hf,hn,by simp_all⟩,fun g w vals hs hv hI=>callsIn_wide.1 (callsIn_of_wp_marks (F:=Fence.wide) (n:=0) hf hb trivial ?_ rfl)⟩;have hE:Kb cx (Ah H Ab):=by unfold Kb;rw[hx];exact fun i hi=>⟨(Fz hσ.2 i hi).1,(Fz hσ.2 i hi).2.1⟩
 have hS:SR fn.ntmps [] w g (Ah H Ab) ⟨Qm args,Ah H Ab⟩ g { tmps:=vals++Array.replicate (fn.ntmps-vals.size) undef,defers:=[] } w:=by
  refine⟨hI,.refl _ _ _,rfl,by simp_all,fun i=>?_⟩
  have:=Qn (n:=fn.ntmps-vals.size) (args:=args) (vals:=vals.toList) I (fun i av x q1 q2=>hv i av x q1 aa0) i
  grind [Array.getD_eq_getD_getElem?,Array.toList_append,Array.toList_replicate]
 refine vL hP hT hm hE (fun l σ _ _ w _ _ _=>hY l σ _ w) (fun e st g' a w' Ec hk hS=>?_) (fun b rest st g' a w' hk hS=>?_) n c hc hS hk
 .have out:oH cx st fn.results.toList σ (fun r h'=>∃r',Da r r'/\Q r' h')->LeavesInM (K2 none) 0 P fn a.tmps (fun e w'=>∃v r h' g',e=Ending.returned v/\(∃r',Da r r'/\Q r' h')/\O g' w' (L h') r v/\CH w g (Ah H Ab) h' g' w'/\Le (Ah H Ab) g w h' g' w') a.defers .returning w':=by
   intro hk;obtain⟨v,q2,r,h',g2,q1,q3,q4,q5⟩:=ly hT hσ.1 hσ.2 hS hk;rw[hS.dfs];exact⟨v,q2,v,r,h',g2,rfl,q1,q3,q4,q5⟩
  cases e with
  |normal=>simp_all
  |ret=>exact out hk
  |exit id=>exact hk.elim
 .obtain⟨h1,g',hS,hk⟩:=Acd hS hk;obtain⟨σF,σr,H0,Hn,ve,s,ps,F7,body,gf,caps,rfl,k1,k2,k3,k4,k5,k6,k7,k9,k8⟩:=hk;have hσF:Ea σF=true:=aa0
  obtain⟨AjE,hI1⟩:=ai hS.inv hσF;rw[k2]at hI1;have JJ:∀i,O (DA σF g') w' (L (Ah H0 Ab)) (ren (Ck σF) h1 (st.t i)) (a.tmps.getD i undef):=fun i=>by
   have:=(hS.slots i).ren AjE
   simp_all
  refine NL (Q:=fun r h'=>∃r',Da (ren (Ck σ) (DW σF 0 0 h1 h') (ren (E2 σF 0 0) h' r)) r'/\Q r' (Fv σ (DW σF 0 0 h1 h'))) (C:=fun R'=>(∀e fV,R' e fV->(∃v r h' g',e=Ending.returned v/\(∃r',Da r r'/\Q r' h')/\O g' fV (L h') r v/\CH w g (Ah H Ab) h' g' fV/\Le (Ah H Ab) g w h' g' fV)) ->
   (Code.block ve (.rangeFunc (.tmp s) ps F7 body)).wpIn (K2 none) 0 P (Exit.then (rest.wpIn (K2 none) 0 P (bodyPostM (K2 none) 0 P fn (fun e fV=>∃v r h' g',e=Ending.returned v/\(∃r',Da r r'/\Q r' h')/\O g' fV (L h') r v/\CH w g (Ah H Ab) h' g' fV/\Le (Ah H Ab) g w h' g' fV))) (bodyPostM (K2 none) 0 P fn (fun e fV=>∃v r h' g',e=Ending.returned v/\(∃r',Da r r'/\Q r' h')/\O g' fV (L h') r v/\CH w g (Ah H Ab) h' g' fV/\Le (Ah H Ab) g w h' g' fV))) a w')
   (fun h k h2=>h fun e w r=>h2 _ _ (k _ _ r)) hS.inv (d:=0) (nn:=0) k1 (fun _ zL=>?_) (fun v r h' g2 w2 q1 q2 q3 q4=>?_) (fun _ _ h=>h)
  .rw[k2]at zL;exact Acu m7 hP2 hT2 hm hx2 k3 k4 k5 k6 k7 k9 k8 hY2 hS.dfs hS.size hI1 JJ fun v r h' g5 w5 q1 q2 q3 q4=>zL _ _ ⟨v,r,h',g5,rfl,q1,q2,q3,q4⟩
  .obtain⟨hR,j1,j2⟩:=NQ hσ.1 hσ.2 q2 (hS.le.trans q3);exact⟨v,_,_,_,rfl,q1,q4.ren hR,j1,j2⟩
end
end Go.Eng
namespace Go.Eng
open Go.Sort
end Go.Eng
namespace Go.Eng
end Go.Eng
