/- Lemmas 14. -/
import Derived.Test.YtkjhcikodmiceaaGreatDoorRA13
import Derived.RangeFuncLeaves
import Derived.RangeFuncNested
namespace Go.Eng
variable {fn:Func}{ps:Array Tmp}{args:List AV}{c Gv body:Code}(cx:Cx)(σ:IC)
def VT:Obj->Bool
 |.cells ..=>false
 |.map ..=>false
 |.mapIter ..=>false
 |.loop r=>!Ob [] r.body
 |_=>true
structure Zj(n0 x:Nat)(w:World)(g:Gh)(h:Nat->HO)(w' : World)(g' : Gh)(h' : Nat->HO):Prop where
 os:w'.os=w.os
 tape:w'.tape=w.tape
 output:w'.output=w.output
 size:w.heap.size<=w'.heap.size
 frame:∀b,b<n0->b≠x->(∀r,(h r).live->g.own r≠some b)->w'.heap[b]?=w.heap[b]?
 loc:∀r b,(h' r).live->g'.own r=some b->n0<=b\/∃r',(h r').live/\g.own r'=some b
 sg:∀b o,g'.S b o->g.S b o\/n0<=b\/∃r',(h r').live/\g.own r'=some b
 le:Le h g w h' g' w'
section
variable {P:Program}{N:Nat}{ds:List Deferred}{n0 x:Nat}{w w' w1 w2:World}{g g' g1 g2:Gh}{h h' h1 h2:Nat->HO}
theorem Zj.trans(a:Zj n0 x w g h w1 g1 h1)(b:Zj n0 x w1 g1 h1 w2 g2 h2):Zj n0 x w g h w2 g2 h2 where
 os:=b.os.trans a.os
 tape:=b.tape.trans a.tape
 output:=b.output.trans a.output
 size:=AO a.size b.size
 frame c hc hx hn:=(b.frame c hc hx fun r hl e=>by
  rcases a.loc r c hl e with h | ⟨r',h1,h2⟩<;>grind).trans (a.frame c hc hx hn)
 loc r c hl e:=by
  rcases b.loc r c hl e with h | ⟨r',h1,h2⟩
  .omega
  .exact a.loc r' c h1 h2
 sg c o hs:=by
  rcases b.sg c o hs with h | h | ⟨r',h1,h2⟩
  .exact a.sg c o h
  .omega
  .rcases a.loc r' c h1 h2 with h | h<;>simp_all
 le:=a.le.trans b.le
theorem Zj.of_inv(hI:CA w g h h' g' w')(hL:Le h g w h' g' w')(hn:n0<=w.heap.size):Zj n0 x w g h w' g' h' where
 os:=hI.os
 tape:=hI.tape
 output:=hI.output
 size:=hI.size
 frame c hc _ bS:=hI.frame c B0 bS
 loc r c hl e:=by
  rcases(hI.loc r c hl e).2 with h | h<;>grind
 sg c o hs:=by
  grind [CA.sg]
 le:=hL
theorem CA.base(hI:CA w g h h' g' w'):CA w' g' h' h' g' w' where
 os:=rfl
 tape:=rfl
 output:=rfl
 size:=Ai _
 frame _ _ _:=rfl
 slt:=hI.slt
 objs:=hI.objs
 inj:=hI.inj
 loc r b hl e:=⟨(hI.loc r b hl e).1,.inr ⟨r,hl,e⟩⟩
 sg _ _ hs:=.inl hs
 glob:=hI.glob
theorem CA.of_seg(hI:CA w' g' h' h' g' w')(s:Zj w.heap.size x w g h w' g' h')(hx:x<w.heap.size->w'.heap[x]?=w.heap[x]?):CA w g h h' g' w' where
 os:=s.os
 tape:=s.tape
 output:=s.output
 size:=s.size
 frame b hb hn:=by
  grind [Zj.frame]
 slt:=hI.slt
 objs:=hI.objs
 inj:=hI.inj
 loc r b hl e:=⟨(hI.loc r b hl e).1,s.loc r b hl e⟩
 sg:=s.sg
 glob:=hI.glob
theorem OP{U:Nat->Prop}{r b:Nat}{o:HO}{ob:Obj}(ho:DD g w U r o)(hl:o.live)(e:g.own r=some b)(hb:w.heap[b]?=some ob)(hd:VT ob=true):False:=by
 cases o with
 |free=>exact hl
 |dead=>exact hl
 |ro cs=>exact hl
 |rom sh BU=>exact hl
 |cells cs=>
  obtain⟨_,b',E,vs,h1,_,h3,_⟩:=ho;rw[e]at h1;cases h1;rw[hb]at h3;cases h3;cases hd
 |tok sz n=>
  obtain⟨_,_,a,cap,_,(⟨_,h1⟩ | ⟨_,b',E,vs,off,_,h1,⟨_,h3,_⟩,_⟩)⟩:=ho
  .simp_all
  .rw[e]at h1;cases h1;rw[hb]at h3;cases h3;cases hd
 |vox v=>exact hl
 |hol sz es i c av=>
  obtain⟨_,_,_,b',cap,E,vs,_,h1,_,h3,_⟩:=ho;rw[e]at h1;cases h1;rw[hb]at h3;cases h3;cases hd
 |bld x=>
  obtain⟨_,b',p,v,h1,_,h3,_⟩:=ho;rw[e]at h1;cases h1;rw[hb]at h3;cases h3;cases hd
 |bbf n=>
  obtain⟨_,_,(⟨_,_,h1⟩ | ⟨b',cap,Dn,_,h1,_,_,h3,_⟩)⟩:=ho
  .simp_all
  .rw[e]at h1;cases h1;rw[hb]at h3;cases h3;cases hd
 |raw b' ct=>
  obtain⟨_,h1,h2,h3,_⟩:=ho;rw[e]at h1;cases h1;rw[hb]at h2;cases h2;cases ob<;>simp[VT,sf]at hd h3
  simp_all
 |var sz v n=>
  obtain⟨_,_,a,cap,_,(⟨_,h1⟩ | ⟨_,b',E,vs,off,_,h1,⟨_,h3,_⟩,_⟩)⟩:=ho
  .simp_all
  .rw[e]at h1;cases h1;rw[hb]at h3;cases h3;cases hd
 |arr sz es=>
  obtain⟨_,_,_,(⟨_,_,h1⟩ | ⟨b',cap,E,vs,_,h1,_,h3,_⟩)⟩:=ho
  .simp_all
  .rw[e]at h1;cases h1;rw[hb]at h3;cases h3;cases hd
 |map sh BU=>
  obtain⟨_,b',es,ck,h1,_,h3,_⟩:=ho;rw[e]at h1;cases h1;rw[hb]at h3;cases h3;cases hd
 |mapU sh BU=>
  obtain⟨_,b',es,ck,h1,_,h3,_⟩:=ho;rw[e]at h1;cases h1;rw[hb]at h3;cases h3;cases hd
 |iter all rem Dn=>
  obtain⟨_,b',mb,Jx,seen,st,es,ck,h1,_,h3,_⟩:=ho;rw[e]at h1;cases h1;rw[hb]at h3;cases h3;cases hd
theorem CA.dullS(hI:CA w g h h g w)(ho:w'.os=w.os/\w'.tape=w.tape/\w'.output=w.output)(EQ:w.heap.size<=w'.heap.size)
  (hb:∀b,b<w.heap.size->w'.heap[b]?=w.heap[b]?\/∃o o',w.heap[b]?=some o/\w'.heap[b]?=some o'/\VT o=true/\VT o'=true)
  (hn:∀b,b<n0->b≠x->w'.heap[b]?=w.heap[b]?):CA w' g h h g w'/\Zj n0 x w g h w' g h:=by
 have hk:D2 g w g w':=fun b o hs=>by
  refine⟨hs,?_⟩;rcases hb b (hI.slt b o hs)with e | ⟨ob,ct,e1,e2,d1,d2⟩
  .grind [World.cell?]
  .refine⟨?_,fun es ck he=>?_⟩
   .simp only[World.cell?,e1,e2];cases ob<;>cases ct<;>first | rfl | (cases d1;done) | (cases d2;done)
   .rw[e1]at he;cases he;cases d1
 have PF:∀r b,(h r).live->g.own r=some b->w'.heap[b]?=w.heap[b]?:=fun r b hl e=>by
  rcases hb b (hI.loc r b hl e).1 with e' | ⟨ob,ct,e1,_,d1,_⟩
  .exact e'
  .exact(OP (hI.objs r) hl e e1 d1).elim
 refine⟨⟨rfl,rfl,rfl,Ai _,fun _ _ _=>rfl,fun b o hs=>AA (hI.slt b o hs) EQ,fun r=>?_,hI.inj,fun r b hl e=>⟨AA (hI.loc r b hl e).1 EQ,.inr ⟨r,hl,e⟩⟩,fun _ _ hs=>.inl hs,hI.glob.keep hk⟩,⟨ho.1,ho.2.1,ho.2.2,EQ,fun b bJ hx _=>hn b bJ hx,fun r b hl e=>.inr ⟨r,hl,e⟩,fun _ _ hs=>.inl hs,⟨.refl _ _,fun _ h=>h,hk⟩⟩⟩;exact(hI.objs r).same hk (fun _ h=>h) (.refl _ _) rfl rfl rfl rfl fun b hl e=>⟨PF r b hl e,fun _ h=>h⟩
theorem CA.put(hI:CA w g h h g w){l:Nat}{o o' : Obj}(hl:w.heap[l]?=some o)(hd:VT o=true)(ld : VT o'=true)(hx:n0<=l\/l=x) :
  CA (w.putObj l o') g h h g (w.putObj l o')/\Zj n0 x w g h (w.putObj l o') g h:=by
 grind [World.putObj,CA.dullS]
theorem CA.allocS(hI:CA w g h h g w)(o:Obj)(hn:n0<=w.heap.size):CA (w.alloc o) g h h g (w.alloc o)/\Zj n0 x w g h (w.alloc o) g h:=by
 refine hI.dullS ⟨rfl,rfl,rfl⟩ Wk (fun b hb=>.inl (heap_alloc_old _ _ hb)) (fun b hb _=>heap_alloc_old _ _ B0)
end
abbrev HN(fn:FuncId)(tm:Array Value)(ps:Array Tmp)(Gv body:Code)(D:Nat)(s:LoopState):Loop:=
 { state:=s,pending:=none,fn:=fn,tmps:=tm,params:=ps,assign:=Gv,body:=body,defers:=D }
def lX:List Nat->List AV->(Nat->AV)->Nat->AV
 |p::ps,v::vs,e=>lX ps vs (I9 e p v)
 |_,_,e=>e
section
variable {P:Program}{N:Nat}{w:World}{g:Gh}
theorem Xt{U:Nat->Prop}:∀{ps:List Nat} {args:List AV} {vals:List Value} {tm:Array Value} {env:Nat->AV},vals.length=args.length->args.length=ps.length->(∀p∈ps,p<tm.size) ->
  (∀(i:Nat) (av:AV) (x:Value),args[i]?=some av->vals[i]?=some x->A3 g w U av x)->(∀i,A3 g w U (env i) (tm.getD i undef)) ->
  ((ps.zip vals).foldl (fun t p=>t.setIfInBounds p.1 p.2) tm).size=tm.size/\∀i,A3 g w U (lX ps args env i) (((ps.zip vals).foldl (fun t p=>t.setIfInBounds p.1 p.2) tm).getD i undef)
 | [],args,vals,tm,env,_,h2,_,_,he=>by
  have:args=[]:=AU h2
  subst this;exact⟨rfl,he⟩
 |p::ps,[],vals,tm,env,_,h2,_,_,_=>by cases h2
 |p::ps,a::args,[],tm,env,h1,_,_,_,_=>by cases h1
 |p::ps,a::args,v::vals,tm,env,h1,h2,h3,h4,he=>by
  have hp:=h3 p (Ae ..)
  obtain⟨q1,q2⟩:=Xt (ps:=ps) (args:=args) (vals:=vals) (tm:=tm.setIfInBounds p v) (env:=I9 env p a) Wk Wk (fun q hq=>by simp_all)
   (fun i av x e1 e2=>h4 (i+1) av x Wk Wk) (fun i=>by
    by_cases e:i=p
    .subst e;have e1:I9 env i a i=a:=by simp[I9]
     have e2:(tm.setIfInBounds i v).getD i undef=v:=Wk
     rw[e1,e2];exact h4 0 a v rfl rfl
    .have e1:I9 env p a i=env i:=by grind [I9,Dx]
     have e2:(tm.setIfInBounds p v).getD i undef=tm.getD i undef:=by
      simp[Array.getD_eq_getD_getElem?,Array.getElem?_setIfInBounds_ne (Ne.symm e)]
     simp_all)
  exact⟨by simp_all,q2⟩
def WW(P:Program)(Y:Gh->World->Prop)(σ:IC)(f:Nat)(args:List AV)(h0:Nat->HO)(Q:AV->(Nat->HO)->Prop):Prop:=
 FN P f/\∀(g:Gh) (w:World) (vals:Array Value),vals.size=args.length->(∀(i:Nat) (av:AV) (x:Value),args[i]?=some av->vals[i]?=some x->A3 g w (AI h0) av x) ->
  CA w g h0 h0 g w->(∀h' g' w',CA w g h0 h' g' w'->Le h0 g w h' g' w'->Y (DB σ g') w') ->
  Calls P f vals w fun e w'=>∃v r h' g',e=.returned v/\Q r h'/\A3 g' w' (AI h') r v/\CA w g h0 h' g' w'/\Le h0 g w h' g' w'
theorem jc{Y:Gh->World->Prop}{l:Nat}{f:Nat}{H0:List (Nat×HO)}{Q:AV->(Nat->HO)->Prop}(hP:cx.P=P)(hT:Cb P cx.T)(hm:P.follows .mixedOrders=true)(hx:cx.ext=true)(hf:P.funcs[f]?=some fn)(hn : (fn.name == "runtime.NumGoroutine") = false)(hb : fn.body = some c)(hN : args.length <= fn.ntmps)(hc : Ed fn.ntmps c = true)(hσ : (Gy σ && H7 σ H0) = true)(hy:cx.yp=fun l' σ' g w=>l'=l->σ'=σ->Y g w)(hk:Rj cx c (Xq cx fn.results.toList σ Q) ⟨Ol args,Ag H0 Ad⟩):WW P Y σ f args (Ag H0 Ad) Q:=
 ⟨⟨fn,hf,hn,by simp_all⟩,fun g w vals hs hv hI hp=>XE cx σ hP hT hm hx hf hn hb hN hc hσ hk hs hv hI fun l' σ' h' g' w' _ q1 q2=>by
  grind⟩
end
def ly(cx:Cx):Nat->Code->(Ex->St->Prop)->(Code->Code->St->Prop)->St->Prop
 |0,.seq (.seq a b) d,Q,K,st=>Rj cx a (fun e Ef=>match e with |.normal=>K b d Ef |e=>Q e Ef) st
 |0,.seq b d,_,K,st=>K b d st
 |n+1,.seq a b,Q,K,st=>Rj cx a (fun e Ef=>match e with |.normal=>ly cx n b Q K Ef |e=>Q e Ef) st
 |_,_,_,_,_=>False
section
variable {P:Program}{N:Nat}{ds:List Deferred}{w0:World}{g0:Gh}{h0:Nat->HO}{st:St}{g:Gh}{a:Act}{w:World}
theorem lz{cx:Cx}(hP:cx.P=P)(hT:Cb P cx.T)(hm:P.follows .mixedOrders=true)(hE:KU cx h0)(hY:∀l σ h g w,D4 σ=true->CA w0 g0 h0 h g w->Le h0 g0 w0 h g w->cx.yp l σ (DB σ g) w)
  {Qa:Ex->St->Prop} {K:Code->Code->St->Prop} {Q:Exit->Act->World->Prop} (hQ:∀e st g a w,e≠.normal->Qa e st->SR N ds w0 g0 h0 st g a w->Q e.real a w)
  (hK:∀b d st g a w,K b d st->SR N ds w0 g0 h0 st g a w->b.wpIn (Jh none) 0 P (Exit.then (d.wpIn (Jh none) 0 P Q) Q) a w) :
  ∀(n:Nat) (c:Code),Ed N c=true->∀{st:St} {g:Gh} {a:Act} {w:World},SR N ds w0 g0 h0 st g a w->ly cx n c Qa K st->c.wpIn (Jh none) 0 P Q a w:=by
 intro n
 induction n with
 |zero=>
  intro c hc st g a w hS hk;cases c with
  |seq y d=>
   simp only[Ed,Aj]at hc;cases y with
   |seq x b=>
    have hk:Rj cx x (fun e Ef=>match e with | .normal=>K b d Ef | e=>Qa e Ef) st:=hk;simp only[Ed,Aj]at hc;refine wpIn_seq (wpIn_seq (Nr hP hT hm hE hY none x hc.1.1 (Qa:=fun e Ef=>match e with | .normal=>K b d Ef | e=>Qa e Ef) (fun e st g a w q hS=>?_) hS hk));cases e with
    |normal=>exact hK b d _ _ _ _ q hS
    |exit id=>exact hQ (.exit id) _ _ _ _ (fun e=>by cases e) q hS
    |ret=>exact hQ .ret _ _ _ _ (fun e=>by cases e) q hS
   |_=>exact wpIn_seq (hK _ d _ _ _ _ hk hS)
  |_=>exact hk.elim
 |succ n ih=>
  intro c hc st g a w hS hk;cases c with
  |seq x y=>
   simp only[Ed,Aj]at hc;refine wpIn_seq (Nr hP hT hm hE hY none x hc.1 (Qa:=fun e Ef=>match e with | .normal=>ly cx n y Qa K Ef | e=>Qa e Ef) (fun e st g a w q hS=>?_) hS hk);cases e with
   |normal=>exact ih y hc.2 hS q
   |exit id=>exact hQ (.exit id) _ _ _ _ (fun e=>by cases e) q hS
   |ret=>exact hQ .ret _ _ _ _ (fun e=>by cases e) q hS
  |_=>exact hk.elim
end
section
variable {P:Program}{N:Nat}{ds:List Deferred}{w0:World}{g0:Gh}{h0:Nat->HO}{st:St}{g:Gh}{a:Act}{w:World}
theorem SR.rebase{w1:World}{g1:Gh}{h1:Nat->HO}(hS:SR N ds w0 g0 h0 st g a w)(hI:CA w1 g1 h1 st.h g w)(hL:Le h1 g1 w1 st.h g w):SR N ds w1 g1 h1 st g a w:=⟨hI,hL,hS.dfs,hS.size,hS.slots⟩
theorem cw{cx:Cx}(hT:Cb P cx.T){H0:List (Nat×HO)}{σ:IC}(hσ:Gy σ=true)(qE:H7 σ H0=true){Q:AV->(Nat->HO)->Prop}(hS:SR N ds w0 g0 (Ag H0 Ad) st g a w)(hk:fG cx st fn.results.toList σ Q) :
  ∃v,(results fn a.tmps).run P w=.ok v w/\∃r h' g',Q r h'/\A3 g' w (AI h') r v/\CA w0 g0 (Ag H0 Ad) h' g' w/\Le (Ag H0 Ad) g0 w0 h' g' w:=by
 obtain⟨g2,i1,i2⟩:=Mt cx.pl.fin hS.inv;have OA : SR N ds w0 g0 (Ag H0 Ad) ⟨st.t,Oy st.h cx.pl.fin⟩ g2 a w:=⟨i1,hS.le.trans i2,hS.dfs,hS.size,fun i=>(hS.slots i).le i2⟩;obtain⟨l,vs,h1,h2,h3,h4,h5⟩:=RN hT OA _ hk;obtain⟨hR,j1,j2⟩:=On hσ qE i1 OA.le;have Cu:(results fn a.tmps).run P w=.ok (if h:vs.toArray.size=1 then vs.toArray[0]else .tuple vs.toArray) w:=by
  rw[NQ,show fn.results=fn.results.toList.toArray by simp,List.mapM_toArray];simp_all
 match l,vs,h1,h3,h5,Cu with
 | [v],[x],h1,h3,h5,Cu=>exact⟨x,by simp_all,_,_,_,h1,(h5 0 v x rfl rfl).ren hR,j1,j2⟩
 | [],vs,h1,h3,h5,Cu=>
  have:vs=[]:=AU h3
  subst this;exact⟨.tuple #[],by simp_all,_,_,_,h1,A3.ren hR (.tup _ [] _ rfl fun i av x q=>by simp_all),j1,j2⟩
 |v::v' :: l,vs,h1,h3,h5,Cu=>
  refine⟨.tuple vs.toArray,?_,_,_,_,h1,A3.ren hR (.tup _ _ _ B0 fun i av x q1 q2=>h5 i av x q1 Wk),j1,j2⟩;simp_all
theorem q9{oq s:Nat}{rest:Code}(hP:cx.P=P)(hT:Cb P cx.T)(hm:P.follows .mixedOrders=true)(hx:cx.ext=true){σ:IC}{H0 Hn:List (Nat×HO)}(hσ:(Gy σ&&H7 σ H0)=true)(hσn:H7 σ Hn=true){env:Nat->AV}{gf:Nat}{caps:List AV}(hF:env s=.clo gf caps){Qv:AV->(Nat->HO)->Prop}(hIT:∀(l D:Nat) (f' : FuncId) (tm:Array Value),tm.size=N->WW P (fun g w=>w.heap[l]?=some (.loop (HN f' tm ps Gv body D .ready))/\∀i,A3 g w (AI (Ag H0 Ad)) (env i) (tm.getD i undef)) σ gf
   (.v (.func (.yield l) #[] #[])::caps) (Ag H0 Ad) fun _ h'=>h'=Ag Hn Ad)(hcr:Ed N rest=true)(hbk:Ob [] body=false)(bU:Rj cx rest (Xq cx fn.results.toList σ Qv) ⟨env,Ag Hn Ad⟩)(hY:∀l σ g w,cx.yp l σ g w){a:Act}(ha:a.defers=[])(hN:a.tmps.size=N)(hI:CA w g (Ag H0 Ad) (Ag H0 Ad) g w)(NE:∀i,A3 g w (AI (Ag H0 Ad)) (env i) (a.tmps.getD i undef)){R:Ending->World->Prop}(hR:∀v r h' g' w',Qv r h'->A3 g' w' (AI h') r v->CA w g (Ag H0 Ad) h' g' w'->Le (Ag H0 Ad) g w h' g' w'->R (.returned v) w') :
  (Code.block oq (.rangeFunc (.tmp s) ps Gv body)).wpIn (Jh none) 0 P (Exit.then (rest.wpIn (Jh none) 0 P (bodyPostM (Jh none) 0 P fn R)) (bodyPostM (Jh none) 0 P fn R)) a w:=by
 simp only[Aj]at hσ;have hdl:∀f' tm D s,VT (.loop (HN f' tm ps Gv body D s))=true:=fun _ _ _ _=>by show(!Ob [] body)=true;simp_all
 refine wpIn_block (wpIn_rangeFunc fun f' _=>?_);have hs:=NE s;rw[hF]at hs;have oD:a.eval (.tmp s)=a.tmps.getD s undef:=rfl;generalize hfv:a.tmps.getD s undef=fv at hs oD;cases hs with
 |clo _ _ _ lb EQ OE=>
 obtain⟨i0,s0⟩:=hI.allocS (n0:=w.heap.size) (x:=w.heap.size) (.deferred (some [])) (Ai _);obtain⟨i1,s1⟩:=i0.allocS (n0:=w.heap.size) (x:=w.heap.size) (.loop (HN f' a.tmps ps Gv body w.heap.size .ready)) Wk;generalize hW:(w.alloc (.deferred (some []))).alloc (.loop (HN f' a.tmps ps Gv body w.heap.size .ready))=W1 at i1 s1;have Aed:W1.heap.size=w.heap.size+2:=by grind [World.size_alloc]
 have hl:W1.heap[w.heap.size+1]?=some (.loop (HN f' a.tmps ps Gv body w.heap.size .ready)):=by
  grind [World.alloc_heap_new]
 have hD:W1.heap[w.heap.size]?=some (.deferred (some [])):=by
  grind [heap_alloc_old,World.alloc_heap_new]
 have OF:∀b ob,W1.heap[b]?=some ob->VT ob=true->∀r,((Ag H0 Ad) r).live->g.own r≠some b:=fun b ob hb hd r hr e=>OP (i1.objs r) hr e hb hd;have S1:=s0.trans s1;have hit:=hIT (w.heap.size+1) w.heap.size f' a.tmps hN
 refine⟨w.heap.size+1,[{ target:=.collected w.heap.size,args:=#[] }],W1,{ target:=.fn (.func gf) lb,args:=#[.func (.yield (w.heap.size+1)) #[] #[]] },W1,gf,
  #[.func (.yield (w.heap.size+1)) #[] #[]]++lb,W1,?_,?_,fun _ _=>trivial,?_,fun e=>(by cases e),?_⟩
 .grind [run_enterLoop_outer]
 .simp only[resolve,oD];simp[go_sem]
 .simp only[invoke];rw[Gq hit.1]
 refine callsIn_wide.2 ((hit.2 g W1 _ aa1 (fun i av x e1 e2=>?_) i1 (fun h' g' w' q1 q2=>?_)).mono ?_)
 .cases i with
  |zero=>
   grind [A3.v]
  |succ i=>
   grind [A3.le,Zj.le]
 .obtain⟨_,_,j2⟩:=On hσ.1 hσ.2 q1 q2;refine⟨(q1.frame _ B0 (OF _ _ hl (hdl _ _ _ _))).trans hl,fun i=>?_⟩;exact((NE i).le S1.le).mono j2.keeps (fun _ h=>h) j2.gh
 rintro e w2 ⟨v,r,h',g2,rfl,rfl,_,q3,q4⟩
 have d7:w2.heap[w.heap.size+1]?=some (.loop (HN f' a.tmps ps Gv body w.heap.size .ready)):=(q3.frame _ B0 (OF _ _ hl (hdl _ _ _ _))).trans hl;have hD2:w2.heap[w.heap.size]?=some (.deferred (some [])):=(q3.frame _ B0 (OF _ _ hD rfl)).trans hD;refine⟨none,_,run_endLoop d7 (fun e=>by cases e),?_⟩;obtain⟨i4,s4⟩:=q3.base.put (n0:=w.heap.size) (x:=w.heap.size) (o':=.loop { HN f' a.tmps ps Gv body w.heap.size .ready with state:=.exhausted }) d7 (hdl _ _ _ _) (hdl f' a.tmps w.heap.size .exhausted) (.inl B0);have S4:=(S1.trans (Zj.of_inv q3 q4 B0)).trans s4;generalize UW:w2.putObj (w.heap.size+1) (.loop { HN f' a.tmps ps Gv body w.heap.size .ready with state:=.exhausted })=w4 at i4 s4 S4;have yb:w4.heap[w.heap.size]?=some (.deferred (some [])):=by grind [World.putObj_heap_other]
 have hE:KU cx (Ag Hn Ad):=by unfold KU;rw[hx];exact fun i hi=>⟨(F5 hσn i hi).1,(F5 hσn i hi).2.1⟩
 have hS4:SR N [{ target:=.collected w.heap.size,args:=#[] }] w4 g2 (Ag Hn Ad) ⟨env,Ag Hn Ad⟩ g2 { a with defers:=[{ target:=.collected w.heap.size,args:=#[] }]++a.defers } w4:=
  ⟨i4,.refl _ _ _,by simp_all,hN,fun i=>(NE i).le S4.le⟩
 refine Nr hP hT hm hE (fun l σ _ _ w _ _ _=>hY l σ _ w) none rest hcr (fun e st5 g5 a5 w5 hq oA=>?_) hS4 bU;have fin:fG cx st5 fn.results.toList σ Qv->LeavesInM (Jh none) 0 P fn a5.tmps R a5.defers .returning w5:=by
  intro hk;have vV:w5.heap[w.heap.size]?=some (.deferred (some [])):=(oA.inv.frame _ (Ac.1 yb).1 (fun r hr e=>OP (i4.objs r) hr e yb rfl)).trans yb;rw[oA.dfs];refine⟨by simp,.inl ⟨w.heap.size,_,rfl,run_takeDeferred vV,?_⟩⟩;obtain⟨i6,s6⟩:=oA.inv.base.put (n0:=w.heap.size) (x:=w.heap.size) (o':=.deferred none) vV rfl rfl (.inr rfl);have hS6:SR N [{ target:=.collected w.heap.size,args:=#[] }] (w5.putObj w.heap.size (.deferred none)) g5 st5.h st5 g5 a5 (w5.putObj w.heap.size (.deferred none)):=⟨i6,.refl _ _ _,oA.dfs,oA.size,fun i=>(oA.slots i).le s6.le⟩;have S6:=(S4.trans (Zj.of_inv oA.inv oA.le (AO (Ai _) S4.size))).trans s6;obtain⟨v,k2,r,h7,g7,k1,k5,k3,k4⟩:=cw (H0:=H0) hT hσ.1 hσ.2 (SR.rebase hS6 (i6.of_seg S6 fun h=>absurd h (Nat.lt_irrefl _)) S6.le) hk;exact⟨v,k2,hR v r h7 g7 _ k1 k5 k3 k4⟩
 cases e with
 |normal=>exact fin hq
 |ret=>exact fin hq
 |exit id=>exact hq.elim
end
section
variable {P:Program}{N:Nat}{w:World}{g:Gh}
theorem gu(o k r:Nat){H:List (Nat×HO)}(cx:Cx)(hP:cx.P=P)(hT:Cb P cx.T)(hm:P.follows .mixedOrders=true)(hx:cx.ext=true){σ:IC}(hσ:(Gy σ&&H7 σ H)=true){fn:FuncId}{tm:Array Value}{D l:Nat}{env:Nat->AV}{U:Nat->Prop}{Q:AV->(Nat->HO)->Prop}(wo:args.length=ps.toList.length)(hN:tm.size=N)(hpN:(ps.toList.all fun p=>Nat.blt p N)=true)(hca:Ed N Gv=true)(yA:Ed N body=true)(hU:∀i,U i->AI (Ag H Ad) i)(hk:Rj cx Gv (fun e st=>match e with | .normal=>Rj cx body (fun e st=>match e with | .normal=>wM st.h o k r fun h'=>Q (.v (.bool true)) (Ff σ (Oy h' cx.pl.fin)) | _=>False) st | _=>False) ⟨lX ps.toList args env,Ag H Ad⟩)(hY:∀l σ g w,cx.yp l σ g w:=by exact fun _ _ _ _=>trivial)(hbk:Ob [] body=false:=by kernel_rfl) :
  It P (fun g w=>w.heap[l]?=some (.loop (HN fn tm ps Gv body D .ready))/\∀i,A3 g w U (env i) (tm.getD i undef)) l args (Ag H Ad) Q:=by
 simp only[Aj]at hσ;intro g w vals hs hv hI ⟨hl,NE⟩;have BW:l<w.heap.size:=(Ac.1 hl).1;have hdl:∀s,VT (.loop (HN fn tm ps Gv body D s))=true:=fun s=>by show(!Ob [] body)=true;simp_all
 have hE:KU cx (Ag H Ad):=by unfold KU;rw[hx];exact fun i hi=>⟨(F5 hσ.2 i hi).1,(F5 hσ.2 i hi).2.1⟩
 have OF:∀r,((Ag H Ad) r).live->g.own r≠some l:=fun r hr e=>OP (hI.objs r) hr e hl (hdl _);have Abh:∀(t0:Array Value),(ps.zip vals).foldl (fun tmps (p:Nat×Value)=>tmps.setIfInBounds p.1 p.2) t0=(ps.toList.zip vals.toList).foldl (fun t p=>t.setIfInBounds p.1 p.2) t0:=fun t0=>by
  grind [Array.toList_zip]
 have hry:=run_yield (P:=P) (args:=vals) hl Wk;refine⟨fn,_,Gv,body,hry,roundIn_of_wpIn trivial ?_⟩;obtain⟨z1,z2⟩:=Xt (U:=AI (Ag H Ad)) (ps:=ps.toList) (args:=args) (vals:=vals.toList) (tm:=tm) (env:=env) B0 wo (fun p hp=>by
  grind [Nat.blt_eq]) (fun i av x e1 e2=>hv i av x e1 Wk) (fun i=>(NE i).mono (.refl _ _) hU (.refl _ _))
 have hS0:SR N [] w g (Ag H Ad) ⟨lX ps.toList args env,Ag H Ad⟩ g { tmps:=(ps.zip vals).foldl (fun tmps (p:Nat×Value)=>tmps.setIfInBounds p.1 p.2) tm,defers:=[] } w:=by
  grind [SR.mk,Le.refl]
 refine Nr hP hT hm hE (fun l σ _ _ w _ _ _=>hY l σ _ w) (some l) Gv hca (fun e st1 g1 a1 w1 hq mn=>?_) hS0 hk;cases e with
 |exit _=>simp_all
 |ret=>simp_all
 |normal=>
  have qv:w1.heap[l]?=some (.loop (HN fn tm ps Gv body D .ready)):=(mn.inv.frame l BW OF).trans hl;refine⟨_,run_beginRound qv rfl,?_⟩;obtain⟨iS,sS⟩:=hI.put (n0:=w.heap.size) (x:=l) (o':=.loop (HN fn tm ps Gv body D .busy)) hl (hdl _) (hdl _) (.inr rfl);have hlS:(w.putObj l (.loop (HN fn tm ps Gv body D .busy))).heap[l]?=some (.loop (HN fn tm ps Gv body D .busy)):=World.putObj_heap_same BW;have zz:(w.putObj l (.loop (HN fn tm ps Gv body D .busy))).heap.size=w.heap.size:=Wk
  obtain⟨_,sB⟩:=iS.dullS (w':=w) (n0:=w.heap.size) (x:=l) ⟨rfl,rfl,rfl⟩ B0 (fun b _=>by
   grind [World.putObj_heap_other]) (fun b _ CU=>(World.putObj_heap_other CU).symm)
  obtain⟨i2,s2⟩:=mn.inv.base.put (n0:=w.heap.size) (x:=l) (o':=.loop (HN fn tm ps Gv body D .busy)) qv (hdl _) (hdl _) (.inr rfl);have S2:=(sB.trans (Zj.of_inv mn.inv mn.le (Ai _))).trans s2;have d7:(w1.putObj l (.loop (HN fn tm ps Gv body D .busy))).heap[l]?=some (.loop (HN fn tm ps Gv body D .busy)):=World.putObj_heap_same (Ac.1 qv).1;have hI2:=i2.of_seg (by rw[zz];exact S2) (fun _=>d7.trans hlS.symm);have vY:SR N [] (w.putObj l (.loop (HN fn tm ps Gv body D .busy))) g (Ag H Ad) st1 g1 a1 (w1.putObj l (.loop (HN fn tm ps Gv body D .busy))):=⟨hI2,S2.le,mn.dfs,mn.size,fun i=>(mn.slots i).le s2.le⟩;refine Nr hP hT hm hE (fun l σ _ _ w _ _ _=>hY l σ _ w) (some l) body yA (fun e st3 g3 a3 w3 hq td=>?_) vY hq;cases e with
  |exit _=>simp_all
  |ret=>simp_all
  |normal=>
   obtain⟨h3,g3',td,hq⟩:=kq td hq;have wh:w3.heap[l]?=some (.loop (HN fn tm ps Gv body D .busy)):=(td.inv.frame l B0 OF).trans hlS;refine⟨.bool true,w3.putObj l (.loop (HN fn tm ps Gv body D .ready)),run_endRound none wh,?_⟩;obtain⟨gf,if1,if2⟩:=Mt cx.pl.fin td.inv;obtain⟨i4,s4⟩:=if1.base.put (n0:=w.heap.size) (x:=l) (o':=.loop (HN fn tm ps Gv body D .ready)) wh (hdl _) (hdl _) (.inr rfl);have S4:=(sS.trans (Zj.of_inv if1 (td.le.trans if2) B0)).trans s4;have hl4:(w3.putObj l (.loop (HN fn tm ps Gv body D .ready))).heap[l]?=some (.loop (HN fn tm ps Gv body D .ready)):=World.putObj_heap_same (Ac.1 wh).1;have hI4:=i4.of_seg S4 (fun _=>hl4.trans hl.symm);obtain⟨_,j1,j2⟩:=On hσ.1 hσ.2 hI4 S4.le;exact⟨.bool true,.v (.bool true),_,_,rfl,hq,.v _ _,j1,j2⟩
end
def rZ(h:Nat->HO)(o k r sz:Nat)(K:(Nat->HO)->Prop):Prop:=
 match h o with
 |.cells cs=>match IP cs k with
  |.v (.slice none 0 0)=>match h r with
   |.free=>K (AP (AP h r (.var sz 0 0)) o (.cells (Ei cs k (.slice (.ver r sz 0) []))))
   |_=>False
  |_=>False
 |_=>False
section
variable {P:Program}{N:Nat}{ds:List Deferred}{w0:World}{g0:Gh}{h0:Nat->HO}{st:St}{g:Gh}{a:Act}{w:World}
theorem qQ(hS:SR N ds w0 g0 h0 st g a w){o k r sz:Nat}{K:(Nat->HO)->Prop}(hk:rZ st.h o k r sz K):∃h' g',SR N ds w0 g0 h0 ⟨st.t,h'⟩ g' a w/\K h':=by
 unfold rZ at hk;split at hk
 .rename_i cs e0;split at hk
  .rename_i e1;split at hk
   .rename_i hf;have rR:o≠r:=fun e=>by simp_all
    have We:=IW cs k _ e1 aa0
    obtain⟨m1,m2⟩:=hS.inv.upd r (.var sz 0 0) (.slice none 0 0) 0 true none g.S w none ⟨rfl,rfl,rfl,Ai _⟩ (fun _ _ _=>rfl) (fun b e=>by cases e) (fun _ _ h=>h) (fun _ _ h=>.inl h) (fun b o e=>by cases e) (fun b hh e=>by simp_all) aa0
     (fun hu=>absurd hf hu) (fun _ _=>by
      obtain⟨u1,u2,u3,u4⟩:=Bl g r (.slice none 0 0) 0 true none g.S;exact⟨u3,u2,none,0,u1,.inl ⟨rfl,u4⟩⟩)
    generalize bO:g.upd r (.slice none 0 0) 0 true none g.S=g1 at m1 m2;have gr:g1.tk r=true/\g1.ln r=0/\g1.ρ r=.slice none 0 0:=by grind [Gh.upd]
    have p8 : (AP st.h r (.var sz 0 0)) o=.cells cs:=by grind [BQ]
    obtain⟨g3,p1,p2⟩:=Oc m1 p8 We (new:=.slice (.ver r sz 0) []) (fun y hy=>by
     grind [AI,A2,cases A3,A3.ver,A3.snil])
    exact⟨_,g3,⟨p1,hS.le.trans (m2.trans p2),hS.dfs,hS.size,fun i=>(hS.slots i).le (m2.trans p2)⟩,hk⟩
   simp_all
  simp_all
 simp_all
def wT(o k r sz:Nat)(dF:Cx)(P:Program)(N:Nat)(fn:Func)(σ:IC)(Q:AV->(Nat->HO)->Prop)(b rest:Code)(st:St):Prop:=
 rZ st.h o k r sz fun h1=>
  ∃(σF σr:IC) (H0 Hn:List (Nat×HO)) (oq s:Nat) (ps:Array Tmp) (Gv body:Code) (gf:Nat) (caps:List AV),
  b=.block oq (.rangeFunc (.tmp s) ps Gv body)/\(D4 σF&&DN h1 0 0&&CI σF 0 0)=true/\Ff σF h1=Ag H0 Ad/\(Gy σr&&H7 σr H0)=true/\H7 σr Hn=true /\
  ren (Cn σF) h1 (st.t s)=.clo gf caps /\
  (∀(l D:Nat) (f' : FuncId) (tm:Array Value),tm.size=N->WW P (fun g w=>w.heap[l]?=some (.loop (HN f' tm ps Gv body D .ready))/\∀i,A3 g w (AI (Ag H0 Ad)) (ren (Cn σF) h1 (st.t i)) (tm.getD i undef)) σr gf
   (.v (.func (.yield l) #[] #[])::caps) (Ag H0 Ad) fun _ h'=>h'=Ag Hn Ad) /\
  Ed N rest=true/\Ob [] body=false/\Rj dF rest (Xq dF fn.results.toList σr fun r h'=>Q (ren (Cn σ) (DS σF 0 0 h1 h') (ren (EV σF 0 0) h' r)) (Ff σ (DS σF 0 0 h1 h')))
   ⟨fun i=>ren (Cn σF) h1 (st.t i),Ag Hn Ad⟩
theorem da (o k r sz : Nat){f : Nat}{args : List AV}{H : List (Nat × HO)}{Q : AV -> (Nat -> HO) -> Prop}(cx dF : Cx)(σ : IC)(hP : cx.P = P)(hT : Cb P cx.T)(hP2 : dF.P = P)(hT2 : Cb P dF.T)(hm : P.follows .mixedOrders = true)(hx : cx.ext = true)(uh : dF.ext = true)(hf : P.funcs[f]? = some fn)(hn : (fn.name == "runtime.NumGoroutine") = false)(hb:fn.body=some c)(hN:args.length<=fn.ntmps)(hc:Ed fn.ntmps c=true)(hσ:(Gy σ&&H7 σ H)=true)(n:Nat)(hk:ly cx n c (Xq cx fn.results.toList σ fun r h'=>∃r',DW r r'/\Q r' h') (wT o k r sz dF P fn.ntmps fn σ fun r h'=>∃r',DW r r'/\Q r' h') ⟨Ol args,Ag H Ad⟩)(hY:∀l σ g w,cx.yp l σ g w:=by exact fun _ _ _ _=>trivial)(hY2:∀l σ g w,dF.yp l σ g w:=by exact fun _ _ _ _=>trivial):Bd P f args (Ag H Ad) Q:=by
 refine Bd.mono (Q:=fun r h'=>∃r',DW r r'/\Q r' h') ?_ fun _ _ ⟨r',s,q⟩=>⟨r',s,q⟩;simp only[Aj]at hσ;refine⟨⟨fn,hf,hn,by simp_all⟩,fun g w vals hs hv hI=>callsIn_wide.1 (callsIn_of_wp_marks (F:=Fence.wide) (n:=0) hf hb trivial ?_ rfl)⟩;have hE:KU cx (Ag H Ad):=by unfold KU;rw[hx];exact fun i hi=>⟨(F5 hσ.2 i hi).1,(F5 hσ.2 i hi).2.1⟩
 have hS:SR fn.ntmps [] w g (Ag H Ad) ⟨Ol args,Ag H Ad⟩ g { tmps:=vals++Array.replicate (fn.ntmps-vals.size) undef,defers:=[] } w:=by
  refine⟨hI,.refl _ _ _,rfl,by simp_all,fun i=>?_⟩
  have:=Om (n:=fn.ntmps-vals.size) (args:=args) (vals:=vals.toList) B0 (fun i av x q1 q2=>hv i av x q1 Wk) i
  grind [Array.getD_eq_getD_getElem?,Array.toList_append,Array.toList_replicate]
 refine lz hP hT hm hE (fun l σ _ _ w _ _ _=>hY l σ _ w) (fun e st g' a w' CU hk hS=>?_) (fun b rest st g' a w' hk hS=>?_) n c hc hS hk
 .have out:fG cx st fn.results.toList σ (fun r h'=>∃r',DW r r'/\Q r' h')->LeavesInM (Jh none) 0 P fn a.tmps (fun e w'=>∃v r h' g',e=Ending.returned v/\(∃r',DW r r'/\Q r' h')/\A3 g' w' (AI h') r v/\CA w g (Ag H Ad) h' g' w'/\Le (Ag H Ad) g w h' g' w') a.defers .returning w':=by
   intro hk;obtain⟨v,q2,r,h',g2,q1,q3,q4,q5⟩:=cw hT hσ.1 hσ.2 hS hk;rw[hS.dfs];exact⟨v,q2,v,r,h',g2,rfl,q1,q3,q4,q5⟩
  cases e with
  |normal=>simp_all
  |ret=>exact out hk
  |exit id=>exact hk.elim
 .obtain⟨h1,g',hS,hk⟩:=qQ hS hk;obtain⟨σF,σr,H0,Hn,oq,s,ps,Gv,body,gf,caps,rfl,k1,k2,k3,k4,k5,k6,k7,k9,k8⟩:=hk;have hσF:D4 σF=true:=Wk
  obtain⟨yh,hI1⟩:=V6 hS.inv hσF;rw[k2]at hI1;have NE:∀i,A3 (DB σF g') w' (AI (Ag H0 Ad)) (ren (Cn σF) h1 (st.t i)) (a.tmps.getD i undef):=fun i=>by
   have:=(hS.slots i).ren yh
   simp_all
  refine Mo (Q:=fun r h'=>∃r',DW (ren (Cn σ) (DS σF 0 0 h1 h') (ren (EV σF 0 0) h' r)) r'/\Q r' (Ff σ (DS σF 0 0 h1 h'))) (C:=fun R'=>(∀e cV,R' e cV->(∃v r h' g',e=Ending.returned v/\(∃r',DW r r'/\Q r' h')/\A3 g' cV (AI h') r v/\CA w g (Ag H Ad) h' g' cV/\Le (Ag H Ad) g w h' g' cV)) ->
   (Code.block oq (.rangeFunc (.tmp s) ps Gv body)).wpIn (Jh none) 0 P (Exit.then (rest.wpIn (Jh none) 0 P (bodyPostM (Jh none) 0 P fn (fun e cV=>∃v r h' g',e=Ending.returned v/\(∃r',DW r r'/\Q r' h')/\A3 g' cV (AI h') r v/\CA w g (Ag H Ad) h' g' cV/\Le (Ag H Ad) g w h' g' cV))) (bodyPostM (Jh none) 0 P fn (fun e cV=>∃v r h' g',e=Ending.returned v/\(∃r',DW r r'/\Q r' h')/\A3 g' cV (AI h') r v/\CA w g (Ag H Ad) h' g' cV/\Le (Ag H Ad) g w h' g' cV))) a w')
   (fun h k h2=>h fun e w r=>h2 _ _ (k _ _ r)) hS.inv (d:=0) (nn:=0) k1 (fun _ oQ=>?_) (fun v r h' g2 w2 q1 q2 q3 q4=>?_) (fun _ _ h=>h)
  .rw[k2]at oQ;exact q9 dF hP2 hT2 hm uh k3 k4 k5 k6 k7 k9 k8 hY2 hS.dfs hS.size hI1 NE fun v r h' g5 w5 q1 q2 q3 q4=>oQ _ _ ⟨v,r,h',g5,rfl,q1,q2,q3,q4⟩
  .obtain⟨hR,j1,j2⟩:=On hσ.1 hσ.2 q2 (hS.le.trans q3);exact⟨v,_,_,_,rfl,q1,q4.ren hR,j1,j2⟩
end
end Go.Eng
namespace Go.Eng
open Go.Sort
end Go.Eng
namespace Go.Eng
end Go.Eng
