/- Lemmas 10. -/
import Derived.Test.YtjhkbdgingfbaaaGreatDoorGA09
namespace Go.Eng
variable {o:Oper}{K:HK}{args:Array Operand}{cx:Cx}{E2:Array TypeId}{after:Array Edge}{dr:Bool}{pos:String}{x:Value}{F:Fence}{o2:Oper}{T:EU}
structure SR(N:Nat)(ds:List Deferred)(w0:World)(g0:Gh)(h0:Nat->HO)(st:St)(g:Gh)(a:Act)(w:World):Prop where
 inv:Do w0 g0 h0 st.h g w
 le:Le h0 g0 w0 st.h g w
 dfs:a.defers=ds
 size:a.tmps.size=N
 slots:∀i,Bo g w (AD st.h) (st.t i) (a.tmps.getD i undef)
section
variable {P:Program}{N:Nat}{ds:List Deferred}{w0:World}{g0:Gh}{h0:Nat->HO}{st:St}{g:Gh}{a:Act}{w:World}
theorem SR.eval(hS:SR N ds w0 g0 h0 st g a w)(x:Operand):Bo g w (AD st.h) (ev st.t x) (a.eval x):=by
 cases x with
 |tmp i=>exact hS.slots i
 |const v=>exact .v _ _
 |global b=>exact .v _ _
 |func f=>exact .v _ _
theorem SR.put(hS:SR N ds w0 g0 h0 st g a w){d:Option Nat}(hd:∀i,d=some i->i<N){v:AV}{x:Value}{h' : Nat->HO}{g' : Gh}{w' : World}(hI:Do w0 g0 h0 h' g' w')(Fc:Le st.h g w h' g' w')(hr:Bo g' w' (AD h') v x) :
  SR N ds w0 g0 h0 (st.put d v h') g' (a.put d x) w':=by
 have old:∀i,Bo g' w' (AD h') (st.t i) (a.tmps.getD i undef):=fun i=>(hS.slots i).le Fc;cases d with
 |none=>exact⟨hI,hS.le.trans Fc,hS.dfs,hS.size,old⟩
 |some d=>
  have nY:=hd d rfl;refine⟨hI,hS.le.trans Fc,hS.dfs,by simp[Act.put,hS.size],fun i=>?_⟩;simp only[St.put,Act.put,Gz]
  by_cases e:i=d
  .subst e
   have:i<a.tmps.size:=by rw[hS.size];exact nY
   simp only[CK,IJ];rw[B9,Array.getElem?_setIfInBounds_self,Av this];exact hr
  .simp only[B4 e,DU];rw[B9,Array.getElem?_setIfInBounds_ne (OZ e),<-B9];exact old i
def TQ(w0:World)(g0:Gh)(h0 h:Nat->HO)(g:Gh)(w:World)(K:HK)(next:Value->World->Prop):Prop:=
 ∀v h' g' w' x,K v h'->Do w0 g0 h0 h' g' w'->Le h g w h' g' w'->Bo g' w' (AD h') v x->next x w'
theorem CW{m:Sem Value}{next:Act->World->Prop}{Q:Exit->Act->World->Prop}(hx:execOp a.eval o=(do pure (Next.value (<-m))))(hd:Kb P w0 g0 h0 st.h g w m K)(hn:TQ w0 g0 h0 st.h g w K fun x w'=>next (a.put o.dst x) w'):o.wp P a w next Q:=by
 obtain⟨x,w',g',av,h',h1,h2,h3,h4,h5⟩:=hd;unfold Oper.wp;rw[hx,Sem.run_bind,h1];exact hn av h' g' w' x h2 h3 h4 h5
theorem RE{m:Sem Unit}{next:Act->World->Prop}{Q:Exit->Act->World->Prop}(hx:execOp a.eval o=(do m;pure Next.skip))(hd:XM P w0 g0 h0 st.h g w m K)(hn:TQ w0 g0 h0 st.h g w K fun x w'=>next (a.put o.dst x) w'):o.wp P a w next Q:=by
 obtain⟨w',g',h',h1,h2,h3,h4⟩:=hd;unfold Oper.wp;rw[hx,Sem.run_bind,h1];exact hn _ h' g' w' undef h2 h3 h4 (.v _ _)
theorem VK{next:Act->World->Prop}{Q:Exit->Act->World->Prop}{v:AV}(hI:Do w0 g0 h0 st.h g w)(hx:(execOp a.eval o).run P w=.ok (.value x) w)(hk:K v st.h)(hr:Bo g w (AD st.h) v x)(hn:TQ w0 g0 h0 st.h g w K fun x w'=>next (a.put o.dst x) w'):o.wp P a w next Q:=by
 unfold Oper.wp;rw[hx];exact hn _ _ _ _ _ hk hI (.refl _ _ _) hr
theorem Nw{C:(Ending->World->Prop)->Prop}(hm:∀{R R' : Ending->World->Prop},C R->(∀e w,R e w->R' e w)->C R')(hI:Do w0 g0 h0 st.h g w){Q:AV->(Nat->HO)->Prop}
  (hc:Do w g Ao Ao g w->C (fun e w'=>∃v r h' g',e=Ending.returned v/\Q r h'/\Bo g' w' (AD h') r v/\Do w g Ao h' g' w'/\Le Ao g w h' g' w')) {R:Ending->World->Prop}
  (hR:∀v r h' g' w',Q r h'->h'=Ao->Do w0 g0 h0 st.h g' w'->Le st.h g w st.h g' w'->Bo g' w' D2 r v->R (.returned v) w') (hQ:∀r h',Q r h'->h'=Ao):C R:=by
 have hU:AD Ao=D2:=by funext i;unfold AD D2 Ao;simp
 have cg:Do w g Ao Ao g w:=⟨rfl,rfl,rfl,Ad _,fun _ _ _=>rfl,hI.slt,fun _=>trivial,fun _ _ _ h=>h.elim,fun _ _ h=>h.elim,fun _ _ h=>.inl h,hI.glob⟩;refine hm (hc cg) ?_
 rintro e w' ⟨v,r,h',g',rfl,q1,q2,q3,q4⟩
 obtain rfl:=hQ r h' q1;rw[hU]at q2
 -- the caller's ghost,with the callee's stable cells
 have hk:DO g w ⟨g.ρ,g.ln,g.tk,g.own,g'.S⟩ w':=q4.keeps;have hg:Ho g ⟨g.ρ,g.ln,g.tk,g.own,g'.S⟩ (AD st.h):=fun _ _=>⟨rfl,Ad _,fun _=>rfl,fun _=>rfl⟩;have j8:∀b,b<w.heap.size->w'.heap[b]?=w.heap[b]?:=fun b hb=>q3.frame b hb (fun _ h=>h.elim);have nP:∀b o,g'.S b o->b<w.heap.size->g.S b o:=fun b o hs hb=>by
  rcases q3.sg b o hs with h1 | h1 | ⟨_,h1,_⟩
  .exact h1
  .omega
  .exact h1.elim
 refine hR v r Ao ⟨g.ρ,g.ln,g.tk,g.own,g'.S⟩ w' q1 rfl ⟨q3.os.trans hI.os,q3.tape.trans hI.tape,q3.output.trans hI.output,AP hI.size q3.size,fun b hb hn=>?_,q3.slt,fun i=>?_,hI.inj,fun i b hl ho=>?_,fun b o hs=>?_,hI.glob.keep hk⟩ ⟨hg,fun _ h=>h,hk⟩ ?_
 .exact(j8 b (CL hb hI.size)).trans (hI.frame b hb hn)
 .refine(hI.objs i).same hk (fun _ h=>h) hg rfl rfl rfl rfl (fun b hl ho=>?_);have Dc:=(hI.loc i b hl ho).1;exact⟨j8 b Dc,fun k hs=>nP b k hs Dc⟩
 .obtain⟨h1,h2⟩:=hI.loc i b hl ho;exact⟨CL h1 q3.size,h2⟩
 .rcases q3.sg b o hs with h1 | h1 | ⟨_,h1,_⟩
  .exact hI.sg b o h1
  .exact .inr (.inl (AP hI.size h1))
  .exact h1.elim
 .have:DO g' w' ⟨g.ρ,g.ln,g.tk,g.own,g'.S⟩ w':=fun b o h=>⟨h,rfl,fun _ _ h=>h⟩
  exact q2.mono this (fun _ h=>h) (fun _ h=>h.elim)
theorem V6(hI:Do w0 g0 h0 st.h g w){f:Nat}{args:List AV}{Q:AV->(Nat->HO)->Prop}(hc:BL P f args Ao Q){vals:Array Value}(hs:vals.size=args.length)
  (hv:∀(i:Nat) (av:AV) (x:Value),args[i]?=some av->vals[i]?=some x->Bo g w D2 av x) {R:Ending->World->Prop}
  (hR:∀v r h' g' w',Q r h'->h'=Ao->Do w0 g0 h0 st.h g' w'->Le st.h g w st.h g' w'->Bo g' w' D2 r v->R (.returned v) w') (hQ:∀r h',Q r h'->h'=Ao):Calls P f vals w R:=
 have hU:AD Ao=D2:=by funext i;unfold AD D2 Ao;simp
 Nw (C:=Calls P f vals w) (fun h k=>h.mono k) hI (hc.2 g w vals hs (fun i av x h1 h2=>by rw[hU];exact hv i av x h1 h2)) hR hQ
theorem YieldAt.imp{m:Nat}{P:Program}{l:Nat}{args:Array Value}{W:World}{R R' : Ending->World->Prop}(h:YieldAt F m P l args W R)(hr:∀e w,R e w->R' e w):YieldAt F m P l args W R':=
 let ⟨fn,t,a,b,h1,h2⟩:=h
 ⟨fn,t,a,b,h1,h2.mono hr⟩
theorem No.imp{Y:Gh->World->Prop}{l:Nat}{args:List AV}{h0:Nat->HO}{Q Q' : AV->(Nat->HO)->Prop}(h:No P Y l args h0 Q)(hq:∀r h',Q r h'->Q' r h'):No P Y l args h0 Q':=
 fun g w vals q1 q2 q3 q4=>YieldAt.imp (h g w vals q1 q2 q3 q4) fun _ _ ⟨v,r,h',g',e1,e2,rest⟩=>⟨v,r,h',g',e1,hq _ _ e2,rest⟩
theorem Ey.imp{Y:Nat->Gh->World->Prop}{F:AV}{args:List AV}{h0:Nat->HO}{Q Q' : AV->(Nat->HO)->Prop}(h:Ey P Y F args h0 Q)(hq:∀r h',Q r h'->Q' r h'):Ey P Y F args h0 Q':=by
 have one:∀{f:Nat} {l:List AV},BL P f l h0 Q->BL P f l h0 Q':=fun hc=>
  ⟨hc.1,fun g w vals q1 q2 q3=>(hc.2 g w vals q1 q2 q3).mono fun _ _ ⟨v,r,h',g',e1,e2,rest⟩=>⟨v,r,h',g',e1,hq _ _ e2,rest⟩⟩
 unfold Ey at h⊢;split at h
 .exact one h
 .exact one h
 .exact No.imp h hq
 .exact h.elim
abbrev J0(ro:Option Nat):Fence:={ Fence.wide with round:=ro }
theorem Jy{ro:Option Nat}{a:Act}{w:World}{next:Act->World->Prop}{Q:Exit->Act->World->Prop}(hd:∀c,o.op≠.defer c)(h:o.wp P a w next Q):o.wpIn (J0 ro) 0 P a w next Q:=by
 refine⟨fun _ _=>trivial,?_⟩;have e:o.semAt (J0 ro).round a.eval=execOp a.eval o:=Oper.semAt_eq ro a.eval o hd;rw[e];unfold Oper.wp at h;have key:∀res:Result Next,o.upon P a next Q res->o.uponIn (J0 ro) 0 P a next Q res:=fun res h=>by
  cases res with
  |ok n w'=>cases n with
   |enter f args=>exact(show(_->_)/\CallsIn (J0 ro) 0 P f args w' _ from⟨fun e=>by(cases e),callsIn_wide.2 h⟩)
   |row r args=>exact(show(_->_)/\RowsIn (J0 ro) 0 P r args w' _ from⟨fun e=>by(cases e),fun c cs _=>by
     obtain⟨v,se,r',s⟩:=h c cs;exact⟨v,se,r',stepsIn_wide.2 s⟩⟩)
   |round _ _ _ _ _=>exact h.elim
   |_=>exact h
  |halt x w'=>cases x<;>exact h
 exact key _ h
theorem FR{f:Nat}{args:Array Value}(h:Enters P f)(w:World):(callFunc f args).run P w=.ok (.enter f args) w:=by
 obtain⟨fn,h1,h2,h3⟩:=h;simp only[callFunc,Sem.run_bind,run_program,h1,Result.andThen_ok,h2,h3,Cg,FK,Sem.run_pure]
theorem Oz{h:Nat->HO}{a:AV}(ha:Vt a=true):ren (B5 []) h a=str h a:=by
 have h0:∀a,ren0 (B5 []) h a=str0 h a:=fun a=>by
  cases a with
  |slice tk es=>cases tk<;>rfl
  |_=>rfl
 cases a with
 |tup cs=>cases ha
 |agg cs=>show AV.agg _=AV.agg _;exact Aa _ (BH fun c _=>h0 c)
 |clo f cs=>show AV.clo f _=AV.clo f _;exact Aa _ (BH fun c _=>h0 c)
 |v x=>exact h0 (.v x)
 |slice tk es=>exact h0 (.slice tk es)
 |msl r n=>exact h0 (.msl r n)
 |cptr cs=>exact h0 (.cptr cs)
 |ref r o=>exact h0 (.ref r o)
 |eref r n sz i o=>exact h0 (.eref r n sz i o)
 |mref r=>exact h0 (.mref r)
 |cmap sh l=>exact h0 (.cmap sh l)
 |junk=>rfl
theorem L6{h:Nat->HO}:∀{l:List AV},Ok l=true->l.map (ren (B5 []) h)=l.map (str h)
 | [],_=>rfl
 |a::l,e=>by
  unfold Ok at e;split at e
  .rename_i e1;rw[Bq,Bq,Oz e1,L6 e]
  .cases e
theorem Mf:∀{l:List AV} {vs:List Value},Qz l=some vs->l=vs.map .v
 | [],vs,h=>by cases h;rfl
 |.v x::r,vs,h=>by
  unfold Qz at h;split at h
  .rename_i l e;cases h;rw[Bq,<-Mf e]
  .cases h
theorem V5{d:Option Nat}{st:St}{F:AV}{args:List AV}(hk:EL cx true d st F args K):EL cx false d st F args K:=by
 unfold EL at hk;simp only at hk;split at hk
 .exact⟨.pure,hk⟩
 .split at hk
  .exact hk.elim
  .rename_i d _;obtain⟨n,sz,es,h1,h2,h3⟩:=hk;simp only[Ak]at h1;refine⟨.gen [] 1,?_⟩;show(DI []&&CX st.h d 1&&CH [] d 1)=true/\_;refine⟨by simp[DI,CH,h1.1.1],?_⟩;rw[Oz h1.1.2,L6 h1.2];show Ey cx.P (fun l=>cx.yp l []) _ _ Ao _;refine Ey.imp h2 ?_
   rintro r h' ⟨e2,e3⟩
   subst e2;subst e3;have e1:ren (Eo [] d 1) (AC [(2000,.arr sz es)] Ao) (.msl 2000 n)=.msl (Bd d 0) n:=rfl;have e2:DH [] d 1 st.h (AC [(2000,.arr sz es)] Ao)=AH st.h (Bd d 0) (.arr sz es):=by
    funext i
    by_cases e:i=Bd d 0
    .subst e;rw[AM];have hb:(Nat.ble (Bd d 0) (Bd d 0)&&Nat.blt (Bd d 0) (Bd d 1))=true:=by
      unfold Bd;simp only[Ak,Cz,B1];omega
     simp only[DH,B5,hb,DB];rfl
    .rw[Bs _ _ _ _ e]
     have:(Nat.ble (Bd d 0) i&&Nat.blt i (Bd d 1))=false:=by
      unfold Bd at e⊢;rw[A8];simp only[ne_eq,Ak,Cz,B1];omega
     simp only[DH,B5,this]
   rw[e1,e2];exact h3
 .split at hk
  .unfold OQ at hk;split at hk
   .exact hk.elim
   .rename_i d _;obtain⟨sz,es,h1,h2,h3⟩:=hk;simp only[Ak]at h1;refine⟨.gen [] 1,?_⟩;show(DI []&&CX st.h d 1&&CH [] d 1)=true/\_;refine⟨by simp[DI,CH,h1.1.1],?_⟩;rw[Oz h1.1.2,L6 h1.2];show Ey cx.P (fun l=>cx.yp l []) _ _ Ao _;refine Ey.imp h2 ?_
    rintro r h' ⟨e2,e3⟩
    subst e2;subst e3;have e1:ren (Eo [] d 1) (AC [(2000,.tok sz es.length)] Ao) (.slice (.id 2000 sz) es)=.slice (.id (Bd d 0) sz) es:=rfl;have e2:DH [] d 1 st.h (AC [(2000,.tok sz es.length)] Ao)=AH st.h (Bd d 0) (.tok sz es.length):=by
     funext i
     by_cases e:i=Bd d 0
     .subst e;rw[AM];have hb:(Nat.ble (Bd d 0) (Bd d 0)&&Nat.blt (Bd d 0) (Bd d 1))=true:=by
       unfold Bd;simp only[Ak,Cz,B1];omega
      simp only[DH,B5,hb,DB];rfl
     .rw[Bs _ _ _ _ e]
      have:(Nat.ble (Bd d 0) i&&Nat.blt i (Bd d 1))=false:=by
       unfold Bd at e⊢;rw[A8];simp only[ne_eq,Ak,Cz,B1];omega
      simp only[DH,B5,this]
    rw[e1,e2];exact h3
  split at hk
  .unfold Mh at hk;split at hk
   .rename_i d l vs e2 z1;have hl:=Mf e2;split at hk
    .rename_i r sz es VH n e3 e4;obtain⟨⟨rfl,rfl⟩,v,EA,n',h1,h2⟩:=hk;refine⟨.gen [(1000,1000),(1001,1001)] 0,?_⟩;show(DI [(1000,1000),(1001,1001)]&&CX st.h d 0&&CH [(1000,1000),(1001,1001)] d 0)=true/\_;refine⟨?_,?_⟩
     .have:CH [(1000,1000),(1001,1001)] d 0=true:=by
       have q:∀r:Nat,(Nat.ble (Bd d 0) r&&Nat.blt r (Bd d 0))=false:=fun r=>by
        rw[A8];simp only[ne_eq,Ak,Cz,B1];omega
       simp only[CH,q,Bool.not_false,Bool.and_self]
      rw[this];rfl
     have f1:args.map (ren (B5 [(1000,1000),(1001,1001)]) st.h)=vs.map .v:=by rw[hl,Cw];rfl
     have f2:EV [(1000,1000),(1001,1001)] st.h=AC [(1000,.cells [.slice (.id 1001 VH) es]),(1001,.tok VH n)] Ao:=by
      unfold EV TA TA TA;rw[e3,e4];rfl
     rw[f1,f2];refine No.imp h1 ?_
     rintro r h' ⟨g1,g2⟩
     subst g1;subst g2;have f3:DH [(1000,1000),(1001,1001)] d 0 st.h (AC [(1000,.cells [.slice (.id 1001 VH) EA]),(1001,.tok VH n')] Ao)=AH (AH st.h 1001 (.tok VH n')) 1000 (.cells [.slice (.id 1001 VH) EA]):=by
      funext i
      by_cases e:i=1000
      .subst e;rw[AM];rfl
      .rw[Bs _ _ _ _ e]
       by_cases e' : i=1001
       .subst e';rw[AM];rfl
       .rw[Bs _ _ _ _ e'];have hn:B5 [(1000,1000),(1001,1001)] i=none:=by simp[B5,B4 (Ne.symm e),B4 (Ne.symm e')]
        have:(Nat.ble (Bd d 0) i&&Nat.blt i (Bd d 0))=false:=by
         rw[A8];simp only[ne_eq,Ak,Cz,B1];omega
        simp only[DH,hn,this]
     rw[f3];exact h2
    .exact hk.elim
   .exact hk.elim
  unfold Lp at hk;split at hk
  .unfold Ss at hk;split at hk
   .rename_i d f Cs fP _;obtain⟨σ,H0,Hn,args',res,g1,g2,g3,g4⟩:=hk;simp only[Ak]at g2;obtain⟨k1,k2⟩:=g1 st.h fun _ _=>rfl;refine⟨.gen σ 0,?_⟩;show(DI σ&&CX st.h d 0&&CH σ d 0)=true/\_;refine⟨by rw[g2.1.1,g2.1.2];rfl,?_⟩;have key:Ey cx.P (fun l=>cx.yp l σ) (ren (B5 σ) st.h F) (args.map (ren (B5 σ) st.h)) (AC H0 Ao) (fun r h'=>r=res/\h'=AC Hn Ao):=by
     rw[<-k2]at g3;unfold YQ at fP;split at fP
     .cases fP
      rw[EJ,BR]at g3;exact g3
     .cases fP
      exact g3
     .cases fP
    rw[k1];refine Ey.imp key ?_
    rintro r h' ⟨e1,e2⟩
    rw[e1,e2];exact g4
   .exact hk.elim
  unfold MF at hk;split at hk
  .rename_i dd f r n l _;split at hk
   .rename_i vs Uq;have hl:=Mf Uq;subst hl;split at hk
    .rename_i sz es hr;have hf:B5 [(r,1000)] r=some 1000:=by simp[B5]
     have e1:ren (B5 [(r,1000)]) st.h (.v (.func (.func f) ⟨[]⟩ ⟨[]⟩))=.v (.func (.func f) ⟨[]⟩ ⟨[]⟩):=rfl;have e2:(AV.msl r n::vs.map AV.v).map (ren (B5 [(r,1000)]) st.h)=.msl 1000 n::vs.map .v:=by
      rw[Bq]
      congr 1
      .simp[ren,ren1,ren0,hf]
      .rw[Cw];rfl
     have e3:EV [(r,1000)] st.h=AC [(1000,.arr sz es)] Ao:=by
      unfold EV TA;rw[hr];rfl
     split at hk
     .obtain⟨n',EA,h1,h2⟩:=hk;refine⟨.gen [(r,1000)] 0,?_⟩;show(DI [(r,1000)]&&CX st.h dd 0&&CH [(r,1000)] dd 0)=true/\_;refine⟨?_,?_⟩
      .have:CH [(r,1000)] dd 0=true:=by
        unfold CH
        have:(Nat.ble (Bd dd 0) r&&Nat.blt r (Bd dd 0))=false:=by
         rw[A8];simp only[ne_eq,Ak,Cz,B1];omega
        rw[this];rfl
       rw[this];rfl
      rw[e1,e2,e3];refine⟨h1.1,fun g w vals q1 q2 q3=>(h1.2 g w vals q1 q2 q3).mono fun _ _ ⟨v,r',h',g',e1,⟨e2,e3⟩,rest⟩=>⟨v,r',h',g',e1,?_,rest⟩⟩;subst e2;subst e3;have f1:ren (Eo [(r,1000)] dd 0) (AC [(1000,.arr sz EA)] Ao) (.msl 1000 n')=.msl r n':=rfl;have f2:DH [(r,1000)] dd 0 st.h (AC [(1000,.arr sz EA)] Ao)=AH st.h r (.arr sz EA):=by
       funext i
       by_cases e:i=r
       .subst e;rw[AM];simp[DH,hf,AC,HO.ren]
       .rw[Bs _ _ _ _ e];have hn:B5 [(r,1000)] i=none:=by simp[B5,B4 (Ne.symm e)]
        have:(Nat.ble (Bd dd 0) i&&Nat.blt i (Bd dd 0))=false:=by
         rw[A8];simp only[ne_eq,Ak,Cz,B1];omega
        simp only[DH,hn,this]
      rw[f1,f2];exact h2
     .obtain⟨n',EA,h0,h1,h2⟩:=hk;simp only[Ak,B1,CE]at h0;have oE:r≠Bd dd 0:=fun e=>by have:=h0.2;rw[e]at this;simp at this
      refine⟨.gen [(r,1000)] 1,?_⟩;show(DI [(r,1000)]&&CX st.h dd 1&&CH [(r,1000)] dd 1)=true/\_;refine⟨?_,?_⟩
      .have:CH [(r,1000)] dd 1=true:=by
        unfold CH
        have:(Nat.ble (Bd dd 0) r&&Nat.blt r (Bd dd 1))=false:=by
         rw[A8];simp only[ne_eq,Ak,Cz,B1];unfold Bd at oE⊢;omega
        rw[this];rfl
       rw[this,h0.1.1];rfl
      rw[e1,e2,e3];refine⟨h1.1,fun g w vals q1 q2 q3=>(h1.2 g w vals q1 q2 q3).mono fun _ _ ⟨v,r',h',g',e1,⟨e2,e3⟩,rest⟩=>⟨v,r',h',g',e1,?_,rest⟩⟩;subst e2;subst e3;have f1:ren (Eo [(r,1000)] dd 1) (AC [(1000,.dead),(2000,.arr sz EA)] Ao) (.msl 2000 n')=.msl (Bd dd 0) n':=rfl;have f2:DH [(r,1000)] dd 1 st.h (AC [(1000,.dead),(2000,.arr sz EA)] Ao)=AH (AH st.h r .dead) (Bd dd 0) (.arr sz EA):=by
       funext i
       by_cases e:i=Bd dd 0
       .subst e;rw[AM];have hn:B5 [(r,1000)] (Bd dd 0)=none:=by simp[B5,B4 oE]
        have hb:(Nat.ble (Bd dd 0) (Bd dd 0)&&Nat.blt (Bd dd 0) (Bd dd 1))=true:=by
         unfold Bd;simp only[Ak,Cz,B1];omega
        simp only[DH,hn,hb,DB];rfl
       .rw[Bs _ _ _ _ e]
        by_cases e4:i=r
        .subst e4;rw[AM];simp[DH,hf,AC,HO.ren]
        .rw[Bs _ _ _ _ e4];have hn:B5 [(r,1000)] i=none:=by simp[B5,B4 (Ne.symm e4)]
         have:(Nat.ble (Bd dd 0) i&&Nat.blt i (Bd dd 1))=false:=by
          rw[A8];simp only[ne_eq,Ak,Cz,B1];unfold Bd at e⊢;omega
         simp only[DH,hn,this]
      rw[f1,f2];exact h2
    .exact hk.elim
   .exact hk.elim
  .exact hk.elim
theorem Yr{d:Option Nat}{f:Operand}{dst:Option Nat}{ty:Nat}{gd:Option (Nat×Bool)}{next:Act->World->Prop}{Q:Exit->Act->World->Prop}(hP:cx.P=P)(hY:∀l σ h g w,DI σ=true->Do w0 g0 h0 h g w->Le h0 g0 w0 h g w->cx.yp l σ (CP σ g) w){ro:Option Nat}(hS:SR N ds w0 g0 h0 st g a w)(hk:EL cx dr d st (ev st.t f) (args.toList.map (ev st.t)) K)(hn:TQ w0 g0 h0 st.h g w K fun x w'=>next (a.put dst x) w'):Oper.wpIn (J0 ro) 0 P ⟨dst,.call ⟨.value f,args,E2⟩,ty,pos,after,gd⟩ a w next Q:=by
 subst hP;have hk:EL cx false d st (ev st.t f) (args.toList.map (ev st.t)) K:=by
  cases dr with
  |true=>exact V5 hk
  |false=>exact hk
 have EN:∀(i:Nat) (av:AV) (x:Value),((args.toList.map (ev st.t)).map (str st.h))[i]?=some av->(args.map a.eval)[i]?=some x->Bo g w D2 av x:=by
  intro i av x h1 h2;rw[Ap,Ap]at h1;rw[KE]at h2;cases ho:args[i]? with
  |none=>rw[ho]at h2;simp at h2
  |some y=>
   rw[ho]at h2;have hy:args.toList[i]?=some y:=by simpa using ho
   rw[hy]at h1;simp only[JK,Ba]at h1 h2;subst h1;subst h2;exact Bo.str hS.inv.objs (hS.eval y)
 have BQ:(args.map a.eval).size=((args.toList.map (ev st.t)).map (str st.h)).length:=by simp
 have hF:=Bo.str hS.inv.objs (hS.eval f)
 -- a call of yield
 have yl:∀(l:Nat) (R:Ending->World->Prop),a.eval f=.func (.yield l) #[] #[]->YieldAt Fence.wide 0 cx.P l (args.map a.eval) w R->(∀e w',R e w'->∃v,e=.returned v/\next (a.put dst v) w') ->
   Oper.wpIn (J0 ro) 0 cx.P ⟨dst,.call ⟨.value f,args,E2⟩,ty,pos,after,gd⟩ a w next Q:=by
  rintro l R hx ⟨fn,tm,M0,bd,h1,h2⟩ hR
  refine⟨fun _ _=>trivial,?_⟩;have e:(⟨dst,.call ⟨.value f,args,E2⟩,ty,pos,after,gd⟩:Oper).semAt (J0 ro).round a.eval=execOp a.eval ⟨dst,.call ⟨.value f,args,E2⟩,ty,pos,after,gd⟩:=Oper.semAt_eq ro a.eval _ (fun c e=>by cases e);have Ce:(execOp a.eval ⟨dst,.call ⟨.value f,args,E2⟩,ty,pos,after,gd⟩).run cx.P w=.ok (.round l fn tm M0 bd) w:=by
   simp only[execOp,resolve,hx,Deferred.ofValue,Sem.run_bind,Sem.run_pure,Result.andThen_ok,invoke];simpa using h1
  rw[e,Ce];refine(show(_->_)/\RoundIn (J0 ro) 0 cx.P l fn tm M0 bd w _ from⟨fun e=>by(cases e),RoundIn.mono h2 fun e w' h=>?_⟩);obtain⟨v,rfl,hn⟩:=hR e w' h;exact hn
 -- the call itself
 have go:∀(Q' : AV->(Nat->HO)->Prop),(∀r h',Q' r h'->h'=Ao/\K r st.h)->Ey cx.P (fun _ _ _=>True) (str st.h (ev st.t f)) ((args.toList.map (ev st.t)).map (str st.h)) Ao Q' ->
   Oper.wpIn (J0 ro) 0 cx.P ⟨dst,.call ⟨.value f,args,E2⟩,ty,pos,after,gd⟩ a w next Q:=by
  intro Q' hQ hc
  have fin:∀{fn:Nat} {l:List AV} {vals:Array Value},BL cx.P fn l Ao Q'->vals.size=l.length->(∀(i:Nat) (av:AV) (x:Value),l[i]?=some av->vals[i]?=some x->Bo g w D2 av x) ->
    (execOp a.eval ⟨dst,.call ⟨.value f,args,E2⟩,ty,pos,after,gd⟩).run cx.P w=.ok (.enter fn vals) w->Oper.wpIn (J0 ro) 0 cx.P ⟨dst,.call ⟨.value f,args,E2⟩,ty,pos,after,gd⟩ a w next Q:=by
   intro fn l vals hc hs hv Ce;refine Jy (fun c e=>by cases e) ?_;unfold Oper.wp;rw[Ce];exact V6 hS.inv hc hs hv (fun v r h' g' w' hq _ hI Fc hr=>hn r _ g' w' v (hQ r h' hq).2 hI Fc (hr.up _)) (fun r h' hq=>(hQ r h' hq).1)
  unfold Ey at hc;split at hc
  .rename_i fn e;rw[e]at hF;have hx:=hF.v_eq;refine fin hc BQ EN ?_;have IL : a.eval f=.func (.func fn) #[] #[]:=hx;simp only[execOp,resolve,IL,Deferred.ofValue,Sem.run_bind,Sem.run_pure,Result.andThen_ok,invoke];rw[FR hc.1];simp
  .rename_i fn Cs e;rw[e]at hF;generalize hx:a.eval f=fv at hF;cases hF with
   |clo _ _ _ vs Dm I4=>
    refine fin hc (vals:=args.map a.eval++vs) (by simp[Dm]) (fun i av x h1 h2=>?_) ?_
    .rw[IQ]at h1;rw[Array.getElem?_append]at h2;have hl:((args.toList.map (ev st.t)).map (str st.h)).length=(args.map a.eval).size:=BQ.symm;rw[hl]at h1;split at h1
     .rename_i hi;rw[Av hi]at h2;exact EN i av x h1 h2
     .rename_i hi;rw[Aj hi]at h2;exact I4 _ av x h1 h2
    .simp only[execOp,resolve,hx,Deferred.ofValue,Sem.run_bind,Sem.run_pure,Result.andThen_ok,invoke];rw[FR hc.1];simp
  .rename_i l e;rw[e]at hF;have hU:AD Ao=D2:=by funext i;unfold AD D2 Ao;simp
   refine yl l _ hF.v_eq (Nw (C:=YieldAt Fence.wide 0 cx.P l (args.map a.eval) w) (R:=fun e w'=>∃v,e=.returned v/\next (a.put dst v) w') YieldAt.imp hS.inv (fun cg=>hc g w _ BQ (fun i av x h1 h2=>by rw[hU];exact EN i av x h1 h2) cg trivial)
    (fun v r h' g' w' hq _ hI Fc hr=>⟨v,rfl,hn r _ g' w' v (hQ r h' hq).2 hI Fc (hr.up _)⟩) (fun r h' hq=>(hQ r h' hq).1)) fun _ _ h=>h
  .exact hc.elim
 have pure:(∃res,QH cx.P (str st.h (ev st.t f)) ((args.toList.map (ev st.t)).map (str st.h)) res/\K res st.h)->Oper.wpIn (J0 ro) 0 cx.P ⟨dst,.call ⟨.value f,args,E2⟩,ty,pos,after,gd⟩ a w next Q:=by
  rintro⟨res,h1,h2⟩
  refine go (fun r h'=>r=res/\h'=Ao) (fun r h' hq=>⟨hq.2,by rw[hq.1];exact h2⟩) ?_;unfold QH at h1;unfold Ey;split at h1
  .rename_i fn e;rw[e];exact h1
  .rename_i fn Cs e;rw[e];exact h1
  .exact h1.elim
 unfold EL at hk
 .obtain⟨m,hm⟩:=hk;cases m with
  |pure=>exact pure hm
  |rel=>exact go _ (fun r h' hq=>hq) hm
  |gen σ nn=>
   simp only at hm;cases d with
   |none=>exact hm.elim
   |some d=>
    simp only at hm;obtain⟨JL,hc⟩:=hm;have hσ:DI σ=true:=by simp only[Ak]at JL;exact JL.1.1
    obtain⟨hR,_⟩:=Uj hS.inv hσ;have YY:=(hS.eval f).ren hR;have NV:∀(i:Nat) (av:AV) (x:Value),((args.toList.map (ev st.t)).map (ren (B5 σ) st.h))[i]?=some av->(args.map a.eval)[i]?=some x->Bo (CP σ g) w (AD (EV σ st.h)) av x:=by
     intro i av x h1 h2;rw[Ap,Ap]at h1;rw[KE]at h2;cases ho:args[i]? with
     |none=>rw[ho]at h2;simp at h2
     |some y=>
      rw[ho]at h2;have hy:args.toList[i]?=some y:=by simpa using ho
      rw[hy]at h1;simp only[JK,Ba]at h1 h2;subst h1;subst h2;exact(hS.eval y).ren hR
    have I6:(args.map a.eval).size=((args.toList.map (ev st.t)).map (ren (B5 σ) st.h)).length:=by simp
    have fin:∀{fn:Nat} {l:List AV} {vals:Array Value},BL cx.P fn l (EV σ st.h) (fun r h'=>K (ren (Eo σ d nn) h' r) (DH σ d nn st.h h'))->vals.size=l.length ->
      (∀(i:Nat) (av:AV) (x:Value),l[i]?=some av->vals[i]?=some x->Bo (CP σ g) w (AD (EV σ st.h)) av x) ->
      (execOp a.eval ⟨dst,.call ⟨.value f,args,E2⟩,ty,pos,after,gd⟩).run cx.P w=.ok (.enter fn vals) w->Oper.wpIn (J0 ro) 0 cx.P ⟨dst,.call ⟨.value f,args,E2⟩,ty,pos,after,gd⟩ a w next Q:=by
     intro fn l vals hc hs hv Ce;refine Jy (fun c e=>by cases e) ?_;unfold Oper.wp;rw[Ce];exact Ys hS.inv JL hc hs hv (fun v r h' g' w' hq hI Fc hr=>hn _ _ g' w' v hq hI Fc hr)
    unfold Ey at hc;split at hc
    .rename_i fn e;rw[e]at YY;have hx:a.eval f=.func (.func fn) #[] #[]:=YY.v_eq;refine fin hc I6 NV ?_;simp only[execOp,resolve,hx,Deferred.ofValue,Sem.run_bind,Sem.run_pure,Result.andThen_ok,invoke];rw[FR hc.1];simp
    .rename_i fn Cs e;rw[e]at YY;generalize hx:a.eval f=fv at YY;cases YY with
     |clo _ _ _ vs Dm I4=>
      refine fin hc (vals:=args.map a.eval++vs) (by simp[Dm]) (fun i av x h1 h2=>?_) ?_
      .rw[IQ]at h1;rw[Array.getElem?_append]at h2;have hl:((args.toList.map (ev st.t)).map (ren (B5 σ) st.h)).length=(args.map a.eval).size:=I6.symm;rw[hl]at h1;split at h1
       .rename_i hi;rw[Av hi]at h2;exact NV i av x h1 h2
       .rename_i hi;rw[Aj hi]at h2;exact I4 _ av x h1 h2
      .simp only[execOp,resolve,hx,Deferred.ofValue,Sem.run_bind,Sem.run_pure,Result.andThen_ok,invoke];rw[FR hc.1];simp
    .rename_i l e;rw[e]at YY
     exact yl l _ YY.v_eq (LD (C:=YieldAt Fence.wide 0 cx.P l (args.map a.eval) w) (R:=fun e w'=>∃v,e=.returned v/\next (a.put dst v) w') YieldAt.imp hS.inv JL (fun cg=>hc (CP σ g) w _ I6 NV cg (hY l σ _ _ _ hσ hS.inv hS.le))
      (fun v r h' g' w' hq hI Fc hr=>⟨v,rfl,hn _ _ g' w' v hq hI Fc hr⟩)) fun _ _ h=>h
    .exact hc.elim
  |geny σ nn=>
   simp only at hm;cases d with
   |none=>exact hm.elim
   |some d=>
    simp only at hm;obtain⟨JL,hc⟩:=hm;have hσ:DI σ=true:=by simp only[Ak]at JL;exact JL.1.1
    obtain⟨hR,_⟩:=Uj hS.inv hσ;have YY:=(hS.eval f).ren hR;have NV:∀(i:Nat) (av:AV) (x:Value),((args.toList.map (ev st.t)).map (ren (B5 σ) st.h))[i]?=some av->(args.map a.eval)[i]?=some x->Bo (CP σ g) w (AD (EV σ st.h)) av x:=by
     intro i av x h1 h2;rw[Ap,Ap]at h1;rw[KE]at h2;cases ho:args[i]? with
     |none=>rw[ho]at h2;simp at h2
     |some y=>
      rw[ho]at h2;have hy:args.toList[i]?=some y:=by simpa using ho
      rw[hy]at h1;simp only[JK,Ba]at h1 h2;subst h1;subst h2;exact(hS.eval y).ren hR
    have I6:(args.map a.eval).size=((args.toList.map (ev st.t)).map (ren (B5 σ) st.h)).length:=by simp
    split at hc
    .rename_i fn Cs e;rw[e]at YY;generalize hx:a.eval f=fv at YY;cases YY with
     |clo _ _ _ vs Dm I4=>
      have Ce:(execOp a.eval ⟨dst,.call ⟨.value f,args,E2⟩,ty,pos,after,gd⟩).run cx.P w=.ok (.enter fn (args.map a.eval++vs)) w:=by
       simp only[execOp,resolve,hx,Deferred.ofValue,Sem.run_bind,Sem.run_pure,Result.andThen_ok,invoke];rw[FR hc.1];simp
      refine Jy (fun c e=>by cases e) ?_;unfold Oper.wp;rw[Ce];refine LD (C:=Calls cx.P fn (args.map a.eval++vs) w) (fun h k=>h.mono k) hS.inv JL (fun cg=>hc.2 (CP σ g) w _ (by simp[Dm]) (fun i av x h1 h2=>?_) cg (fun l=>hY l σ _ _ _ hσ hS.inv hS.le)) (fun v r h' g' w' hq hI Fc hr=>hn _ _ g' w' v hq hI Fc hr);rw[IQ]at h1;rw[Array.getElem?_append]at h2;have hl:((args.toList.map (ev st.t)).map (ren (B5 σ) st.h)).length=(args.map a.eval).size:=I6.symm;rw[hl]at h1;split at h1
      .rename_i hi;rw[Av hi]at h2;exact NV i av x h1 h2
      .rename_i hi;rw[Aj hi]at h2;exact I4 _ av x h1 h2
    .exact hc.elim
end
section
variable {P:Program}{N:Nat}{ds:List Deferred}{w0:World}{g0:Gh}{h0:Nat->HO}{st:St}{g:Gh}{a:Act}{w:World}
theorem Sc(hT:B7 P cx.T){b:Builtin}{dst:Option Nat}{ty:Nat}{gd:Option (Nat×Bool)}{next:Act->World->Prop}{Q:Exit->Act->World->Prop}(hS:SR N ds w0 g0 h0 st g a w)(hk:Es cx dst st.h b E2.toList (args.toList.map (ev st.t)) K)(hn:TQ w0 g0 h0 st.h g w K fun x w'=>next (a.put dst x) w'):Oper.wp P ⟨dst,.call ⟨.builtin b,args,E2⟩,ty,pos,after,gd⟩ a w next Q:=by
 have hI:=hS.inv;have hE:=hS.eval;obtain⟨l⟩:=args;obtain⟨tl⟩:=E2;unfold Es at hk;split at hk
 .rename_i x t e1 e2
  match l,e1 with
  | [y],e1=>
   simp only[Bq,EJ,Ea,and_true]at e1;subst e1;simp only at e2;subst e2;exact CW (m:=Builtin.len_ #[t] ty #[a.eval y]) (by simp[execOp,resolve,invoke,builtin]) (Bk.does hI (Zu hT hI.objs (hE y) hk)) hn
 .rename_i s x t t' e1 e2
  match l,e1 with
  | [y,z],e1=>
   simp only[Bq,EJ,Ea,and_true]at e1;obtain⟨rfl,rfl⟩:=e1;simp only at e2;subst e2;split at hk
   .rename_i ht;obtain rfl:=AB ht;exact CW (m:=Builtin.append_ #[t,t] ty #[a.eval y,a.eval z]) (by simp[execOp,resolve,invoke,builtin]) (TW hI hT (hE y) (hE z) hk) hn
   .exact hk.elim
 .rename_i x y E2 e1
  match l,e1 with
  | [y,z],e1=>
   simp only[Bq,EJ,Ea,and_true]at e1;obtain⟨rfl,rfl⟩:=e1;exact CW (m:=Builtin.max_ ⟨tl⟩ ty #[a.eval y,a.eval z]) (by simp[execOp,resolve,invoke,builtin]) (Bk.does hI (cI (hE y) (hE z) hk)) hn
 .rename_i x y E2 e1
  match l,e1 with
  | [y,z],e1=>
   simp only[Bq,EJ,Ea,and_true]at e1;obtain⟨rfl,rfl⟩:=e1;exact CW (m:=Builtin.min_ ⟨tl⟩ ty #[a.eval y,a.eval z]) (by simp[execOp,resolve,invoke,builtin]) (Bk.does hI (cK (hE y) (hE z) hk)) hn
 .exact hk.elim
theorem bv(hT:B7 P cx.T){next:Act->World->Prop}{Q:Exit->Act->World->Prop}(hS:SR N ds w0 g0 h0 st g a w)(hk:Ek cx dr o st K)(hv:∀f args E2,o.op≠.call ⟨.value f,args,E2⟩)(hn:TQ w0 g0 h0 st.h g w K fun x w'=>next (a.put o.dst x) w'):o.wp P a w next Q:=by
 have hI:=hS.inv;have hE:=hS.eval;obtain⟨dst,op,ty,pos,after,gd⟩:=o;unfold Ek at hk;cases op with
 |move x=>exact VK hI (x:=a.eval x) rfl hk (hE x) hn
 |assign x=>
  obtain⟨g',av,h',q1,q2,q3,q4⟩:=TY hI (hE x) hk;exact hn _ _ _ _ _ q1 q2 q3 q4
 |pick c x y=>exact CW (m:=do pure (if <-asBool (a.eval c)then a.eval x else a.eval y)) (by simp[execOp]) (Bk.does hI (aa (hE c) (hE x) (hE y) hk)) hn
 |alloc e=>exact CW rfl (VR hI hT hk) hn
 |box e x=>exact CW rfl (bC hI (hE x) hk) hn
 |build t ps=>exact CW rfl (Bk.does hI (V3 hT hE hk)) hn
 |buildSlice t n ps=>exact CW rfl (Nv hI hT hE hk) hn
 |insert t m k x=>exact RE rfl (J5 hI hT (hE m) (hE k) (hE x) hk) hn
 |load t x=>exact CW rfl (Bk.does hI (PY hI.objs hT (hE x) hk)) hn
 |store t p x=>exact RE rfl (Xv hI hT (hE p) (hE x) hk) hn
 |nilCheck x=>
  obtain⟨h1,h2⟩:=Rr (P:=P) (w:=w) (hE x) hk (pos:=pos) (after:=after) (gd:=gd) (dst:=dst) (ty:=ty) (ρ:=a.eval) rfl;exact VK hI h1 h2 (hE x) hn
 |binOp op t x y u=>exact CW rfl (Bk.does hI (Yk hT (hE x) (hE y) (fun v e=>by subst e;rfl) hk)) hn
 |unOp op t x=>exact CW rfl (Bk.does hI (aH (hE x) hk)) hn
 |convert s t x=>
  cases dr with
  |true=>exact CW rfl (Bk.does hI (Sg hT (hE x) hk)) hn
  |false=>exact CW rfl (Wb hI hT (hE x) hk) hn
 |makeFunc fn first cap=>exact CW rfl (Bk.does hI (Rj hI.objs hE hk)) hn
 |makeMap t r=>
  cases r with
  |some r=>exact hk.elim
  |none=>exact CW rfl (S4 hI hk) hn
 |makeSlice t n c=>exact CW rfl (Pm hI hT (hE n) (hE c) hk) hn
 |slice t x lo hi mx=>
  cases dr with
  |true=>
   cases hp:Ke cx.pl.tok dst with
   |none=>
    have hk' : ER cx dst st.h t (ev st.t x) (BJ st.t lo) (BJ st.t hi) (BJ st.t mx) K:=by
     have Gp:(match Ke cx.pl.tok dst with
      |none=>ER cx dst st.h t (ev st.t x) (BJ st.t lo) (BJ st.t hi) (BJ st.t mx) K
      |some _=>Ln cx dst st.h t (ev st.t x) lo (BJ st.t hi) mx K):=hk
     rw[hp]at Gp;exact Gp
    exact CW rfl (Qs hI hT hE (hE x) hk') hn
   |some _=>
    have hk' : Ln cx dst st.h t (ev st.t x) lo (BJ st.t hi) mx K:=by
     have Gp:(match Ke cx.pl.tok dst with
      |none=>ER cx dst st.h t (ev st.t x) (BJ st.t lo) (BJ st.t hi) (BJ st.t mx) K
      |some _=>Ln cx dst st.h t (ev st.t x) lo (BJ st.t hi) mx K):=hk
     rw[hp]at Gp;exact Gp
    unfold Ln at hk';split at hk'
    .exact CW rfl (VA hI hT hE (hE x) hk') hn
    .exact hk'.elim
  |false=>
   cases hp:Ke cx.pl.tok dst with
   |none=>
    have hk' : ER cx dst st.h t (ev st.t x) (BJ st.t lo) (BJ st.t hi) (BJ st.t mx) K:=by
     have Gp:(match Ke cx.pl.tok dst with
      |none=>ER cx dst st.h t (ev st.t x) (BJ st.t lo) (BJ st.t hi) (BJ st.t mx) K
      |some _=>TB cx dst st.h t (ev st.t x) st.t lo hi mx K):=hk
     rw[hp]at Gp;exact Gp
    exact CW rfl (Qs hI hT hE (hE x) hk') hn
   |some _=>
    have hk' : TB cx dst st.h t (ev st.t x) st.t lo hi mx K:=by
     have Gp:(match Ke cx.pl.tok dst with
      |none=>ER cx dst st.h t (ev st.t x) (BJ st.t lo) (BJ st.t hi) (BJ st.t mx) K
      |some _=>TB cx dst st.h t (ev st.t x) st.t lo hi mx K):=hk
     rw[hp]at Gp;exact Gp
    cases lo with
    |some lo=>exact CW rfl (TC hI hT hE (hE x) hk') hn
    |none=>
     unfold TB at hk';dsimp only at hk';split at hk'
     .exact CW rfl (Bk.does hI (VW hI.objs hT (hE x) hk')) hn
     .unfold Ln at hk';split at hk'
      .exact CW rfl (VA hI hT hE (hE x) hk') hn
      .exact hk'.elim
 |fieldAddr s x f=>exact CW rfl (Bk.does hI (Wk hT (hE x) hk)) hn
 |field s x f=>exact CW rfl (Bk.does hI (Ue hT (hE x) hk)) hn
 |indexAddr t x i=>exact CW rfl (Bk.does hI (Pk hT (hE x) (hE i) hk)) hn
 |index t x i=>exact CW rfl (Bk.does hI (WF hT (hE x) (hE i) hk)) hn
 |lookup t x i ok=>
  have hk:Jx cx.T st.h t (ev st.t x) (ev st.t i) ok fun v=>K v st.h:=by
   cases dr with
   |true=>exact WM hk
   |false=>exact hk
  exact CW rfl (Bk.does hI (Uy hT hI.objs (hE x) (hE i) hk)) hn
 |mapUpdate t m k x=>exact RE rfl (J5 hI hT (hE m) (hE k) (hE x) hk) hn
 |range t x=>
  simp only at hk;split at hk
  .rename_i kt e ht;exact CW rfl (Xk hI hT ht (hE x) hk) hn
  .exact hk.elim
 |next it s=>
  cases s with
  |true=>exact hk.elim
  |false=>exact CW rfl (ZL hI (hE it) hk) hn
 |entry it=>exact CW rfl (Bk.does hI (Wj hI.objs (hE it) hk)) hn
 |extract x i=>exact CW rfl (Bk.does hI (So (hE x) hk)) hn
 |call c=>
  obtain⟨fp,args,E2⟩:=c;cases fp with
  |builtin b=>exact Sc hT hS hk hn
  |value f=>exact absurd rfl (hv f args E2)
  |invoke r m=>exact hk.elim
 |_=>exact hk.elim
theorem XQ(hP:cx.P=P)(hY:∀l σ h g w,DI σ=true->Do w0 g0 h0 h g w->Le h0 g0 w0 h g w->cx.yp l σ (CP σ g) w){ro:Option Nat}(hT:B7 P cx.T){next:Act->World->Prop}{Q:Exit->Act->World->Prop}(hS:SR N ds w0 g0 h0 st g a w)(hk:Ek cx dr o st K)(hn:TQ w0 g0 h0 st.h g w K fun x w'=>next (a.put o.dst x) w'):o.wpIn (J0 ro) 0 P a w next Q:=by
 by_cases hv:∃f args E2,o.op=.call ⟨.value f,args,E2⟩
 .obtain⟨f,args,E2,e⟩:=hv;obtain⟨dst,op,ty,pos,after,gd⟩:=o;cases e;exact Yr hP hY hS hk hn
 .refine Jy (fun c e=>?_) (bv hT hS hk (fun f args E2 e=>hv ⟨f,args,E2,e⟩) hn);obtain⟨dst,op,ty,pos,after,gd⟩:=o;cases e;exact hk.elim
theorem d5{p:Nat->Prop}(h:∃n,p n):∃n,p n/\∀m,m<n->¬p m:=by
 apply Ax;intro hc
 have:∀n,¬p n:=fun n=>by
  induction n using Nat.strongRecOn with
  |_ n ih=>exact fun hp=>hc ⟨n,hp,ih⟩
 obtain⟨n,hn⟩:=h;exact this n hn
theorem wpIn_loop_ghost{m:Nat}{c:Code}{Q:Exit->Act->World->Prop}(I:Nat->Act->World->Prop)(k:Nat)(h0:I k a w)(round:∀n a w,I n a w->c.wpIn F m P (Exit.then (fun a' w'=>∃n',n' < n/\I n' a' w') Q) a w):(Code.loop c).wpIn F m P Q a w:=by
 classical
 have hex:∀a w,(∃n,I n a w)->∃n,I n a w/\∀n',n' < n->¬I n' a w:=fun a w h=>d5 h;refine wpIn_loop (fun a w=>∃n,I n a w) (fun a w=>if h:∃n,I n a w then(hex a w h).choose else 0) ⟨k,h0⟩ fun a w h=>?_;have hs:=(hex a w h).choose_spec;refine wpIn_mono (round _ a w hs.1) fun e a' w' q=>?_;cases e with
 |normal=>
  obtain⟨n',Dc,hn⟩:=q;have h' : ∃n,I n a' w':=⟨n',hn⟩;refine⟨h',?_⟩;simp only[dif_pos h,dif_pos h'];refine Nat.lt_of_le_of_lt ?_ Dc;apply BI;intro hc;exact(hex a' w' h').choose_spec.2 n' hc hn
 |_=>exact q
end
section
variable {P:Program}{N:Nat}{ds:List Deferred}{w0:World}{g0:Gh}{h0:Nat->HO}{st:St}{g:Gh}{a:Act}{w:World}
theorem V7(hT:B7 P T){ty e k ty2 b o n c:Nat}(ht:(T ty).d=.slice e)(hk:(T e).size=k+1)(hz:(T e).zc.length=k+1)(K7:∀v∈(T e).zc,v.oneCell'=true){Cl:Array Value}{E:TypeId}(hb:w.heap[b]?=some (.cells Cl E (0,0)))(hn:0<n)(Fc:o+n*(k+1)<=Cl.size) :
  (Builtin.clear_ #[ty] ty2 #[.slice (some ⟨b,o,none⟩) n c]).run P w=.ok (.tuple #[]) (w.setRow b (over Cl.toList o (List.replicate n (T e).zc).flatten).toArray):=by
 obtain⟨z,z1,z2⟩:=QD (w:=w) hT hk;have cy:(T e).zc≠[]:=fun e0=>by rw[e0]at hz;cases hz
 have gq:(Builtin.zeroCells z.cells n).toList=(List.replicate n (T e).zc).flatten:=by
  rw[FP n _ cy,hz,z2];have e6:z.cells.size=k+1:=by rw[<-hz,z2];simp
  unfold Builtin.zeroCells;simp[e6,Array.getElem!_eq_getD]
 have BQ:(List.replicate n (T e).zc).flatten.length=n*(k+1):=by
  rw[Cr (n:=k+1) (fun c hc=>by rw[BM hc];exact hz),A7]
 have JM:=run_storeCells_at P b o E (List.replicate n (T e).zc).flatten 0 Cl w hb (by rw[BQ];simpa using Fc) (fun v hv=>by
  obtain⟨l,hl,hv⟩:=Nj.1 hv;rw[BM hl]at hv;exact K7 v hv)
 simp only[CJ]at JM;rw[JA _ _ _ (by rw[BQ];simpa using Fc)];obtain⟨m,rfl⟩:∃m,n=m+1:=⟨n-1,by omega⟩;simp only[Builtin.clear_,Sem.run_bind,Eu,AX,run_underlying (hT.slice ht),Result.andThen_ok,z1,gq,JM,Sem.run_pure]
theorem T6(hT:B7 P T){ty e ty2 c:Nat}(ht:(T ty).d=.slice e)(x:Option Addr) :
  (Builtin.clear_ #[ty] ty2 #[.slice x 0 c]).run P w=.ok (.tuple #[]) w:=by
 cases x<;>simp only[Builtin.clear_,Sem.run_bind,Eu,AX,run_underlying (hT.slice ht),Result.andThen_ok,Sem.run_pure]
theorem am{d:Nat}(hd:d<a.tmps.size):(a.put (some d) x).eval (.tmp d)=x:=by
 show(a.tmps.setIfInBounds d x).getD d undef=x;rw[B9,Array.getElem?_setIfInBounds_self,Av hd];rfl
theorem Zc(h:Nat->HO)(r:Nat):AH h r (h r)=h:=funext fun i=>by
 by_cases e:i=r
 .subst e;exact AM ..
 .exact Bs _ _ _ _ e
theorem Uu(h:Oa o o2=true):∃ty x lo d ty2 pos after g8 c8 QK,o=⟨some d,.slice ty x (some lo) none none,ty2,pos,after,none⟩/\o2=⟨none,.call ⟨.builtin .clear,#[.tmp d],#[ty]⟩,g8,c8,QK,none⟩:=by
 obtain⟨dst,op,t2,p1,a1,gd⟩:=o;obtain⟨qP,sO,t3,p2,a2,lU⟩:=o2;unfold Oa at h;split at h
 .rename_i c e1;split at h
  .rename_i e2;split at h
   .rename_i ty x lo e3;split at h
    .rename_i d d' qr e4 e5 e6 e7 e8 e9;obtain⟨fp,⟨args⟩,⟨E2⟩⟩:=c;simp only at e1 e2 e3 e4 e5 e6 e7 e8 e9;simp only[Ak]at h;obtain rfl:=AB h.1;obtain rfl:=AB h.2;subst e1 e2 e3 e4 e5 e6 e7 e8 e9;exact⟨_,_,_,_,_,_,_,_,_,_,rfl,rfl⟩
    .cases h
   .cases h
  .cases h
 .cases h
theorem bJ(hT:B7 P cx.T){ro:Option Nat}(hd:∀i,o.dst=some i->i<N)(hc:Oa o o2=true){K:St->Prop}(hS:SR N ds w0 g0 h0 st g a w)(hk:V9 cx o st K){next:Act->World->Prop}{Q:Exit->Act->World->Prop}(hn:∀Eb g' a' w',K Eb->SR N ds w0 g0 h0 Eb g' a' w'->next a' w') :
  o.guard=none/\o2.guard=none/\o.wpIn (J0 ro) 0 P a w (fun a1 w1=>o2.wpIn (J0 ro) 0 P a1 w1 next Q) Q:=by
 obtain⟨ty,x,lo,d,ty2,pos,after,g8,c8,QK,rfl,rfl⟩:=Uu hc;refine⟨rfl,rfl,?_⟩;have hI:=hS.inv;have hE:=hS.eval;have nY:d<a.tmps.size:=by rw[hS.size];exact hd d rfl
 -- what is to be lx of the two operations
 have two:∀(v:Value) (Eb : St) (g' : Gh) (w' : World),(Instr.sliceAt ty (a.eval x) (some (a.eval lo)) none none).run P w=.ok v w->(Builtin.clear_ #[ty] g8 #[v]).run P w=.ok (.tuple #[]) w'->K ⟨Gz st.t d .junk,Eb.h⟩->Do w0 g0 h0 Eb.h g' w'->Le st.h g w Eb.h g' w' ->
   Oper.wpIn (J0 ro) 0 P ⟨some d,.slice ty x (some lo) none none,ty2,pos,after,none⟩ a w (fun a1 w1=>Oper.wpIn (J0 ro) 0 P ⟨none,.call ⟨.builtin .clear,#[.tmp d],#[ty]⟩,g8,c8,QK,none⟩ a1 w1 next Q) Q:=by
  intro v Eb g' w' r1 r2 hk qU Fc;refine Jy (by intro c e;cases e) ?_;unfold Oper.wp;have hx:execOp a.eval ⟨some d,.slice ty x (some lo) none none,ty2,pos,after,none⟩=(do pure (Next.value (<-Instr.sliceAt ty (a.eval x) (some (a.eval lo)) none none))):=rfl;rw[hx,Sem.run_bind,r1];refine Jy (by intro c e;cases e) ?_;unfold Oper.wp;have TO:execOp (a.put (some d) v).eval ⟨none,.call ⟨.builtin .clear,#[.tmp d],#[ty]⟩,g8,c8,QK,none⟩=(do pure (Next.value (<-Builtin.clear_ #[ty] g8 #[v]))):=by
   simp[execOp,resolve,invoke,builtin,am nY]
  rw[TO,Sem.run_bind,r2];have S1:SR N ds w0 g0 h0 (st.put (some d) .junk st.h) g (a.put (some d) v) w:=hS.put hd hI (.refl _ _ _) (.junk _ _);have S2:SR N ds w0 g0 h0 ((st.put (some d) .junk st.h).put none (.v (.tuple #[])) Eb.h) g' ((a.put (some d) v).put none (.tuple #[])) w':=S1.put (by intro i e;cases e) qU Fc (.v _ _);exact hn _ g' _ w' hk S2
 unfold V9 at hk;simp only at hk;split at hk
 .rename_i e hs;split at hk
  .rename_i r n ex;split at hk
   .rename_i i ei;split at hk
    .rename_i sz es er;split at hk
     .rename_i hb;obtain rfl:=AB hb;split at hk
      .exact hk.elim
      .rename_i k Dm;split at hk
       .rename_i LQ;have LQ:=AB LQ;obtain⟨⟨rfl,i0,i1⟩,hk⟩:=hk;unfold jD at hk;split at hk
        .rename_i EM;have EM:∀v∈(cx.T e).zc,v.oneCell'=true:=AJ.1 EM;have ho:=hI.objs r;rw[er]at ho;obtain⟨t1,l1,al,a2⟩:=ho;have SH:=hE x;rw[ex]at SH;have fZ:=hE lo;rw[ei]at fZ;have fZ:=fZ.v_eq;generalize hvx:a.eval x=vx at SH two;rw[fZ]at two;cases SH with
         |msl _ _ _ ad cap hu ht' Za ha IL=>
          have hv:=IL l1.symm;have I4:es.length<=cap:=by
           rcases a2 with ⟨b1,_,_⟩ | ⟨b,HL,E,vs,b1,_,b3,_⟩
           .subst b1;exact Ar _
           .rw[b1]at hv;cases hv;exact b3
          have Ce:=DE (P:=P) (w:=w) hT hs Dm ad es.length cap (some i) none none (.inl rfl) (by simpa using i0) (by simpa using i1) (by simpa using I4) sS;simp only[BY,Dh,A1,JK,Option.map_none]at Ce
          by_cases hz:i.toNat=es.length
          .-- nothing is cleared
           have e1:es.length-i.toNat=0:=by omega
           rw[e1]at Ce hk;refine two _ st g w Ce (T6 hT hs _) ?_ hI (.refl _ _ _);have e2:es.take i.toNat++List.replicate 0 ((cx.T e).zc.map AV.v)=es:=by rw[List.replicate_zero,BR,hz,DS]
           rw[e2,<-er,Zc]at hk;exact hk
          .have Dc:i.toNat<es.length:=by omega
           rcases a2 with ⟨b1,_⟩ | ⟨b,HL,E,vs,b1,b2,b3,b4,b5,b6,b7⟩
           .subst b1;simp at Dc
           .rw[b1]at hv;cases hv;have Dn:¬cap=i.toNat:=by omega
            rw[Aj Dn]at Ce;have nR:Option.map (fun x:Addr=>x.add (i.toNat*(cx.T e).size)) (some ⟨b,0,none⟩)=some ⟨b,i.toNat*(cx.T e).size,none⟩:=by simp[Addr.add];omega
            rw[nR]at Ce;have N1:es.length*(cx.T e).size<=cap*(cx.T e).size:=A0 _ b3;have Up:i.toNat*(cx.T e).size+(es.length-i.toNat)*(cx.T e).size=es.length*(cx.T e).size:=by rw[<-D1];congr 1;omega
            have MQ:=V7 (w:=w) (ty2:=g8) (c:=cap-i.toNat) hT hs Dm (LQ.trans Dm) EM b4 (n:=es.length-i.toNat) (o:=i.toNat*(cx.T e).size) sP (by rw[show k+1=(cx.T e).size from Dm.symm,Up,b5];exact N1);have hl:(st.h r).live:=by rw[er];trivial
            generalize hZ:(List.replicate (es.length-i.toNat) (cx.T e).zc).flatten=Z at MQ;have lW:Z.length=(es.length-i.toNat)*(cx.T e).size:=by
             rw[<-hZ,Cr (n:=(cx.T e).size) (fun c hc=>by rw[BM hc];exact LQ),A7]
            have I6:(es.take i.toNat++List.replicate (es.length-i.toNat) ((cx.T e).zc.map AV.v)).length=es.length:=by
             rw[Ac,Al,A7];omega
            have nS:∀c∈es.take i.toNat++List.replicate (es.length-i.toNat) ((cx.T e).zc.map AV.v),c.length=(cx.T e).size:=fun c hc=>by
             rcases By.1 hc with h1 | h1
             .exact al c (Cq h1)
             .rw[BM h1,AO];exact LQ
            have oL:vs.toList.length=cap*(cx.T e).size:=by rw[A4];exact b5
            have hfl:(es.take i.toNat++List.replicate (es.length-i.toNat) ((cx.T e).zc.map AV.v)).flatten=over es.flatten (i.toNat*(cx.T e).size) (Z.map AV.v):=by
             rw[JA _ _ _ (by rw[AO,lW,Up,Cr al];exact Ad _),Ec,Kj al,AO,lW,Up,Fv (by rw[Cr al];exact Ad _),BR,<-hZ,List.map_flatten,List.map_replicate]
            have bj:((over vs.toList (i.toNat*(cx.T e).size) Z).toArray.toList.take (es.length*(cx.T e).size))=over (vs.toList.take (es.length*(cx.T e).size)) (i.toNat*(cx.T e).size) Z:=
             Qf _ _ _ _ (by rw[lW,Up];exact Ad _) (by rw[oL];exact N1)
            have qW:B3 g w D2 (Z.map AV.v) Z:=B3.vals (by
             have jS : ∀l:List AV,(∀a∈l,one a=true)->EY l=true:=by
              intro l
              induction l with
              |nil=>intro _;rfl
              |cons a l ih=>intro h;simp[EY,h a (List.mem_cons_self ..),ih (fun b hb=>h b (List.mem_cons_of_mem _ hb))]
             refine jS _ fun q hq=>?_;obtain⟨y,hy,rfl⟩:=AA.1 hq;rw[<-hZ]at hy;obtain⟨l,hl,hy⟩:=Nj.1 hy;rw[BM hl]at hy;exact EM y hy)
            have gn:B3 g w D2 (over es.flatten (i.toNat*(cx.T e).size) (Z.map AV.v)) (over (vs.toList.take (es.length*(cx.T e).size)) (i.toNat*(cx.T e).size) Z):=
             b6.over qW _ (by rw[AO,lW,Up,Cr al];exact Ad _)
            obtain⟨k1,k2⟩:=hI.write hl b2 (.arr (cx.T e).size (es.take i.toNat++List.replicate (es.length-i.toNat) ((cx.T e).zc.map AV.v))) b4 (over vs.toList (i.toNat*(cx.T e).size) Z).toArray (g.ln r) (g.own r) g.S sS rfl (fun b' e=>by rw[b2]at e;cases e;rfl) (fun _ _ h=>h)
             (fun b' o hs=>.inl hs) (fun o hs=>absurd hs (b7 o)) (fun hg FW Dz=>by
              obtain⟨u1,u2,u3,u4⟩:=Bi g r (g.ρ r) (g.ln r) (g.tk r) (g.own r) g.S;refine⟨u3.trans t1,u2.trans (by rw[I6];exact l1),nS,.inr ⟨b,cap,E,_,?_,u4.trans b2,by rw[I6];exact b3,Dz,?_,?_,b7⟩⟩
              .rw[u1,b1,I6]
              .simp only[CF,Eg,A4];exact b5
              .rw[I6,bj,hfl];exact gn.mono FW (fun _ h=>h) (fun _ h=>h.elim))
            exact two _ ⟨st.t,_⟩ _ _ Ce MQ hk k1 k2
        .exact hk.elim
       .exact hk.elim
     .exact hk.elim
    .exact hk.elim
   .exact hk.elim
  .exact hk.elim
 .exact hk.elim
end
end Go.Eng
