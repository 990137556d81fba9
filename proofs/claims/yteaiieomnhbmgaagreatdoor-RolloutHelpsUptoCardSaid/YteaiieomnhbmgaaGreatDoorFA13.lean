/- Lemmas 13. -/
import Derived.Test.YteaiieomnhbmgaaGreatDoorFA12
namespace Go.Eng
variable {o:Oper}{K:HK}{args:Array Operand}{cx:Cx}{Hz:Array TypeId}{after:Array Edge}{dr:Bool}{pos:String}{x:Value}{F:Fence}{o2:Oper}{T:Ha}
structure SR(N:Nat)(ds:List Deferred)(w0:World)(g0:Gh)(h0:Nat->HO)(st:St)(g:Gh)(a:Act)(w:World):Prop where
 inv:D3 w0 g0 h0 st.h g w
 le:Le h0 g0 w0 st.h g w
 dfs:a.defers=ds
 size:a.tmps.size=N
 slots:∀i,BU g w (AR st.h) (st.t i) (a.tmps.getD i undef)
section
variable {P:Program}{N:Nat}{ds:List Deferred}{w0:World}{g0:Gh}{h0:Nat->HO}{st:St}{g:Gh}{a:Act}{w:World}
theorem SR.eval(hS:SR N ds w0 g0 h0 st g a w)(x:Operand):BU g w (AR st.h) (ev st.t x) (a.eval x):=by
 cases x with
 |tmp i=>exact hS.slots i
 |const v=>exact .v _ _
 |global b=>exact .v _ _
 |func f=>exact .v _ _
theorem SR.put(hS:SR N ds w0 g0 h0 st g a w){d:Option Nat}(hd:∀i,d=some i->i<N){v:AV}{x:Value}{h' : Nat->HO}{g' : Gh}{w' : World}(hI:D3 w0 g0 h0 h' g' w')(Is:Le st.h g w h' g' w')(hr:BU g' w' (AR h') v x) :
  SR N ds w0 g0 h0 (st.put d v h') g' (a.put d x) w':=by
 have old:∀i,BU g' w' (AR h') (st.t i) (a.tmps.getD i undef):=fun i=>(hS.slots i).le Is;cases d with
 |none=>exact⟨hI,hS.le.trans Is,hS.dfs,hS.size,old⟩
 |some d=>
  have hdN:=hd d rfl;refine⟨hI,hS.le.trans Is,hS.dfs,by simp[Act.put,hS.size],fun i=>?_⟩;simp only[St.put,Act.put,H5]
  by_cases e:i=d
  .subst e
   have:i<a.tmps.size:=by rw[hS.size];exact hdN
   simp only[Ds,La];rw[CJ,Array.getElem?_setIfInBounds_self,Ap this];exact hr
  .simp only[Dd e,Es];rw[CJ,Array.getElem?_setIfInBounds_ne (Wz e),<-CJ];exact old i
def c9(w0:World)(g0:Gh)(h0 h:Nat->HO)(g:Gh)(w:World)(K:HK)(next:Value->World->Prop):Prop:=
 ∀v h' g' w' x,K v h'->D3 w0 g0 h0 h' g' w'->Le h g w h' g' w'->BU g' w' (AR h') v x->next x w'
theorem Ef{m:Sem Value}{next:Act->World->Prop}{Q:Exit->Act->World->Prop}(hx:execOp a.eval o=(do pure (Next.value (<-m))))(hd:OT P w0 g0 h0 st.h g w m K)(hn:c9 w0 g0 h0 st.h g w K fun x w'=>next (a.put o.dst x) w'):o.wp P a w next Q:=by
 obtain⟨x,w',g',av,h',h1,h2,h3,h4,h5⟩:=hd;unfold Oper.wp;rw[hx,Sem.run_bind,h1];exact hn av h' g' w' x h2 h3 h4 h5
theorem ZQ{m:Sem Unit}{next:Act->World->Prop}{Q:Exit->Act->World->Prop}(hx:execOp a.eval o=(do m;pure Next.skip))(hd:ly P w0 g0 h0 st.h g w m K)(hn:c9 w0 g0 h0 st.h g w K fun x w'=>next (a.put o.dst x) w'):o.wp P a w next Q:=by
 obtain⟨w',g',h',h1,h2,h3,h4⟩:=hd;unfold Oper.wp;rw[hx,Sem.run_bind,h1];exact hn _ h' g' w' undef h2 h3 h4 (.v _ _)
theorem iI{next:Act->World->Prop}{Q:Exit->Act->World->Prop}{v:AV}(hI:D3 w0 g0 h0 st.h g w)(hx:(execOp a.eval o).run P w=.ok (.value x) w)(hk:K v st.h)(hr:BU g w (AR st.h) v x)(hn:c9 w0 g0 h0 st.h g w K fun x w'=>next (a.put o.dst x) w'):o.wp P a w next Q:=by
 unfold Oper.wp;rw[hx];exact hn _ _ _ _ _ hk hI (.refl _ _ _) hr
theorem Uy{C:(Ending->World->Prop)->Prop}(hm:∀{R R' : Ending->World->Prop},C R->(∀e w,R e w->R' e w)->C R')(hI:D3 w0 g0 h0 st.h g w){Q:AV->(Nat->HO)->Prop}
  (hc:D3 w g Ag Ag g w->C (fun e w'=>∃v r h' g',e=Ending.returned v/\Q r h'/\BU g' w' (AR h') r v/\D3 w g Ag h' g' w'/\Le Ag g w h' g' w')) {R:Ending->World->Prop}
  (hR:∀v r h' g' w',Q r h'->h'=Ag->D3 w0 g0 h0 st.h g' w'->Le st.h g w st.h g' w'->BU g' w' FB r v->R (.returned v) w') (hQ:∀r h',Q r h'->h'=Ag):C R:=by
 have hU:AR Ag=FB:=by funext i;unfold AR FB Ag;simp
 have qU:D3 w g Ag Ag g w:=⟨rfl,rfl,rfl,Am _,fun _ _ _=>rfl,hI.slt,fun _=>trivial,fun _ _ _ h=>h.elim,fun _ _ h=>h.elim,fun _ _ h=>.inl h,hI.glob⟩;refine hm (hc qU) ?_
 rintro e w' ⟨v,r,h',g',rfl,q1,q2,q3,q4⟩
 obtain rfl:=hQ r h' q1;rw[hU]at q2
 -- the caller's ghost,with the callee's stable cells
 have hk:EO g w ⟨g.ρ,g.ln,g.tk,g.own,g'.S⟩ w':=q4.keeps;have hg:Lp g ⟨g.ρ,g.ln,g.tk,g.own,g'.S⟩ (AR st.h):=fun _ _=>⟨rfl,Am _,fun _=>rfl,fun _=>rfl⟩;have lq:∀b,b<w.heap.size->w'.heap[b]?=w.heap[b]?:=fun b hb=>q3.frame b hb (fun _ h=>h.elim);have hSs:∀b o,g'.S b o->b<w.heap.size->g.S b o:=fun b o hs hb=>by
  rcases q3.sg b o hs with h1|h1|⟨_,h1,_⟩
  .exact h1
  .omega
  .exact h1.elim
 refine hR v r Ag ⟨g.ρ,g.ln,g.tk,g.own,g'.S⟩ w' q1 rfl ⟨q3.os.trans hI.os,q3.tape.trans hI.tape,q3.output.trans hI.output,AK hI.size q3.size,fun b hb hn=>?_,q3.slt,fun i=>?_,hI.inj,fun i b hl ho=>?_,fun b o hs=>?_,hI.glob.keep hk⟩ ⟨hg,fun _ h=>h,hk⟩ ?_
 .exact(lq b (BC hb hI.size)).trans (hI.frame b hb hn)
 .refine(hI.objs i).same hk (fun _ h=>h) hg rfl rfl rfl rfl (fun b hl ho=>?_);have DF:=(hI.loc i b hl ho).1;exact⟨lq b DF,fun k hs=>hSs b k hs DF⟩
 .obtain⟨h1,h2⟩:=hI.loc i b hl ho;exact⟨BC h1 q3.size,h2⟩
 .rcases q3.sg b o hs with h1|h1|⟨_,h1,_⟩
  .exact hI.sg b o h1
  .exact .inr (.inl (AK hI.size h1))
  .exact h1.elim
 .have:EO g' w' ⟨g.ρ,g.ln,g.tk,g.own,g'.S⟩ w':=fun b o h=>⟨h,rfl,fun _ _ h=>h⟩
  exact q2.mono this (fun _ h=>h) (fun _ h=>h.elim)
theorem je(hI:D3 w0 g0 h0 st.h g w){f:Nat}{args:List AV}{Q:AV->(Nat->HO)->Prop}(hc:A9 P f args Ag Q){vals:Array Value}(hs:vals.size=args.length)
  (hv:∀(i:Nat) (av:AV) (x:Value),args[i]?=some av->vals[i]?=some x->BU g w FB av x) {R:Ending->World->Prop}
  (hR:∀v r h' g' w',Q r h'->h'=Ag->D3 w0 g0 h0 st.h g' w'->Le st.h g w st.h g' w'->BU g' w' FB r v->R (.returned v) w') (hQ:∀r h',Q r h'->h'=Ag):Calls P f vals w R:=
 have hU:AR Ag=FB:=by funext i;unfold AR FB Ag;simp
 Uy (C:=Calls P f vals w) (fun h k=>h.mono k) hI (hc.2 g w vals hs (fun i av x h1 h2=>by rw[hU];exact hv i av x h1 h2)) hR hQ
theorem YieldAt.imp{m:Nat}{P:Program}{l:Nat}{args:Array Value}{W:World}{R R' : Ending->World->Prop}(h:YieldAt F m P l args W R)(hr:∀e w,R e w->R' e w):YieldAt F m P l args W R':=
 let ⟨fn,t,a,b,h1,h2⟩:=h
 ⟨fn,t,a,b,h1,h2.mono hr⟩
theorem JU.imp{Y:Gh->World->Prop}{l:Nat}{args:List AV}{h0:Nat->HO}{Q Q' : AV->(Nat->HO)->Prop}(h:JU P Y l args h0 Q)(hq:∀r h',Q r h'->Q' r h'):JU P Y l args h0 Q':=
 fun g w vals q1 q2 q3 q4=>YieldAt.imp (h g w vals q1 q2 q3 q4) fun _ _ ⟨v,r,h',g',e1,e2,rest⟩=>⟨v,r,h',g',e1,hq _ _ e2,rest⟩
theorem GF.imp{Y:Nat->Gh->World->Prop}{F:AV}{args:List AV}{h0:Nat->HO}{Q Q' : AV->(Nat->HO)->Prop}(h:GF P Y F args h0 Q)(hq:∀r h',Q r h'->Q' r h'):GF P Y F args h0 Q':=by
 have one:∀{f:Nat} {l:List AV},A9 P f l h0 Q->A9 P f l h0 Q':=fun hc=>
  ⟨hc.1,fun g w vals q1 q2 q3=>(hc.2 g w vals q1 q2 q3).mono fun _ _ ⟨v,r,h',g',e1,e2,rest⟩=>⟨v,r,h',g',e1,hq _ _ e2,rest⟩⟩
 unfold GF at h⊢;split at h
 .exact one h
 .exact one h
 .exact JU.imp h hq
 .exact h.elim
abbrev K3(ro:Option Nat):Fence:={ Fence.wide with round:=ro }
theorem Ob{ro:Option Nat}{a:Act}{w:World}{next:Act->World->Prop}{Q:Exit->Act->World->Prop}(hd:∀c,o.op≠.defer c)(h:o.wp P a w next Q):o.wpIn (K3 ro) 0 P a w next Q:=by
 refine⟨fun _ _=>trivial,?_⟩;have e:o.semAt (K3 ro).round a.eval=execOp a.eval o:=Oper.semAt_eq ro a.eval o hd;rw[e];unfold Oper.wp at h;have key:∀res:Result Next,o.upon P a next Q res->o.uponIn (K3 ro) 0 P a next Q res:=fun res h=>by
  cases res with
  |ok n w'=>cases n with
   |enter f args=>exact(show(_->_)/\CallsIn (K3 ro) 0 P f args w' _ from⟨fun e=>by(cases e),callsIn_wide.2 h⟩)
   |row r args=>exact(show(_->_)/\RowsIn (K3 ro) 0 P r args w' _ from⟨fun e=>by(cases e),fun c cs _=>by
     obtain⟨v,iC,r',s⟩:=h c cs;exact⟨v,iC,r',stepsIn_wide.2 s⟩⟩)
   |round _ _ _ _ _=>exact h.elim
   |_=>exact h
  |halt x w'=>cases x<;>exact h
 exact key _ h
theorem Hi{f:Nat}{args:Array Value}(h:F3 P f)(w:World):(callFunc f args).run P w=.ok (.enter f args) w:=by
 obtain⟨fn,h1,h2,h3⟩:=h;simp only[callFunc,Sem.run_bind,run_program,h1,Result.andThen_ok,h2,h3,Dr,Gz,Sem.run_pure]
theorem VP{h:Nat->HO}{a:AV}(ha:gT a=true):ren (CI []) h a=str h a:=by
 have h0:∀a,ren0 (CI []) h a=str0 h a:=fun a=>by
  cases a with
  |slice tk es=>cases tk<;>rfl
  |_=>rfl
 cases a with
 |tup cs=>cases ha
 |agg cs=>show AV.agg _=AV.agg _;exact Aa _ (Bg fun c _=>h0 c)
 |clo f cs=>show AV.clo f _=AV.clo f _;exact Aa _ (Bg fun c _=>h0 c)
 |v x=>exact h0 (.v x)
 |slice tk es=>exact h0 (.slice tk es)
 |msl r n=>exact h0 (.msl r n)
 |cptr cs=>exact h0 (.cptr cs)
 |ref r o=>exact h0 (.ref r o)
 |eref r n sz i o=>exact h0 (.eref r n sz i o)
 |mref r=>exact h0 (.mref r)
 |cmap sh l=>exact h0 (.cmap sh l)
 |junk=>rfl
theorem Sc{h:Nat->HO}:∀{l:List AV},VB l=true->l.map (ren (CI []) h)=l.map (str h)
 | [],_=>rfl
 |a::l,e=>by
  unfold VB at e;split at e
  .rename_i e1;rw[AJ,AJ,VP e1,Sc e]
  .cases e
theorem Su:∀{l:List AV} {vs:List Value},Ym l=some vs->l=vs.map .v
 | [],vs,h=>by cases h;rfl
 |.v x::r,vs,h=>by
  unfold Ym at h;split at h
  .rename_i l e;cases h;rw[AJ,<-Su e]
  .cases h
theorem jd{d:Option Nat}{st:St}{F:AV}{args:List AV}(hk:GV cx true d st F args K):GV cx false d st F args K:=by
 unfold GV at hk;simp only at hk;split at hk
 .exact⟨.pure,hk⟩
 .split at hk
  .exact hk.elim
  .rename_i d _;obtain⟨n,sz,es,h1,h2,h3⟩:=hk;simp only[Af]at h1;refine⟨.gen [] 1,?_⟩;show(EK []&&D0 st.h d 1&&DK [] d 1)=true/\_;refine⟨by simp[EK,DK,h1.1.1],?_⟩;rw[VP h1.1.2,Sc h1.2];show GF cx.P (fun l=>cx.yp l []) _ _ Ag _;refine GF.imp h2 ?_
   rintro r h' ⟨e2,e3⟩
   subst e2;subst e3;have e1:ren (FA [] d 1) (As [(2000,.arr sz es)] Ag) (.msl 2000 n)=.msl (BG d 0) n:=rfl;have e2:Eu [] d 1 st.h (As [(2000,.arr sz es)] Ag)=A3 st.h (BG d 0) (.arr sz es):=by
    funext i
    by_cases e:i=BG d 0
    .subst e;rw[Bi];have hb:(Nat.ble (BG d 0) (BG d 0)&&Nat.blt (BG d 0) (BG d 1))=true:=by
      unfold BG;simp only[Af,Dw,CB];omega
     simp only[Eu,CI,hb,E7];rfl
    .rw[Cg _ _ _ _ e]
     have:(Nat.ble (BG d 0) i&&Nat.blt i (BG d 1))=false:=by
      unfold BG at e⊢;rw[AM];simp only[XX,Af,Dw,CB];omega
     simp only[Eu,CI,this]
   rw[e1,e2];exact h3
 .split at hk
  .unfold Wl at hk;split at hk
   .exact hk.elim
   .rename_i d _;obtain⟨sz,es,h1,h2,h3⟩:=hk;simp only[Af]at h1;refine⟨.gen [] 1,?_⟩;show(EK []&&D0 st.h d 1&&DK [] d 1)=true/\_;refine⟨by simp[EK,DK,h1.1.1],?_⟩;rw[VP h1.1.2,Sc h1.2];show GF cx.P (fun l=>cx.yp l []) _ _ Ag _;refine GF.imp h2 ?_
    rintro r h' ⟨e2,e3⟩
    subst e2;subst e3;have e1:ren (FA [] d 1) (As [(2000,.tok sz es.length)] Ag) (.slice (.id 2000 sz) es)=.slice (.id (BG d 0) sz) es:=rfl;have e2:Eu [] d 1 st.h (As [(2000,.tok sz es.length)] Ag)=A3 st.h (BG d 0) (.tok sz es.length):=by
     funext i
     by_cases e:i=BG d 0
     .subst e;rw[Bi];have hb:(Nat.ble (BG d 0) (BG d 0)&&Nat.blt (BG d 0) (BG d 1))=true:=by
       unfold BG;simp only[Af,Dw,CB];omega
      simp only[Eu,CI,hb,E7];rfl
     .rw[Cg _ _ _ _ e]
      have:(Nat.ble (BG d 0) i&&Nat.blt i (BG d 1))=false:=by
       unfold BG at e⊢;rw[AM];simp only[XX,Af,Dw,CB];omega
      simp only[Eu,CI,this]
    rw[e1,e2];exact h3
  split at hk
  .unfold Sv at hk;split at hk
   .rename_i d l vs e2 z1;have hl:=Su e2;split at hk
    .rename_i r sz es iw n e3 e4;obtain⟨⟨rfl,rfl⟩,v,F2,n',h1,h2⟩:=hk;refine⟨.gen [(1000,1000),(1001,1001)] 0,?_⟩;show(EK [(1000,1000),(1001,1001)]&&D0 st.h d 0&&DK [(1000,1000),(1001,1001)] d 0)=true/\_;refine⟨?_,?_⟩
     .have:DK [(1000,1000),(1001,1001)] d 0=true:=by
       have q:∀r:Nat,(Nat.ble (BG d 0) r&&Nat.blt r (BG d 0))=false:=fun r=>by
        rw[AM];simp only[XX,Af,Dw,CB];omega
       simp only[DK,q,Bool.not_false,Bool.and_self]
      rw[this];rfl
     have f1:args.map (ren (CI [(1000,1000),(1001,1001)]) st.h)=vs.map .v:=by rw[hl,Bq];rfl
     have f2:F1 [(1000,1000),(1001,1001)] st.h=As [(1000,.cells [.slice (.id 1001 iw) es]),(1001,.tok iw n)] Ag:=by
      unfold F1 ZB ZB ZB;rw[e3,e4];rfl
     rw[f1,f2];refine JU.imp h1 ?_
     rintro r h' ⟨g1,g2⟩
     subst g1;subst g2;have f3:Eu [(1000,1000),(1001,1001)] d 0 st.h (As [(1000,.cells [.slice (.id 1001 iw) F2]),(1001,.tok iw n')] Ag)=A3 (A3 st.h 1001 (.tok iw n')) 1000 (.cells [.slice (.id 1001 iw) F2]):=by
      funext i
      by_cases e:i=1000
      .subst e;rw[Bi];rfl
      .rw[Cg _ _ _ _ e]
       by_cases e' : i=1001
       .subst e';rw[Bi];rfl
       .rw[Cg _ _ _ _ e'];have hn:CI [(1000,1000),(1001,1001)] i=none:=by simp[CI,Dd (Ne.symm e),Dd (Ne.symm e')]
        have:(Nat.ble (BG d 0) i&&Nat.blt i (BG d 0))=false:=by
         rw[AM];simp only[XX,Af,Dw,CB];omega
        simp only[Eu,hn,this]
     rw[f3];exact h2
    .exact hk.elim
   .exact hk.elim
  unfold Ra at hk;split at hk
  .unfold bl at hk;split at hk
   .rename_i d f _;obtain⟨σ,H0,Hn,args',res,g1,g2,g3,g4⟩:=hk;simp only[Af]at g2;obtain⟨k1,k2⟩:=g1 st.h fun _ _=>rfl;refine⟨.gen σ 0,?_⟩;show(EK σ&&D0 st.h d 0&&DK σ d 0)=true/\_;refine⟨by rw[g2.1.1,g2.1.2];rfl,?_⟩;rw[k1,k2];refine GF.imp (show GF cx.P (fun l=>cx.yp l σ) (.v (.func (.func f) ⟨[]⟩ ⟨[]⟩)) args' (As H0 Ag) (fun r h'=>r=res/\h'=As Hn Ag)from g3) ?_
    rintro r h' ⟨e1,e2⟩
    rw[e1,e2];exact g4
   .exact hk.elim
  unfold Tq at hk;split at hk
  .rename_i dd f r n l _;split at hk
   .rename_i vs d9;have hl:=Su d9;subst hl;split at hk
    .rename_i sz es hr;have hf:CI [(r,1000)] r=some 1000:=by simp[CI]
     have e1:ren (CI [(r,1000)]) st.h (.v (.func (.func f) ⟨[]⟩ ⟨[]⟩))=.v (.func (.func f) ⟨[]⟩ ⟨[]⟩):=rfl;have e2:(AV.msl r n::vs.map AV.v).map (ren (CI [(r,1000)]) st.h)=.msl 1000 n::vs.map .v:=by
      rw[AJ]
      congr 1
      .simp[ren,ren1,ren0,hf]
      .rw[Bq];rfl
     have e3:F1 [(r,1000)] st.h=As [(1000,.arr sz es)] Ag:=by
      unfold F1 ZB;rw[hr];rfl
     split at hk
     .obtain⟨n',F2,h1,h2⟩:=hk;refine⟨.gen [(r,1000)] 0,?_⟩;show(EK [(r,1000)]&&D0 st.h dd 0&&DK [(r,1000)] dd 0)=true/\_;refine⟨?_,?_⟩
      .have:DK [(r,1000)] dd 0=true:=by
        unfold DK
        have:(Nat.ble (BG dd 0) r&&Nat.blt r (BG dd 0))=false:=by
         rw[AM];simp only[XX,Af,Dw,CB];omega
        rw[this];rfl
       rw[this];rfl
      rw[e1,e2,e3];refine⟨h1.1,fun g w vals q1 q2 q3=>(h1.2 g w vals q1 q2 q3).mono fun _ _ ⟨v,r',h',g',e1,⟨e2,e3⟩,rest⟩=>⟨v,r',h',g',e1,?_,rest⟩⟩;subst e2;subst e3;have f1:ren (FA [(r,1000)] dd 0) (As [(1000,.arr sz F2)] Ag) (.msl 1000 n')=.msl r n':=rfl;have f2:Eu [(r,1000)] dd 0 st.h (As [(1000,.arr sz F2)] Ag)=A3 st.h r (.arr sz F2):=by
       funext i
       by_cases e:i=r
       .subst e;rw[Bi];simp[Eu,hf,As,HO.ren]
       .rw[Cg _ _ _ _ e];have hn:CI [(r,1000)] i=none:=by simp[CI,Dd (Ne.symm e)]
        have:(Nat.ble (BG dd 0) i&&Nat.blt i (BG dd 0))=false:=by
         rw[AM];simp only[XX,Af,Dw,CB];omega
        simp only[Eu,hn,this]
      rw[f1,f2];exact h2
     .obtain⟨n',F2,h0,h1,h2⟩:=hk;simp only[Af,CB,CK]at h0;have hrd:r≠BG dd 0:=fun e=>by have:=h0.2;rw[e]at this;simp at this
      refine⟨.gen [(r,1000)] 1,?_⟩;show(EK [(r,1000)]&&D0 st.h dd 1&&DK [(r,1000)] dd 1)=true/\_;refine⟨?_,?_⟩
      .have:DK [(r,1000)] dd 1=true:=by
        unfold DK
        have:(Nat.ble (BG dd 0) r&&Nat.blt r (BG dd 1))=false:=by
         rw[AM];simp only[XX,Af,Dw,CB];unfold BG at hrd⊢;omega
        rw[this];rfl
       rw[this,h0.1.1];rfl
      rw[e1,e2,e3];refine⟨h1.1,fun g w vals q1 q2 q3=>(h1.2 g w vals q1 q2 q3).mono fun _ _ ⟨v,r',h',g',e1,⟨e2,e3⟩,rest⟩=>⟨v,r',h',g',e1,?_,rest⟩⟩;subst e2;subst e3;have f1:ren (FA [(r,1000)] dd 1) (As [(1000,.dead),(2000,.arr sz F2)] Ag) (.msl 2000 n')=.msl (BG dd 0) n':=rfl;have f2:Eu [(r,1000)] dd 1 st.h (As [(1000,.dead),(2000,.arr sz F2)] Ag)=A3 (A3 st.h r .dead) (BG dd 0) (.arr sz F2):=by
       funext i
       by_cases e:i=BG dd 0
       .subst e;rw[Bi];have hn:CI [(r,1000)] (BG dd 0)=none:=by simp[CI,Dd hrd]
        have hb:(Nat.ble (BG dd 0) (BG dd 0)&&Nat.blt (BG dd 0) (BG dd 1))=true:=by
         unfold BG;simp only[Af,Dw,CB];omega
        simp only[Eu,hn,hb,E7];rfl
       .rw[Cg _ _ _ _ e]
        by_cases e4:i=r
        .subst e4;rw[Bi];simp[Eu,hf,As,HO.ren]
        .rw[Cg _ _ _ _ e4];have hn:CI [(r,1000)] i=none:=by simp[CI,Dd (Ne.symm e4)]
         have:(Nat.ble (BG dd 0) i&&Nat.blt i (BG dd 1))=false:=by
          rw[AM];simp only[XX,Af,Dw,CB];unfold BG at e⊢;omega
         simp only[Eu,hn,this]
      rw[f1,f2];exact h2
    .exact hk.elim
   .exact hk.elim
  .exact hk.elim
theorem l5{d:Option Nat}{f:Operand}{dst:Option Nat}{ty:Nat}{gd:Option (Nat×Bool)}{next:Act->World->Prop}{Q:Exit->Act->World->Prop}(hP:cx.P=P)(hY:∀l σ h g w,EK σ=true->D3 w0 g0 h0 h g w->Le h0 g0 w0 h g w->cx.yp l σ (DU σ g) w){ro:Option Nat}(hS:SR N ds w0 g0 h0 st g a w)(hk:GV cx dr d st (ev st.t f) (args.toList.map (ev st.t)) K)(hn:c9 w0 g0 h0 st.h g w K fun x w'=>next (a.put dst x) w'):Oper.wpIn (K3 ro) 0 P ⟨dst,.call ⟨.value f,args,Hz⟩,ty,pos,after,gd⟩ a w next Q:=by
 subst hP;have hk:GV cx false d st (ev st.t f) (args.toList.map (ev st.t)) K:=by
  cases dr with
  |true=>exact jd hk
  |false=>exact hk
 have KA:∀(i:Nat) (av:AV) (x:Value),((args.toList.map (ev st.t)).map (str st.h))[i]?=some av->(args.map a.eval)[i]?=some x->BU g w FB av x:=by
  intro i av x h1 h2;rw[AG,AG]at h1;rw[PH]at h2;cases ho:args[i]? with
  |none=>rw[ho]at h2;simp at h2
  |some y=>
   rw[ho]at h2;have hy:args.toList[i]?=some y:=by simpa using ho
   rw[hy]at h1;simp only[Ix,BB]at h1 h2;subst h1;subst h2;exact BU.str hS.inv.objs (hS.eval y)
 have CH:(args.map a.eval).size=((args.toList.map (ev st.t)).map (str st.h)).length:=by simp
 have hF:=BU.str hS.inv.objs (hS.eval f)
 -- a call of yield
 have yl:∀(l:Nat) (R:Ending->World->Prop),a.eval f=.func (.yield l) #[] #[]->YieldAt Fence.wide 0 cx.P l (args.map a.eval) w R->(∀e w',R e w'->∃v,e=.returned v/\next (a.put dst v) w') ->
   Oper.wpIn (K3 ro) 0 cx.P ⟨dst,.call ⟨.value f,args,Hz⟩,ty,pos,after,gd⟩ a w next Q:=by
  rintro l R hx ⟨fn,tm,Hl,bd,h1,h2⟩ hR
  refine⟨fun _ _=>trivial,?_⟩;have e:(⟨dst,.call ⟨.value f,args,Hz⟩,ty,pos,after,gd⟩:Oper).semAt (K3 ro).round a.eval=execOp a.eval ⟨dst,.call ⟨.value f,args,Hz⟩,ty,pos,after,gd⟩:=Oper.semAt_eq ro a.eval _ (fun c e=>by cases e);have CZ:(execOp a.eval ⟨dst,.call ⟨.value f,args,Hz⟩,ty,pos,after,gd⟩).run cx.P w=.ok (.round l fn tm Hl bd) w:=by
   simp only[execOp,resolve,hx,Deferred.ofValue,Sem.run_bind,Sem.run_pure,Result.andThen_ok,invoke];simpa using h1
  rw[e,CZ];refine(show(_->_)/\RoundIn (K3 ro) 0 cx.P l fn tm Hl bd w _ from⟨fun e=>by(cases e),RoundIn.mono h2 fun e w' h=>?_⟩);obtain⟨v,rfl,hn⟩:=hR e w' h;exact hn
 -- the call itself
 have go:∀(Q' : AV->(Nat->HO)->Prop),(∀r h',Q' r h'->h'=Ag/\K r st.h)->GF cx.P (fun _ _ _=>True) (str st.h (ev st.t f)) ((args.toList.map (ev st.t)).map (str st.h)) Ag Q' ->
   Oper.wpIn (K3 ro) 0 cx.P ⟨dst,.call ⟨.value f,args,Hz⟩,ty,pos,after,gd⟩ a w next Q:=by
  intro Q' hQ hc
  have fin:∀{fn:Nat} {l:List AV} {vals:Array Value},A9 cx.P fn l Ag Q'->vals.size=l.length->(∀(i:Nat) (av:AV) (x:Value),l[i]?=some av->vals[i]?=some x->BU g w FB av x) ->
    (execOp a.eval ⟨dst,.call ⟨.value f,args,Hz⟩,ty,pos,after,gd⟩).run cx.P w=.ok (.enter fn vals) w->Oper.wpIn (K3 ro) 0 cx.P ⟨dst,.call ⟨.value f,args,Hz⟩,ty,pos,after,gd⟩ a w next Q:=by
   intro fn l vals hc hs hv CZ;refine Ob (fun c e=>by cases e) ?_;unfold Oper.wp;rw[CZ];exact je hS.inv hc hs hv (fun v r h' g' w' hq _ hI Is hr=>hn r _ g' w' v (hQ r h' hq).2 hI Is (hr.up _)) (fun r h' hq=>(hQ r h' hq).1)
  unfold GF at hc;split at hc
  .rename_i fn e;rw[e]at hF;have hx:=hF.v_eq;refine fin hc CH KA ?_;have M6:a.eval f=.func (.func fn) #[] #[]:=hx;simp only[execOp,resolve,M6,Deferred.ofValue,Sem.run_bind,Sem.run_pure,Result.andThen_ok,invoke];rw[Hi hc.1];simp
  .rename_i fn caps e;rw[e]at hF;generalize hx:a.eval f=fv at hF;cases hF with
   |clo _ _ _ vs ES Mx=>
    refine fin hc (vals:=args.map a.eval++vs) (by simp[ES]) (fun i av x h1 h2=>?_) ?_
    .rw[Nc]at h1;rw[IW]at h2;have hl:((args.toList.map (ev st.t)).map (str st.h)).length=(args.map a.eval).size:=CH.symm;rw[hl]at h1;split at h1
     .rename_i hi;rw[Ap hi]at h2;exact KA i av x h1 h2
     .rename_i hi;rw[Aj hi]at h2;exact Mx _ av x h1 h2
    .simp only[execOp,resolve,hx,Deferred.ofValue,Sem.run_bind,Sem.run_pure,Result.andThen_ok,invoke];rw[Hi hc.1];simp
  .rename_i l e;rw[e]at hF;have hU:AR Ag=FB:=by funext i;unfold AR FB Ag;simp
   refine yl l _ hF.v_eq (Uy (C:=YieldAt Fence.wide 0 cx.P l (args.map a.eval) w) (R:=fun e w'=>∃v,e=.returned v/\next (a.put dst v) w') YieldAt.imp hS.inv (fun qU=>hc g w _ CH (fun i av x h1 h2=>by rw[hU];exact KA i av x h1 h2) qU trivial)
    (fun v r h' g' w' hq _ hI Is hr=>⟨v,rfl,hn r _ g' w' v (hQ r h' hq).2 hI Is (hr.up _)⟩) (fun r h' hq=>(hQ r h' hq).1)) fun _ _ h=>h
  .exact hc.elim
 have pure:(∃res,Rt cx.P (str st.h (ev st.t f)) ((args.toList.map (ev st.t)).map (str st.h)) res/\K res st.h)->Oper.wpIn (K3 ro) 0 cx.P ⟨dst,.call ⟨.value f,args,Hz⟩,ty,pos,after,gd⟩ a w next Q:=by
  rintro⟨res,h1,h2⟩
  refine go (fun r h'=>r=res/\h'=Ag) (fun r h' hq=>⟨hq.2,by rw[hq.1];exact h2⟩) ?_;unfold Rt at h1;unfold GF;split at h1
  .rename_i fn e;rw[e];exact h1
  .rename_i fn caps e;rw[e];exact h1
  .exact h1.elim
 unfold GV at hk
 .obtain⟨m,hm⟩:=hk;cases m with
  |pure=>exact pure hm
  |rel=>exact go _ (fun r h' hq=>hq) hm
  |gen σ nn=>
   simp only at hm;cases d with
   |none=>exact hm.elim
   |some d=>
    simp only at hm;obtain⟨G1,hc⟩:=hm;have hσ:EK σ=true:=by simp only[Af]at G1;exact G1.1.1
    obtain⟨hR,_⟩:=Y9 hS.inv hσ;have mS:=(hS.eval f).ren hR;have U2:∀(i:Nat) (av:AV) (x:Value),((args.toList.map (ev st.t)).map (ren (CI σ) st.h))[i]?=some av->(args.map a.eval)[i]?=some x->BU (DU σ g) w (AR (F1 σ st.h)) av x:=by
     intro i av x h1 h2;rw[AG,AG]at h1;rw[PH]at h2;cases ho:args[i]? with
     |none=>rw[ho]at h2;simp at h2
     |some y=>
      rw[ho]at h2;have hy:args.toList[i]?=some y:=by simpa using ho
      rw[hy]at h1;simp only[Ix,BB]at h1 h2;subst h1;subst h2;exact(hS.eval y).ren hR
    have MX:(args.map a.eval).size=((args.toList.map (ev st.t)).map (ren (CI σ) st.h)).length:=by simp
    have fin:∀{fn:Nat} {l:List AV} {vals:Array Value},A9 cx.P fn l (F1 σ st.h) (fun r h'=>K (ren (FA σ d nn) h' r) (Eu σ d nn st.h h'))->vals.size=l.length ->
      (∀(i:Nat) (av:AV) (x:Value),l[i]?=some av->vals[i]?=some x->BU (DU σ g) w (AR (F1 σ st.h)) av x) ->
      (execOp a.eval ⟨dst,.call ⟨.value f,args,Hz⟩,ty,pos,after,gd⟩).run cx.P w=.ok (.enter fn vals) w->Oper.wpIn (K3 ro) 0 cx.P ⟨dst,.call ⟨.value f,args,Hz⟩,ty,pos,after,gd⟩ a w next Q:=by
     intro fn l vals hc hs hv CZ;refine Ob (fun c e=>by cases e) ?_;unfold Oper.wp;rw[CZ];exact l6 hS.inv G1 hc hs hv (fun v r h' g' w' hq hI Is hr=>hn _ _ g' w' v hq hI Is hr)
    unfold GF at hc;split at hc
    .rename_i fn e;rw[e]at mS;have hx:a.eval f=.func (.func fn) #[] #[]:=mS.v_eq;refine fin hc MX U2 ?_;simp only[execOp,resolve,hx,Deferred.ofValue,Sem.run_bind,Sem.run_pure,Result.andThen_ok,invoke];rw[Hi hc.1];simp
    .rename_i fn caps e;rw[e]at mS;generalize hx:a.eval f=fv at mS;cases mS with
     |clo _ _ _ vs ES Mx=>
      refine fin hc (vals:=args.map a.eval++vs) (by simp[ES]) (fun i av x h1 h2=>?_) ?_
      .rw[Nc]at h1;rw[IW]at h2;have hl:((args.toList.map (ev st.t)).map (ren (CI σ) st.h)).length=(args.map a.eval).size:=MX.symm;rw[hl]at h1;split at h1
       .rename_i hi;rw[Ap hi]at h2;exact U2 i av x h1 h2
       .rename_i hi;rw[Aj hi]at h2;exact Mx _ av x h1 h2
      .simp only[execOp,resolve,hx,Deferred.ofValue,Sem.run_bind,Sem.run_pure,Result.andThen_ok,invoke];rw[Hi hc.1];simp
    .rename_i l e;rw[e]at mS
     exact yl l _ mS.v_eq (NW (C:=YieldAt Fence.wide 0 cx.P l (args.map a.eval) w) (R:=fun e w'=>∃v,e=.returned v/\next (a.put dst v) w') YieldAt.imp hS.inv G1 (fun qU=>hc (DU σ g) w _ MX U2 qU (hY l σ _ _ _ hσ hS.inv hS.le))
      (fun v r h' g' w' hq hI Is hr=>⟨v,rfl,hn _ _ g' w' v hq hI Is hr⟩)) fun _ _ h=>h
    .exact hc.elim
  |geny σ nn=>
   simp only at hm;cases d with
   |none=>exact hm.elim
   |some d=>
    simp only at hm;obtain⟨G1,hc⟩:=hm;have hσ:EK σ=true:=by simp only[Af]at G1;exact G1.1.1
    obtain⟨hR,_⟩:=Y9 hS.inv hσ;have mS:=(hS.eval f).ren hR;have U2:∀(i:Nat) (av:AV) (x:Value),((args.toList.map (ev st.t)).map (ren (CI σ) st.h))[i]?=some av->(args.map a.eval)[i]?=some x->BU (DU σ g) w (AR (F1 σ st.h)) av x:=by
     intro i av x h1 h2;rw[AG,AG]at h1;rw[PH]at h2;cases ho:args[i]? with
     |none=>rw[ho]at h2;simp at h2
     |some y=>
      rw[ho]at h2;have hy:args.toList[i]?=some y:=by simpa using ho
      rw[hy]at h1;simp only[Ix,BB]at h1 h2;subst h1;subst h2;exact(hS.eval y).ren hR
    have MX:(args.map a.eval).size=((args.toList.map (ev st.t)).map (ren (CI σ) st.h)).length:=by simp
    split at hc
    .rename_i fn caps e;rw[e]at mS;generalize hx:a.eval f=fv at mS;cases mS with
     |clo _ _ _ vs ES Mx=>
      have CZ:(execOp a.eval ⟨dst,.call ⟨.value f,args,Hz⟩,ty,pos,after,gd⟩).run cx.P w=.ok (.enter fn (args.map a.eval++vs)) w:=by
       simp only[execOp,resolve,hx,Deferred.ofValue,Sem.run_bind,Sem.run_pure,Result.andThen_ok,invoke];rw[Hi hc.1];simp
      refine Ob (fun c e=>by cases e) ?_;unfold Oper.wp;rw[CZ];refine NW (C:=Calls cx.P fn (args.map a.eval++vs) w) (fun h k=>h.mono k) hS.inv G1 (fun qU=>hc.2 (DU σ g) w _ (by simp[ES]) (fun i av x h1 h2=>?_) qU (fun l=>hY l σ _ _ _ hσ hS.inv hS.le)) (fun v r h' g' w' hq hI Is hr=>hn _ _ g' w' v hq hI Is hr);rw[Nc]at h1;rw[IW]at h2;have hl:((args.toList.map (ev st.t)).map (ren (CI σ) st.h)).length=(args.map a.eval).size:=MX.symm;rw[hl]at h1;split at h1
      .rename_i hi;rw[Ap hi]at h2;exact U2 i av x h1 h2
      .rename_i hi;rw[Aj hi]at h2;exact Mx _ av x h1 h2
    .exact hc.elim
end
section
variable {P:Program}{N:Nat}{ds:List Deferred}{w0:World}{g0:Gh}{h0:Nat->HO}{st:St}{g:Gh}{a:Act}{w:World}
theorem aw(hT:CM P cx.T){b:Builtin}{dst:Option Nat}{ty:Nat}{gd:Option (Nat×Bool)}{next:Act->World->Prop}{Q:Exit->Act->World->Prop}(hS:SR N ds w0 g0 h0 st g a w)(hk:Gy cx dst st.h b Hz.toList (args.toList.map (ev st.t)) K)(hn:c9 w0 g0 h0 st.h g w K fun x w'=>next (a.put dst x) w'):Oper.wp P ⟨dst,.call ⟨.builtin b,args,Hz⟩,ty,pos,after,gd⟩ a w next Q:=by
 have hI:=hS.inv;have hE:=hS.eval;obtain⟨l⟩:=args;obtain⟨tl⟩:=Hz;unfold Gy at hk;split at hk
 .rename_i x t e1 e2
  match l,e1 with
  | [y],e1=>
   simp only[AJ,E6,Fi,and_true]at e1;subst e1;simp only at e2;subst e2;exact Ef (m:=Builtin.len_ #[t] ty #[a.eval y]) (by simp[execOp,resolve,invoke,builtin]) (BW.does hI (nL hT hI.objs (hE y) hk)) hn
 .rename_i s x t t' e1 e2
  match l,e1 with
  | [y,z],e1=>
   simp only[AJ,E6,Fi,and_true]at e1;obtain⟨rfl,rfl⟩:=e1;simp only at e2;subst e2;split at hk
   .rename_i ht;obtain rfl:=AL ht;exact Ef (m:=Builtin.append_ #[t,t] ty #[a.eval y,a.eval z]) (by simp[execOp,resolve,invoke,builtin]) (dq hI hT (hE y) (hE z) hk) hn
   .exact hk.elim
 .rename_i x y Hz e1
  match l,e1 with
  | [y,z],e1=>
   simp only[AJ,E6,Fi,and_true]at e1;obtain⟨rfl,rfl⟩:=e1;exact Ef (m:=Builtin.max_ ⟨tl⟩ ty #[a.eval y,a.eval z]) (by simp[execOp,resolve,invoke,builtin]) (BW.does hI (ry (hE y) (hE z) hk)) hn
 .rename_i x y Hz e1
  match l,e1 with
  | [y,z],e1=>
   simp only[AJ,E6,Fi,and_true]at e1;obtain⟨rfl,rfl⟩:=e1;exact Ef (m:=Builtin.min_ ⟨tl⟩ ty #[a.eval y,a.eval z]) (by simp[execOp,resolve,invoke,builtin]) (BW.does hI (rA (hE y) (hE z) hk)) hn
 .exact hk.elim
theorem qm(hT:CM P cx.T){next:Act->World->Prop}{Q:Exit->Act->World->Prop}(hS:SR N ds w0 g0 h0 st g a w)(hk:Gl cx dr o st K)(hv:∀f args Hz,o.op≠.call ⟨.value f,args,Hz⟩)(hn:c9 w0 g0 h0 st.h g w K fun x w'=>next (a.put o.dst x) w'):o.wp P a w next Q:=by
 have hI:=hS.inv;have hE:=hS.eval;obtain⟨dst,op,ty,pos,after,gd⟩:=o;unfold Gl at hk;cases op with
 |move x=>exact iI hI (x:=a.eval x) rfl hk (hE x) hn
 |assign x=>
  obtain⟨g',av,h',q1,q2,q3,q4⟩:=du hI (hE x) hk;exact hn _ _ _ _ _ q1 q2 q3 q4
 |pick c x y=>exact Ef (m:=do pure (if <-asBool (a.eval c)then a.eval x else a.eval y)) (by simp[execOp]) (BW.does hI (oD (hE c) (hE x) (hE y) hk)) hn
 |alloc e=>exact Ef rfl (iR hI hT hk) hn
 |box e x=>exact Ef rfl (qx hI (hE x) hk) hn
 |build t ps=>exact Ef rfl (BW.does hI (jc hT hE hk)) hn
 |buildSlice t n ps=>exact Ef rfl (Ux hI hT hE hk) hn
 |insert t m k x=>exact ZQ rfl (OI hI hT (hE m) (hE k) (hE x) hk) hn
 |load t x=>exact Ef rfl (BW.does hI (XT hI.objs hT (hE x) hk)) hn
 |store t p x=>exact ZQ rfl (kV hI hT (hE p) (hE x) hk) hn
 |nilCheck x=>
  obtain⟨h1,h2⟩:=Zv (P:=P) (w:=w) (hE x) hk (pos:=pos) (after:=after) (gd:=gd) (dst:=dst) (ty:=ty) (ρ:=a.eval) rfl;exact iI hI h1 h2 (hE x) hn
 |binOp op t x y u=>exact Ef rfl (BW.does hI (lN hT (hE x) (hE y) (fun v e=>by subst e;rfl) hk)) hn
 |unOp op t x=>exact Ef rfl (BW.does hI (pq (hE x) hk)) hn
 |convert s t x=>
  cases dr with
  |true=>exact Ef rfl (BW.does hI (aE hT (hE x) hk)) hn
  |false=>exact Ef rfl (jn hI hT (hE x) hk) hn
 |makeFunc fn first cap=>exact Ef rfl (BW.does hI (Zo hI.objs hE hk)) hn
 |makeMap t r=>
  cases r with
  |some r=>exact hk.elim
  |none=>exact Ef rfl (bL hI hk) hn
 |makeSlice t n c=>exact Ef rfl (WS hI hT (hE n) (hE c) hk) hn
 |slice t x lo hi mx=>
  cases dr with
  |true=>
   cases hp:OV cx.pl.tok dst with
   |none=>
    have hk' : G8 cx dst st.h t (ev st.t x) (Cs st.t lo) (Cs st.t hi) (Cs st.t mx) K:=by
     have I7:(match OV cx.pl.tok dst with
      |none=>G8 cx dst st.h t (ev st.t x) (Cs st.t lo) (Cs st.t hi) (Cs st.t mx) K
      |some _=>QX cx dst st.h t (ev st.t x) lo (Cs st.t hi) mx K):=hk
     rw[hp]at I7;exact I7
    exact Ef rfl (Ye hI hT hE (hE x) hk') hn
   |some _=>
    have hk' : QX cx dst st.h t (ev st.t x) lo (Cs st.t hi) mx K:=by
     have I7:(match OV cx.pl.tok dst with
      |none=>G8 cx dst st.h t (ev st.t x) (Cs st.t lo) (Cs st.t hi) (Cs st.t mx) K
      |some _=>QX cx dst st.h t (ev st.t x) lo (Cs st.t hi) mx K):=hk
     rw[hp]at I7;exact I7
    unfold QX at hk';split at hk'
    .exact Ef rfl (ib hI hT hE (hE x) hk') hn
    .exact hk'.elim
  |false=>
   cases hp:OV cx.pl.tok dst with
   |none=>
    have hk' : G8 cx dst st.h t (ev st.t x) (Cs st.t lo) (Cs st.t hi) (Cs st.t mx) K:=by
     have I7:(match OV cx.pl.tok dst with
      |none=>G8 cx dst st.h t (ev st.t x) (Cs st.t lo) (Cs st.t hi) (Cs st.t mx) K
      |some _=>cA cx dst st.h t (ev st.t x) st.t lo hi mx K):=hk
     rw[hp]at I7;exact I7
    exact Ef rfl (Ye hI hT hE (hE x) hk') hn
   |some _=>
    have hk' : cA cx dst st.h t (ev st.t x) st.t lo hi mx K:=by
     have I7:(match OV cx.pl.tok dst with
      |none=>G8 cx dst st.h t (ev st.t x) (Cs st.t lo) (Cs st.t hi) (Cs st.t mx) K
      |some _=>cA cx dst st.h t (ev st.t x) st.t lo hi mx K):=hk
     rw[hp]at I7;exact I7
    cases lo with
    |some lo=>exact Ef rfl (cB hI hT hE (hE x) hk') hn
    |none=>
     unfold cA at hk';dsimp only at hk';split at hk'
     .exact Ef rfl (BW.does hI (iY hI.objs hT (hE x) hk')) hn
     .unfold QX at hk';split at hk'
      .exact Ef rfl (ib hI hT hE (hE x) hk') hn
      .exact hk'.elim
 |fieldAddr s x f=>exact Ef rfl (BW.does hI (jv hT (hE x) hk)) hn
 |field s x f=>exact Ef rfl (BW.does hI (dM hT (hE x) hk)) hn
 |indexAddr t x i=>exact Ef rfl (BW.does hI (WQ hT (hE x) (hE i) hk)) hn
 |index t x i=>exact Ef rfl (BW.does hI (jM hT (hE x) (hE i) hk)) hn
 |lookup t x i ok=>
  have hk:N5 cx.T st.h t (ev st.t x) (ev st.t i) ok fun v=>K v st.h:=by
   cases dr with
   |true=>exact jU hk
   |false=>exact hk
  exact Ef rfl (BW.does hI (eG hT hI.objs (hE x) (hE i) hk)) hn
 |mapUpdate t m k x=>exact ZQ rfl (OI hI hT (hE m) (hE k) (hE x) hk) hn
 |range t x=>
  simp only at hk;split at hk
  .rename_i kt e ht;exact Ef rfl (kH hI hT ht (hE x) hk) hn
  .exact hk.elim
 |next it s=>
  cases s with
  |true=>exact hk.elim
  |false=>exact Ef rfl (nY hI (hE it) hk) hn
 |entry it=>exact Ef rfl (BW.does hI (jt hI.objs (hE it) hk)) hn
 |extract x i=>exact Ef rfl (BW.does hI (aS (hE x) hk)) hn
 |call c=>
  obtain⟨uJ,args,Hz⟩:=c;cases uJ with
  |builtin b=>exact aw hT hS hk hn
  |value f=>exact absurd rfl (hv f args Hz)
  |invoke r m=>exact hk.elim
 |_=>exact hk.elim
theorem lK(hP:cx.P=P)(hY:∀l σ h g w,EK σ=true->D3 w0 g0 h0 h g w->Le h0 g0 w0 h g w->cx.yp l σ (DU σ g) w){ro:Option Nat}(hT:CM P cx.T){next:Act->World->Prop}{Q:Exit->Act->World->Prop}(hS:SR N ds w0 g0 h0 st g a w)(hk:Gl cx dr o st K)(hn:c9 w0 g0 h0 st.h g w K fun x w'=>next (a.put o.dst x) w'):o.wpIn (K3 ro) 0 P a w next Q:=by
 by_cases hv:∃f args Hz,o.op=.call ⟨.value f,args,Hz⟩
 .obtain⟨f,args,Hz,e⟩:=hv;obtain⟨dst,op,ty,pos,after,gd⟩:=o;cases e;exact l5 hP hY hS hk hn
 .refine Ob (fun c e=>?_) (qm hT hS hk (fun f args Hz e=>hv ⟨f,args,Hz,e⟩) hn);obtain⟨dst,op,ty,pos,after,gd⟩:=o;cases e;exact hk.elim
theorem zO{p:Nat->Prop}(h:∃n,p n):∃n,p n/\∀m,m<n->¬p m:=by
 apply AH;intro hc
 have:∀n,¬p n:=fun n=>by
  induction n using Nat.strongRecOn with
  |_ n ih=>exact fun hp=>hc ⟨n,hp,ih⟩
 obtain⟨n,hn⟩:=h;exact this n hn
theorem TL{m:Nat}{c:Code}{Q:Exit->Act->World->Prop}(I:Nat->Act->World->Prop)(k:Nat)(h0:I k a w)(round:∀n a w,I n a w->c.wpIn F m P (Exit.then (fun a' w'=>∃n',n' < n/\I n' a' w') Q) a w):(Code.loop c).wpIn F m P Q a w:=by
 classical
 have hex:∀a w,(∃n,I n a w)->∃n,I n a w/\∀n',n' < n->¬I n' a w:=fun a w h=>zO h;refine wpIn_loop (fun a w=>∃n,I n a w) (fun a w=>if h:∃n,I n a w then(hex a w h).choose else 0) ⟨k,h0⟩ fun a w h=>?_;have hs:=(hex a w h).choose_spec;refine wpIn_mono (round _ a w hs.1) fun e a' w' q=>?_;cases e with
 |normal=>
  obtain⟨n',DF,hn⟩:=q;have h' : ∃n,I n a' w':=⟨n',hn⟩;refine⟨h',?_⟩;simp only[dif_pos h,dif_pos h'];refine Nat.lt_of_le_of_lt ?_ DF;apply Bl;intro hc;exact(hex a' w' h').choose_spec.2 n' hc hn
 |_=>exact q
end
section
variable {P:Program}{N:Nat}{ds:List Deferred}{w0:World}{g0:Gh}{h0:Nat->HO}{st:St}{g:Gh}{a:Act}{w:World}
theorem jf(hT:CM P T){ty e k ty2 b o n c:Nat}(ht:(T ty).d=.slice e)(hk:(T e).size=k+1)(hz:(T e).zc.length=k+1)(QD:∀v∈(T e).zc,v.oneCell'=true){EJ:Array Value}{E:TypeId}(hb:w.heap[b]?=some (.cells EJ E (0,0)))(hn:0<n)(Is:o+n*(k+1)<=EJ.size) :
  (Builtin.clear_ #[ty] ty2 #[.slice (some ⟨b,o,none⟩) n c]).run P w=.ok (.tuple #[]) (w.setRow b (over EJ.toList o (List.replicate n (T e).zc).flatten).toArray):=by
 obtain⟨z,z1,z2⟩:=Yr (w:=w) hT hk;have vK:(T e).zc≠[]:=fun e0=>by rw[e0]at hz;cases hz
 have vB:(Builtin.zeroCells z.cells n).toList=(List.replicate n (T e).zc).flatten:=by
  rw[IR n _ vK,hz,z2];have e6:z.cells.size=k+1:=by rw[<-hz,z2];simp
  unfold Builtin.zeroCells;simp[e6,Array.getElem!_eq_getD]
 have CH:(List.replicate n (T e).zc).flatten.length=n*(k+1):=by
  rw[DC (n:=k+1) (fun c hc=>by rw[Cy hc];exact hz),B3]
 have K4:=run_storeCells_at P b o E (List.replicate n (T e).zc).flatten 0 EJ w hb (by rw[CH];simpa using Is) (fun v hv=>by
  obtain⟨l,hl,hv⟩:=D4.1 hv;rw[Cy hl]at hv;exact QD v hv)
 simp only[GT]at K4;rw[Od _ _ _ (by rw[CH];simpa using Is)];obtain⟨m,rfl⟩:∃m,n=m+1:=⟨n-1,by omega⟩;simp only[Builtin.clear_,Sem.run_bind,GC,Bd,run_underlying (hT.slice ht),Result.andThen_ok,z1,vB,K4,Sem.run_pure]
theorem dD(hT:CM P T){ty e ty2 c:Nat}(ht:(T ty).d=.slice e)(x:Option Addr) :
  (Builtin.clear_ #[ty] ty2 #[.slice x 0 c]).run P w=.ok (.tuple #[]) w:=by
 cases x<;>simp only[Builtin.clear_,Sem.run_bind,GC,Bd,run_underlying (hT.slice ht),Result.andThen_ok,Sem.run_pure]
theorem oN{d:Nat}(hd:d<a.tmps.size):(a.put (some d) x).eval (.tmp d)=x:=by
 show(a.tmps.setIfInBounds d x).getD d undef=x;rw[CJ,Array.getElem?_setIfInBounds_self,Ap hd];rfl
theorem nh(h:Nat->HO)(r:Nat):A3 h r (h r)=h:=funext fun i=>by
 by_cases e:i=r
 .subst e;exact Bi ..
 .exact Cg _ _ _ _ e
theorem eB(h:Vi o o2=true):∃ty x lo d ty2 pos after wD rX YB,o=⟨some d,.slice ty x (some lo) none none,ty2,pos,after,none⟩/\o2=⟨none,.call ⟨.builtin .clear,#[.tmp d],#[ty]⟩,wD,rX,YB,none⟩:=by
 obtain⟨dst,op,t2,p1,a1,gd⟩:=o;obtain⟨Ah6,op2,t3,p2,a2,gd2⟩:=o2;unfold Vi at h;split at h
 .rename_i c e1;split at h
  .rename_i e2;split at h
   .rename_i ty x lo e3;split at h
    .rename_i d d' ty' e4 e5 e6 e7 e8 e9;obtain⟨uJ,⟨args⟩,⟨Hz⟩⟩:=c;simp only at e1 e2 e3 e4 e5 e6 e7 e8 e9;simp only[Af]at h;obtain rfl:=AL h.1;obtain rfl:=AL h.2;subst e1 e2 e3 e4 e5 e6 e7 e8 e9;exact⟨_,_,_,_,_,_,_,_,_,_,rfl,rfl⟩
    .cases h
   .cases h
  .cases h
 .cases h
theorem qG(hT:CM P cx.T){ro:Option Nat}(hd:∀i,o.dst=some i->i<N)(hc:Vi o o2=true){K:St->Prop}(hS:SR N ds w0 g0 h0 st g a w)(hk:jh cx o st K){next:Act->World->Prop}{Q:Exit->Act->World->Prop}(hn:∀EB g' a' w',K EB->SR N ds w0 g0 h0 EB g' a' w'->next a' w') :
  o.guard=none/\o2.guard=none/\o.wpIn (K3 ro) 0 P a w (fun a1 w1=>o2.wpIn (K3 ro) 0 P a1 w1 next Q) Q:=by
 obtain⟨ty,x,lo,d,ty2,pos,after,wD,rX,YB,rfl,rfl⟩:=eB hc;refine⟨rfl,rfl,?_⟩;have hI:=hS.inv;have hE:=hS.eval;have hdN:d<a.tmps.size:=by rw[hS.size];exact hd d rfl
 -- what is to be shown of the two operations
 have two:∀(v:Value) (EB:St) (g' : Gh) (w' : World),(Instr.sliceAt ty (a.eval x) (some (a.eval lo)) none none).run P w=.ok v w->(Builtin.clear_ #[ty] wD #[v]).run P w=.ok (.tuple #[]) w'->K ⟨H5 st.t d .junk,EB.h⟩->D3 w0 g0 h0 EB.h g' w'->Le st.h g w EB.h g' w' ->
   Oper.wpIn (K3 ro) 0 P ⟨some d,.slice ty x (some lo) none none,ty2,pos,after,none⟩ a w (fun a1 w1=>Oper.wpIn (K3 ro) 0 P ⟨none,.call ⟨.builtin .clear,#[.tmp d],#[ty]⟩,wD,rX,YB,none⟩ a1 w1 next Q) Q:=by
  intro v EB g' w' r1 r2 hk hI' Is;refine Ob (by intro c e;cases e) ?_;unfold Oper.wp;have hx:execOp a.eval ⟨some d,.slice ty x (some lo) none none,ty2,pos,after,none⟩=(do pure (Next.value (<-Instr.sliceAt ty (a.eval x) (some (a.eval lo)) none none))):=rfl;rw[hx,Sem.run_bind,r1];refine Ob (by intro c e;cases e) ?_;unfold Oper.wp;have tv:execOp (a.put (some d) v).eval ⟨none,.call ⟨.builtin .clear,#[.tmp d],#[ty]⟩,wD,rX,YB,none⟩=(do pure (Next.value (<-Builtin.clear_ #[ty] wD #[v]))):=by
   simp[execOp,resolve,invoke,builtin,oN hdN]
  rw[tv,Sem.run_bind,r2];have S1:SR N ds w0 g0 h0 (st.put (some d) .junk st.h) g (a.put (some d) v) w:=hS.put hd hI (.refl _ _ _) (.junk _ _);have S2:SR N ds w0 g0 h0 ((st.put (some d) .junk st.h).put none (.v (.tuple #[])) EB.h) g' ((a.put (some d) v).put none (.tuple #[])) w':=S1.put (by intro i e;cases e) hI' Is (.v _ _);exact hn _ g' _ w' hk S2
 unfold jh at hk;simp only at hk;split at hk
 .rename_i e hs;split at hk
  .rename_i r n ex;split at hk
   .rename_i i ei;split at hk
    .rename_i sz es er;split at hk
     .rename_i hb;obtain rfl:=AL hb;split at hk
      .exact hk.elim
      .rename_i k ES;split at hk
       .rename_i Ol;have Ol:=AL Ol;obtain⟨⟨rfl,i0,i1⟩,hk⟩:=hk;unfold yt at hk;split at hk
        .rename_i GJ;have GJ:∀v∈(cx.T e).zc,v.oneCell'=true:=A1.1 GJ;have ho:=hI.objs r;rw[er]at ho;obtain⟨t1,l1,al,a2⟩:=ho;have jK:=hE x;rw[ex]at jK;have hlo:=hE lo;rw[ei]at hlo;have hlo:=hlo.v_eq;generalize hvx:a.eval x=vx at jK two;rw[hlo]at two;cases jK with
         |msl _ _ _ ad cap hu ht' bw ha M6=>
          have hv:=M6 l1.symm;have Mx:es.length<=cap:=by
           rcases a2 with ⟨b1,_,_⟩|⟨b,Ml,E,vs,b1,_,b3,_⟩
           .subst b1;exact AB _
           .rw[b1]at hv;cases hv;exact b3
          have CZ:=Fg (P:=P) (w:=w) hT hs ES ad es.length cap (some i) none none (.inl rfl) (by simpa using i0) (by simpa using i1) (by simpa using Mx) B0;simp only[CO,Em,Cb,Ix,Option.map_none]at CZ
          by_cases hz:i.toNat=es.length
          .-- nothing is cleared
           have e1:es.length-i.toNat=0:=by omega
           rw[e1]at CZ hk;refine two _ st g w CZ (dD hT hs _) ?_ hI (.refl _ _ _);have e2:es.take i.toNat++List.replicate 0 ((cx.T e).zc.map AV.v)=es:=by rw[List.replicate_zero,BQ,hz,Ce]
           rw[e2,<-er,nh]at hk;exact hk
          .have DF:i.toNat<es.length:=by omega
           rcases a2 with ⟨b1,_⟩|⟨b,Ml,E,vs,b1,b2,b3,b4,b5,b6,b7⟩
           .subst b1;simp at DF
           .rw[b1]at hv;cases hv;have DJ:¬cap=i.toNat:=by omega
            rw[Aj DJ]at CZ;have Ad6:Option.map (fun x:Addr=>x.add (i.toNat*(cx.T e).size)) (some ⟨b,0,none⟩)=some ⟨b,i.toNat*(cx.T e).size,none⟩:=by simp[Addr.add];omega
            rw[Ad6]at CZ;have RK:es.length*(cx.T e).size<=cap*(cx.T e).size:=Bf _ b3;have WM:i.toNat*(cx.T e).size+(es.length-i.toNat)*(cx.T e).size=es.length*(cx.T e).size:=by rw[<-Fl];congr 1;omega
            have hcl:=jf (w:=w) (ty2:=wD) (c:=cap-i.toNat) hT hs ES (Ol.trans ES) GJ b4 (n:=es.length-i.toNat) (o:=i.toNat*(cx.T e).size) ch (by rw[show k+1=(cx.T e).size from ES.symm,WM,b5];exact RK);have hl:(st.h r).live:=by rw[er];trivial
            generalize hZ:(List.replicate (es.length-i.toNat) (cx.T e).zc).flatten=Z at hcl;have hZl:Z.length=(es.length-i.toNat)*(cx.T e).size:=by
             rw[<-hZ,DC (n:=(cx.T e).size) (fun c hc=>by rw[Cy hc];exact Ol),B3]
            have MX:(es.take i.toNat++List.replicate (es.length-i.toNat) ((cx.T e).zc.map AV.v)).length=es.length:=by
             rw[Ac,Ax,B3];omega
            have Ad7:∀c∈es.take i.toNat++List.replicate (es.length-i.toNat) ((cx.T e).zc.map AV.v),c.length=(cx.T e).size:=fun c hc=>by
             rcases AN.1 hc with h1|h1
             .exact al c (Df h1)
             .rw[Cy h1,A7];exact Ol
            have AdV:vs.toList.length=cap*(cx.T e).size:=by rw[B1];exact b5
            have hfl:(es.take i.toNat++List.replicate (es.length-i.toNat) ((cx.T e).zc.map AV.v)).flatten=over es.flatten (i.toNat*(cx.T e).size) (Z.map AV.v):=by
             rw[Od _ _ _ (by rw[A7,hZl,WM,DC al];exact Am _),Cm,Pd al,A7,hZl,WM,CA (by rw[DC al];exact Am _),BQ,<-hZ,Uf,List.map_replicate]
            have zH:((over vs.toList (i.toNat*(cx.T e).size) Z).toArray.toList.take (es.length*(cx.T e).size))=over (vs.toList.take (es.length*(cx.T e).size)) (i.toNat*(cx.T e).size) Z:=
             X2 _ _ _ _ (by rw[hZl,WM];exact Am _) (by rw[AdV];exact RK)
            have hZr:CW g w FB (Z.map AV.v) Z:=CW.vals (by
             have yT : ∀l:List AV,(∀a∈l,one a=true)->Hq l=true:=by
              intro l
              induction l with
              |nil=>intro _;rfl
              |cons a l ih=>intro h;simp[Hq,h a (List.mem_cons_self ..),ih (fun b hb=>h b (List.mem_cons_of_mem _ hb))]
             refine yT _ fun q hq=>?_;obtain⟨y,hy,rfl⟩:=Ai.1 hq;rw[<-hZ]at hy;obtain⟨l,hl,hy⟩:=D4.1 hy;rw[Cy hl]at hy;exact GJ y hy)
            have vw:CW g w FB (over es.flatten (i.toNat*(cx.T e).size) (Z.map AV.v)) (over (vs.toList.take (es.length*(cx.T e).size)) (i.toNat*(cx.T e).size) Z):=
             b6.over hZr _ (by rw[A7,hZl,WM,DC al];exact Am _)
            obtain⟨k1,k2⟩:=hI.write hl b2 (.arr (cx.T e).size (es.take i.toNat++List.replicate (es.length-i.toNat) ((cx.T e).zc.map AV.v))) b4 (over vs.toList (i.toNat*(cx.T e).size) Z).toArray (g.ln r) (g.own r) g.S B0 rfl (fun b' e=>by rw[b2]at e;cases e;rfl) (fun _ _ h=>h)
             (fun b' o hs=>.inl hs) (fun o hs=>absurd hs (b7 o)) (fun hg IY ED=>by
              obtain⟨u1,u2,u3,u4⟩:=BK g r (g.ρ r) (g.ln r) (g.tk r) (g.own r) g.S;refine⟨u3.trans t1,u2.trans (by rw[MX];exact l1),Ad7,.inr ⟨b,cap,E,_,?_,u4.trans b2,by rw[MX];exact b3,ED,?_,?_,b7⟩⟩
              .rw[u1,b1,MX]
              .simp only[Eb,Gb,B1];exact b5
              .rw[MX,zH,hfl];exact vw.mono IY (fun _ h=>h) (fun _ h=>h.elim))
            exact two _ ⟨st.t,_⟩ _ _ CZ hcl hk k1 k2
        .exact hk.elim
       .exact hk.elim
     .exact hk.elim
    .exact hk.elim
   .exact hk.elim
  .exact hk.elim
 .exact hk.elim
end
end Go.Eng
