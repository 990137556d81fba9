/- Lemmas 13. -/
import Derived.Test.YteaiieomnhbmgaaGreatDoorEA12
namespace Go.Eng
variable {o:Oper}{K:HK}{args:Array Operand}{cx:Cx}{Hp:Array TypeId}{after:Array Edge}{dr:Bool}{pos:String}{x:Value}{F:Fence}{o2:Oper}{T:G2}
structure SR(N:Nat)(ds:List Deferred)(w0:World)(g0:Gh)(h0:Nat->HO)(st:St)(g:Gh)(a:Act)(w:World):Prop where
 inv:D2 w0 g0 h0 st.h g w
 le:Le h0 g0 w0 st.h g w
 dfs:a.defers=ds
 size:a.tmps.size=N
 slots:∀i,BO g w (AS st.h) (st.t i) (a.tmps.getD i undef)
section
variable {P:Program}{N:Nat}{ds:List Deferred}{w0:World}{g0:Gh}{h0:Nat->HO}{st:St}{g:Gh}{a:Act}{w:World}
theorem SR.eval(hS:SR N ds w0 g0 h0 st g a w)(x:Operand):BO g w (AS st.h) (ev st.t x) (a.eval x):=by
 cases x with
 |tmp i=>exact hS.slots i
 |const v=>exact .v _ _
 |global b=>exact .v _ _
 |func f=>exact .v _ _
theorem SR.put(hS:SR N ds w0 g0 h0 st g a w){d:Option Nat}(hd:∀i,d=some i->i<N){v:AV}{x:Value}{h' : Nat->HO}{g' : Gh}{w' : World}(hI:D2 w0 g0 h0 h' g' w')(Ib:Le st.h g w h' g' w')(hr:BO g' w' (AS h') v x) :
  SR N ds w0 g0 h0 (st.put d v h') g' (a.put d x) w':=by
 have old:∀i,BO g' w' (AS h') (st.t i) (a.tmps.getD i undef):=fun i=>(hS.slots i).le Ib;cases d with
 |none=>exact⟨hI,hS.le.trans Ib,hS.dfs,hS.size,old⟩
 |some d=>
  have hdN:=hd d rfl;refine⟨hI,hS.le.trans Ib,hS.dfs,by simp[Act.put,hS.size],fun i=>?_⟩;simp only[St.put,Act.put,HT]
  by_cases e:i=d
  .subst e
   have:i<a.tmps.size:=by rw[hS.size];exact hdN
   simp only[Dp,KM];rw[CI,Array.getElem?_setIfInBounds_self,Ao this];exact hr
  .simp only[Dc e,Er];rw[CI,Array.getElem?_setIfInBounds_ne (Ne.symm e),<-CI];exact old i
def cp(w0:World)(g0:Gh)(h0 h:Nat->HO)(g:Gh)(w:World)(K:HK)(next:Value->World->Prop):Prop:=
 ∀v h' g' w' x,K v h'->D2 w0 g0 h0 h' g' w'->Le h g w h' g' w'->BO g' w' (AS h') v x->next x w'
theorem Ee{m:Sem Value}{next:Act->World->Prop}{Q:Exit->Act->World->Prop}(hx:execOp a.eval o=(do pure (Next.value (<-m))))(hd:OI P w0 g0 h0 st.h g w m K)(hn:cp w0 g0 h0 st.h g w K fun x w'=>next (a.put o.dst x) w'):o.wp P a w next Q:=by
 obtain⟨x,w',g',av,h',h1,h2,h3,h4,h5⟩:=hd;unfold Oper.wp;rw[hx,Sem.run_bind,h1];exact hn av h' g' w' x h2 h3 h4 h5
theorem Zs{m:Sem Unit}{next:Act->World->Prop}{Q:Exit->Act->World->Prop}(hx:execOp a.eval o=(do m;pure Next.skip))(hd:kQ P w0 g0 h0 st.h g w m K)(hn:cp w0 g0 h0 st.h g w K fun x w'=>next (a.put o.dst x) w'):o.wp P a w next Q:=by
 obtain⟨w',g',h',h1,h2,h3,h4⟩:=hd;unfold Oper.wp;rw[hx,Sem.run_bind,h1];exact hn _ h' g' w' undef h2 h3 h4 (.v _ _)
theorem g9{next:Act->World->Prop}{Q:Exit->Act->World->Prop}{v:AV}(hI:D2 w0 g0 h0 st.h g w)(hx:(execOp a.eval o).run P w=.ok (.value x) w)(hk:K v st.h)(hr:BO g w (AS st.h) v x)(hn:cp w0 g0 h0 st.h g w K fun x w'=>next (a.put o.dst x) w'):o.wp P a w next Q:=by
 unfold Oper.wp;rw[hx];exact hn _ _ _ _ _ hk hI (.refl _ _ _) hr
theorem Ur{C:(Ending->World->Prop)->Prop}(hm:∀{R R' : Ending->World->Prop},C R->(∀e w,R e w->R' e w)->C R')(hI:D2 w0 g0 h0 st.h g w){Q:AV->(Nat->HO)->Prop}
  (hc:D2 w g Af Af g w->C (fun e w'=>∃v r h' g',e=Ending.returned v/\Q r h'/\BO g' w' (AS h') r v/\D2 w g Af h' g' w'/\Le Af g w h' g' w')) {R:Ending->World->Prop}
  (hR:∀v r h' g' w',Q r h'->h'=Af->D2 w0 g0 h0 st.h g' w'->Le st.h g w st.h g' w'->BO g' w' Fx r v->R (.returned v) w') (hQ:∀r h',Q r h'->h'=Af):C R:=by
 have hU:AS Af=Fx:=by funext i;unfold AS Fx Af;simp
 have qq:D2 w g Af Af g w:=⟨rfl,rfl,rfl,Ak _,fun _ _ _=>rfl,hI.slt,fun _=>trivial,fun _ _ _ h=>h.elim,fun _ _ h=>h.elim,fun _ _ h=>.inl h,hI.glob⟩;refine hm (hc qq) ?_
 rintro e w' ⟨v,r,h',g',rfl,q1,q2,q3,q4⟩
 obtain rfl:=hQ r h' q1;rw[hU]at q2
 -- the caller's ghost,with the callee's stable cells
 have hk:EN g w ⟨g.ρ,g.ln,g.tk,g.own,g'.S⟩ w':=q4.keeps;have hg:KZ g ⟨g.ρ,g.ln,g.tk,g.own,g'.S⟩ (AS st.h):=fun _ _=>⟨rfl,Ak _,fun _=>rfl,fun _=>rfl⟩;have kL:∀b,b<w.heap.size->w'.heap[b]?=w.heap[b]?:=fun b hb=>q3.frame b hb (fun _ h=>h.elim);have hSs:∀b o,g'.S b o->b<w.heap.size->g.S b o:=fun b o hs hb=>by
  rcases q3.sg b o hs with h1 | h1 | ⟨_,h1,_⟩
  .exact h1
  .omega
  .exact h1.elim
 refine hR v r Af ⟨g.ρ,g.ln,g.tk,g.own,g'.S⟩ w' q1 rfl ⟨q3.os.trans hI.os,q3.tape.trans hI.tape,q3.output.trans hI.output,AG hI.size q3.size,fun b hb hn=>?_,q3.slt,fun i=>?_,hI.inj,fun i b hl ho=>?_,fun b o hs=>?_,hI.glob.keep hk⟩ ⟨hg,fun _ h=>h,hk⟩ ?_
 .exact(kL b (BA hb hI.size)).trans (hI.frame b hb hn)
 .refine(hI.objs i).same hk (fun _ h=>h) hg rfl rfl rfl rfl (fun b hl ho=>?_);have DE:=(hI.loc i b hl ho).1;exact⟨kL b DE,fun k hs=>hSs b k hs DE⟩
 .obtain⟨h1,h2⟩:=hI.loc i b hl ho;exact⟨BA h1 q3.size,h2⟩
 .rcases q3.sg b o hs with h1 | h1 | ⟨_,h1,_⟩
  .exact hI.sg b o h1
  .exact .inr (.inl (AG hI.size h1))
  .exact h1.elim
 .have:EN g' w' ⟨g.ρ,g.ln,g.tk,g.own,g'.S⟩ w':=fun b o h=>⟨h,rfl,fun _ _ h=>h⟩
  exact q2.mono this (fun _ h=>h) (fun _ h=>h.elim)
theorem iC(hI:D2 w0 g0 h0 st.h g w){f:Nat}{args:List AV}{Q:AV->(Nat->HO)->Prop}(hc:Bc P f args Af Q){vals:Array Value}(hs:vals.size=args.length)
  (hv:∀(i:Nat) (av:AV) (x:Value),args[i]?=some av->vals[i]?=some x->BO g w Fx av x) {R:Ending->World->Prop}
  (hR:∀v r h' g' w',Q r h'->h'=Af->D2 w0 g0 h0 st.h g' w'->Le st.h g w st.h g' w'->BO g' w' Fx r v->R (.returned v) w') (hQ:∀r h',Q r h'->h'=Af):Calls P f vals w R:=
 have hU:AS Af=Fx:=by funext i;unfold AS Fx Af;simp
 Ur (C:=Calls P f vals w) (fun h k=>h.mono k) hI (hc.2 g w vals hs (fun i av x h1 h2=>by rw[hU];exact hv i av x h1 h2)) hR hQ
theorem YieldAt.imp{m:Nat}{P:Program}{l:Nat}{args:Array Value}{W:World}{R R' : Ending->World->Prop}(h:YieldAt F m P l args W R)(hr:∀e w,R e w->R' e w):YieldAt F m P l args W R':=
 let ⟨fn,t,a,b,h1,h2⟩:=h
 ⟨fn,t,a,b,h1,h2.mono hr⟩
theorem JC.imp{Y:Gh->World->Prop}{l:Nat}{args:List AV}{h0:Nat->HO}{Q Q' : AV->(Nat->HO)->Prop}(h:JC P Y l args h0 Q)(hq:∀r h',Q r h'->Q' r h'):JC P Y l args h0 Q':=
 fun g w vals q1 q2 q3 q4=>YieldAt.imp (h g w vals q1 q2 q3 q4) fun _ _ ⟨v,r,h',g',e1,e2,rest⟩=>⟨v,r,h',g',e1,hq _ _ e2,rest⟩
theorem GB.imp{Y:Nat->Gh->World->Prop}{F:AV}{args:List AV}{h0:Nat->HO}{Q Q' : AV->(Nat->HO)->Prop}(h:GB P Y F args h0 Q)(hq:∀r h',Q r h'->Q' r h'):GB P Y F args h0 Q':=by
 have one:∀{f:Nat} {l:List AV},Bc P f l h0 Q->Bc P f l h0 Q':=fun hc=>
  ⟨hc.1,fun g w vals q1 q2 q3=>(hc.2 g w vals q1 q2 q3).mono fun _ _ ⟨v,r,h',g',e1,e2,rest⟩=>⟨v,r,h',g',e1,hq _ _ e2,rest⟩⟩
 unfold GB at h⊢;split at h
 .exact one h
 .exact one h
 .exact JC.imp h hq
 .exact h.elim
abbrev KD(ro:Option Nat):Fence:={ Fence.wide with round:=ro }
theorem N1{ro:Option Nat}{a:Act}{w:World}{next:Act->World->Prop}{Q:Exit->Act->World->Prop}(hd:∀c,o.op≠.defer c)(h:o.wp P a w next Q):o.wpIn (KD ro) 0 P a w next Q:=by
 refine⟨fun _ _=>trivial,?_⟩;have e:o.semAt (KD ro).round a.eval=execOp a.eval o:=Oper.semAt_eq ro a.eval o hd;rw[e];unfold Oper.wp at h;have key:∀res:Result Next,o.upon P a next Q res->o.uponIn (KD ro) 0 P a next Q res:=fun res h=>by
  cases res with
  |ok n w'=>cases n with
   |enter f args=>exact(show(_->_)/\CallsIn (KD ro) 0 P f args w' _ from⟨fun e=>by(cases e),callsIn_wide.2 h⟩)
   |row r args=>exact(show(_->_)/\RowsIn (KD ro) 0 P r args w' _ from⟨fun e=>by(cases e),fun c cs _=>by
     obtain⟨v,gV,r',s⟩:=h c cs;exact⟨v,gV,r',stepsIn_wide.2 s⟩⟩)
   |round _ _ _ _ _=>exact h.elim
   |_=>exact h
  |halt x w'=>cases x<;>exact h
 exact key _ h
theorem Ha{f:Nat}{args:Array Value}(h:F1 P f)(w:World):(callFunc f args).run P w=.ok (.enter f args) w:=by
 obtain⟨fn,h1,h2,h3⟩:=h;simp only[callFunc,Sem.run_bind,run_program,h1,Result.andThen_ok,h2,h3,Do,Gu,Sem.run_pure]
theorem VF{h:Nat->HO}{a:AV}(ha:gq a=true):ren (CH []) h a=str h a:=by
 have h0:∀a,ren0 (CH []) h a=str0 h a:=fun a=>by
  cases a with
  |slice tk es=>cases tk<;>rfl
  |_=>rfl
 cases a with
 |tup cs=>cases ha
 |agg cs=>show AV.agg _=AV.agg _;exact Aa _ (Bi fun c _=>h0 c)
 |clo f cs=>show AV.clo f _=AV.clo f _;exact Aa _ (Bi fun c _=>h0 c)
 |v x=>exact h0 (.v x)
 |slice tk es=>exact h0 (.slice tk es)
 |msl r n=>exact h0 (.msl r n)
 |cptr cs=>exact h0 (.cptr cs)
 |ref r o=>exact h0 (.ref r o)
 |eref r n sz i o=>exact h0 (.eref r n sz i o)
 |mref r=>exact h0 (.mref r)
 |cmap sh l=>exact h0 (.cmap sh l)
 |junk=>rfl
theorem RR{h:Nat->HO}:∀{l:List AV},Vr l=true->l.map (ren (CH []) h)=l.map (str h)
 | [],_=>rfl
 |a::l,e=>by
  unfold Vr at e;split at e
  .rename_i e1;rw[AL,AL,VF e1,RR e]
  .cases e
theorem Sh:∀{l:List AV} {vs:List Value},X2 l=some vs->l=vs.map .v
 | [],vs,h=>by cases h;rfl
 |.v x::r,vs,h=>by
  unfold X2 at h;split at h
  .rename_i l e;cases h;rw[AL,<-Sh e]
  .cases h
theorem iB{d:Option Nat}{st:St}{F:AV}{args:List AV}(hk:GO cx true d st F args K):GO cx false d st F args K:=by
 unfold GO at hk;simp only at hk;split at hk
 .exact⟨.pure,hk⟩
 .split at hk
  .exact hk.elim
  .rename_i d _;obtain⟨n,sz,es,h1,h2,h3⟩:=hk;simp only[Ag]at h1;refine⟨.gen [] 1,?_⟩;show(EJ []&&DY st.h d 1&&DF [] d 1)=true/\_;refine⟨by simp[EJ,DF,h1.1.1],?_⟩;rw[VF h1.1.2,RR h1.2];show GB cx.P (fun l=>cx.yp l []) _ _ Af _;refine GB.imp h2 ?_
   rintro r h' ⟨e2,e3⟩
   subst e2;subst e3;have e1:ren (Fw [] d 1) (Ap [(2000,.arr sz es)] Af) (.msl 2000 n)=.msl (BE d 0) n:=rfl;have e2:Eu [] d 1 st.h (Ap [(2000,.arr sz es)] Af)=A2 st.h (BE d 0) (.arr sz es):=by
    funext i
    by_cases e:i=BE d 0
    .subst e;rw[Bl];have hb:(Nat.ble (BE d 0) (BE d 0)&&Nat.blt (BE d 0) (BE d 1))=true:=by
      unfold BE;simp only[Ag,Dt,Cw];omega
     simp only[Eu,CH,hb,E8];rfl
    .rw[Cb _ _ _ _ e]
     have:(Nat.ble (BE d 0) i&&Nat.blt i (BE d 1))=false:=by
      unfold BE at e⊢;rw[AN];simp only[XE,Ag,Dt,Cw];omega
     simp only[Eu,CH,this]
   rw[e1,e2];exact h3
 .split at hk
  .unfold VW at hk;split at hk
   .exact hk.elim
   .rename_i d _;obtain⟨sz,es,h1,h2,h3⟩:=hk;simp only[Ag]at h1;refine⟨.gen [] 1,?_⟩;show(EJ []&&DY st.h d 1&&DF [] d 1)=true/\_;refine⟨by simp[EJ,DF,h1.1.1],?_⟩;rw[VF h1.1.2,RR h1.2];show GB cx.P (fun l=>cx.yp l []) _ _ Af _;refine GB.imp h2 ?_
    rintro r h' ⟨e2,e3⟩
    subst e2;subst e3;have e1:ren (Fw [] d 1) (Ap [(2000,.tok sz es.length)] Af) (.slice (.id 2000 sz) es)=.slice (.id (BE d 0) sz) es:=rfl;have e2:Eu [] d 1 st.h (Ap [(2000,.tok sz es.length)] Af)=A2 st.h (BE d 0) (.tok sz es.length):=by
     funext i
     by_cases e:i=BE d 0
     .subst e;rw[Bl];have hb:(Nat.ble (BE d 0) (BE d 0)&&Nat.blt (BE d 0) (BE d 1))=true:=by
       unfold BE;simp only[Ag,Dt,Cw];omega
      simp only[Eu,CH,hb,E8];rfl
     .rw[Cb _ _ _ _ e]
      have:(Nat.ble (BE d 0) i&&Nat.blt i (BE d 1))=false:=by
       unfold BE at e⊢;rw[AN];simp only[XE,Ag,Dt,Cw];omega
      simp only[Eu,CH,this]
    rw[e1,e2];exact h3
  split at hk
  .unfold Si at hk;split at hk
   .rename_i d l vs e2 z1;have hl:=Sh e2;split at hk
    .rename_i r sz es gQ n e3 e4;obtain⟨⟨rfl,rfl⟩,v,F0,n',h1,h2⟩:=hk;refine⟨.gen [(1000,1000),(1001,1001)] 0,?_⟩;show(EJ [(1000,1000),(1001,1001)]&&DY st.h d 0&&DF [(1000,1000),(1001,1001)] d 0)=true/\_;refine⟨?_,?_⟩
     .have:DF [(1000,1000),(1001,1001)] d 0=true:=by
       have q:∀r:Nat,(Nat.ble (BE d 0) r&&Nat.blt r (BE d 0))=false:=fun r=>by
        rw[AN];simp only[XE,Ag,Dt,Cw];omega
       simp only[DF,q,Bool.not_false,Bool.and_self]
      rw[this];rfl
     have f1:args.map (ren (CH [(1000,1000),(1001,1001)]) st.h)=vs.map .v:=by rw[hl,Br];rfl
     have f2:FZ [(1000,1000),(1001,1001)] st.h=Ap [(1000,.cells [.slice (.id 1001 gQ) es]),(1001,.tok gQ n)] Af:=by
      unfold FZ Zd Zd Zd;rw[e3,e4];rfl
     rw[f1,f2];refine JC.imp h1 ?_
     rintro r h' ⟨g1,g2⟩
     subst g1;subst g2;have f3:Eu [(1000,1000),(1001,1001)] d 0 st.h (Ap [(1000,.cells [.slice (.id 1001 gQ) F0]),(1001,.tok gQ n')] Af)=A2 (A2 st.h 1001 (.tok gQ n')) 1000 (.cells [.slice (.id 1001 gQ) F0]):=by
      funext i
      by_cases e:i=1000
      .subst e;rw[Bl];rfl
      .rw[Cb _ _ _ _ e]
       by_cases e' : i=1001
       .subst e';rw[Bl];rfl
       .rw[Cb _ _ _ _ e'];have hn:CH [(1000,1000),(1001,1001)] i=none:=by simp[CH,Dc (Ne.symm e),Dc (Ne.symm e')]
        have:(Nat.ble (BE d 0) i&&Nat.blt i (BE d 0))=false:=by
         rw[AN];simp only[XE,Ag,Dt,Cw];omega
        simp only[Eu,hn,this]
     rw[f3];exact h2
    .exact hk.elim
   .exact hk.elim
  unfold QP at hk;split at hk
  .unfold aE at hk;split at hk
   .rename_i d f _;obtain⟨σ,H0,Hn,args',res,g1,g2,g3,g4⟩:=hk;simp only[Ag]at g2;obtain⟨k1,k2⟩:=g1 st.h fun _ _=>rfl;refine⟨.gen σ 0,?_⟩;show(EJ σ&&DY st.h d 0&&DF σ d 0)=true/\_;refine⟨by rw[g2.1.1,g2.1.2];rfl,?_⟩;rw[k1,k2];refine GB.imp (show GB cx.P (fun l=>cx.yp l σ) (.v (.func (.func f) ⟨[]⟩ ⟨[]⟩)) args' (Ap H0 Af) (fun r h'=>r=res/\h'=Ap Hn Af)from g3) ?_
    rintro r h' ⟨e1,e2⟩
    rw[e1,e2];exact g4
   .exact hk.elim
  unfold Te at hk;split at hk
  .rename_i dd f r n l _;split at hk
   .rename_i vs dw;have hl:=Sh dw;subst hl;split at hk
    .rename_i sz es hr;have hf:CH [(r,1000)] r=some 1000:=by simp[CH]
     have e1:ren (CH [(r,1000)]) st.h (.v (.func (.func f) ⟨[]⟩ ⟨[]⟩))=.v (.func (.func f) ⟨[]⟩ ⟨[]⟩):=rfl;have e2:(AV.msl r n::vs.map AV.v).map (ren (CH [(r,1000)]) st.h)=.msl 1000 n::vs.map .v:=by
      rw[AL]
      congr 1
      .simp[ren,ren1,ren0,hf]
      .rw[Br];rfl
     have e3:FZ [(r,1000)] st.h=Ap [(1000,.arr sz es)] Af:=by
      unfold FZ Zd;rw[hr];rfl
     split at hk
     .obtain⟨n',F0,h1,h2⟩:=hk;refine⟨.gen [(r,1000)] 0,?_⟩;show(EJ [(r,1000)]&&DY st.h dd 0&&DF [(r,1000)] dd 0)=true/\_;refine⟨?_,?_⟩
      .have:DF [(r,1000)] dd 0=true:=by
        unfold DF
        have:(Nat.ble (BE dd 0) r&&Nat.blt r (BE dd 0))=false:=by
         rw[AN];simp only[XE,Ag,Dt,Cw];omega
        rw[this];rfl
       rw[this];rfl
      rw[e1,e2,e3];refine⟨h1.1,fun g w vals q1 q2 q3=>(h1.2 g w vals q1 q2 q3).mono fun _ _ ⟨v,r',h',g',e1,⟨e2,e3⟩,rest⟩=>⟨v,r',h',g',e1,?_,rest⟩⟩;subst e2;subst e3;have f1:ren (Fw [(r,1000)] dd 0) (Ap [(1000,.arr sz F0)] Af) (.msl 1000 n')=.msl r n':=rfl;have f2:Eu [(r,1000)] dd 0 st.h (Ap [(1000,.arr sz F0)] Af)=A2 st.h r (.arr sz F0):=by
       funext i
       by_cases e:i=r
       .subst e;rw[Bl];simp[Eu,hf,Ap,HO.ren]
       .rw[Cb _ _ _ _ e];have hn:CH [(r,1000)] i=none:=by simp[CH,Dc (Ne.symm e)]
        have:(Nat.ble (BE dd 0) i&&Nat.blt i (BE dd 0))=false:=by
         rw[AN];simp only[XE,Ag,Dt,Cw];omega
        simp only[Eu,hn,this]
      rw[f1,f2];exact h2
     .obtain⟨n',F0,h0,h1,h2⟩:=hk;simp only[Ag,Cw,CJ]at h0;have hrd:r≠BE dd 0:=fun e=>by have:=h0.2;rw[e]at this;simp at this
      refine⟨.gen [(r,1000)] 1,?_⟩;show(EJ [(r,1000)]&&DY st.h dd 1&&DF [(r,1000)] dd 1)=true/\_;refine⟨?_,?_⟩
      .have:DF [(r,1000)] dd 1=true:=by
        unfold DF
        have:(Nat.ble (BE dd 0) r&&Nat.blt r (BE dd 1))=false:=by
         rw[AN];simp only[XE,Ag,Dt,Cw];unfold BE at hrd⊢;omega
        rw[this];rfl
       rw[this,h0.1.1];rfl
      rw[e1,e2,e3];refine⟨h1.1,fun g w vals q1 q2 q3=>(h1.2 g w vals q1 q2 q3).mono fun _ _ ⟨v,r',h',g',e1,⟨e2,e3⟩,rest⟩=>⟨v,r',h',g',e1,?_,rest⟩⟩;subst e2;subst e3;have f1:ren (Fw [(r,1000)] dd 1) (Ap [(1000,.dead),(2000,.arr sz F0)] Af) (.msl 2000 n')=.msl (BE dd 0) n':=rfl;have f2:Eu [(r,1000)] dd 1 st.h (Ap [(1000,.dead),(2000,.arr sz F0)] Af)=A2 (A2 st.h r .dead) (BE dd 0) (.arr sz F0):=by
       funext i
       by_cases e:i=BE dd 0
       .subst e;rw[Bl];have hn:CH [(r,1000)] (BE dd 0)=none:=by simp[CH,Dc hrd]
        have hb:(Nat.ble (BE dd 0) (BE dd 0)&&Nat.blt (BE dd 0) (BE dd 1))=true:=by
         unfold BE;simp only[Ag,Dt,Cw];omega
        simp only[Eu,hn,hb,E8];rfl
       .rw[Cb _ _ _ _ e]
        by_cases e4:i=r
        .subst e4;rw[Bl];simp[Eu,hf,Ap,HO.ren]
        .rw[Cb _ _ _ _ e4];have hn:CH [(r,1000)] i=none:=by simp[CH,Dc (Ne.symm e4)]
         have:(Nat.ble (BE dd 0) i&&Nat.blt i (BE dd 1))=false:=by
          rw[AN];simp only[XE,Ag,Dt,Cw];unfold BE at e⊢;omega
         simp only[Eu,hn,this]
      rw[f1,f2];exact h2
    .exact hk.elim
   .exact hk.elim
  .exact hk.elim
theorem ly{d:Option Nat}{f:Operand}{dst:Option Nat}{ty:Nat}{gd:Option (Nat×Bool)}{next:Act->World->Prop}{Q:Exit->Act->World->Prop}(hP:cx.P=P)(hY:∀l σ h g w,EJ σ=true->D2 w0 g0 h0 h g w->Le h0 g0 w0 h g w->cx.yp l σ (DS σ g) w){ro:Option Nat}(hS:SR N ds w0 g0 h0 st g a w)(hk:GO cx dr d st (ev st.t f) (args.toList.map (ev st.t)) K)(hn:cp w0 g0 h0 st.h g w K fun x w'=>next (a.put dst x) w'):Oper.wpIn (KD ro) 0 P ⟨dst,.call ⟨.value f,args,Hp⟩,ty,pos,after,gd⟩ a w next Q:=by
 subst hP;have hk:GO cx false d st (ev st.t f) (args.toList.map (ev st.t)) K:=by
  cases dr with
  |true=>exact iB hk
  |false=>exact hk
 have Jk:∀(i:Nat) (av:AV) (x:Value),((args.toList.map (ev st.t)).map (str st.h))[i]?=some av->(args.map a.eval)[i]?=some x->BO g w Fx av x:=by
  intro i av x h1 h2;rw[AH,AH]at h1;rw[Pw]at h2;cases ho:args[i]? with
  |none=>rw[ho]at h2;simp at h2
  |some y=>
   rw[ho]at h2;have hy:args.toList[i]?=some y:=by simpa using ho
   rw[hy]at h1;simp only[Ih,Bz]at h1 h2;subst h1;subst h2;exact BO.str hS.inv.objs (hS.eval y)
 have CP:(args.map a.eval).size=((args.toList.map (ev st.t)).map (str st.h)).length:=by simp
 have hF:=BO.str hS.inv.objs (hS.eval f)
 -- a call of yield
 have yl:∀(l:Nat) (R:Ending->World->Prop),a.eval f=.func (.yield l) #[] #[]->YieldAt Fence.wide 0 cx.P l (args.map a.eval) w R->(∀e w',R e w'->∃v,e=.returned v/\next (a.put dst v) w') ->
   Oper.wpIn (KD ro) 0 cx.P ⟨dst,.call ⟨.value f,args,Hp⟩,ty,pos,after,gd⟩ a w next Q:=by
  rintro l R hx ⟨fn,tm,He,bd,h1,h2⟩ hR
  refine⟨fun _ _=>trivial,?_⟩;have e:(⟨dst,.call ⟨.value f,args,Hp⟩,ty,pos,after,gd⟩:Oper).semAt (KD ro).round a.eval=execOp a.eval ⟨dst,.call ⟨.value f,args,Hp⟩,ty,pos,after,gd⟩:=Oper.semAt_eq ro a.eval _ (fun c e=>by cases e);have CV:(execOp a.eval ⟨dst,.call ⟨.value f,args,Hp⟩,ty,pos,after,gd⟩).run cx.P w=.ok (.round l fn tm He bd) w:=by
   simp only[execOp,resolve,hx,Deferred.ofValue,Sem.run_bind,Sem.run_pure,Result.andThen_ok,invoke];simpa using h1
  rw[e,CV];refine(show(_->_)/\RoundIn (KD ro) 0 cx.P l fn tm He bd w _ from⟨fun e=>by(cases e),RoundIn.mono h2 fun e w' h=>?_⟩);obtain⟨v,rfl,hn⟩:=hR e w' h;exact hn
 -- the call itself
 have go:∀(Q' : AV->(Nat->HO)->Prop),(∀r h',Q' r h'->h'=Af/\K r st.h)->GB cx.P (fun _ _ _=>True) (str st.h (ev st.t f)) ((args.toList.map (ev st.t)).map (str st.h)) Af Q' ->
   Oper.wpIn (KD ro) 0 cx.P ⟨dst,.call ⟨.value f,args,Hp⟩,ty,pos,after,gd⟩ a w next Q:=by
  intro Q' hQ hc
  have fin:∀{fn:Nat} {l:List AV} {vals:Array Value},Bc cx.P fn l Af Q'->vals.size=l.length->(∀(i:Nat) (av:AV) (x:Value),l[i]?=some av->vals[i]?=some x->BO g w Fx av x) ->
    (execOp a.eval ⟨dst,.call ⟨.value f,args,Hp⟩,ty,pos,after,gd⟩).run cx.P w=.ok (.enter fn vals) w->Oper.wpIn (KD ro) 0 cx.P ⟨dst,.call ⟨.value f,args,Hp⟩,ty,pos,after,gd⟩ a w next Q:=by
   intro fn l vals hc hs hv CV;refine N1 (fun c e=>by cases e) ?_;unfold Oper.wp;rw[CV];exact iC hS.inv hc hs hv (fun v r h' g' w' hq _ hI Ib hr=>hn r _ g' w' v (hQ r h' hq).2 hI Ib (hr.up _)) (fun r h' hq=>(hQ r h' hq).1)
  unfold GB at hc;split at hc
  .rename_i fn e;rw[e]at hF;have hx:=hF.v_eq;refine fin hc CP Jk ?_;have MM : a.eval f=.func (.func fn) #[] #[]:=hx;simp only[execOp,resolve,MM,Deferred.ofValue,Sem.run_bind,Sem.run_pure,Result.andThen_ok,invoke];rw[Ha hc.1];simp
  .rename_i fn caps e;rw[e]at hF;generalize hx:a.eval f=fv at hF;cases hF with
   |clo _ _ _ vs ET Mh=>
    refine fin hc (vals:=args.map a.eval++vs) (by simp[ET]) (fun i av x h1 h2=>?_) ?_
    .rw[MU]at h1;rw[IH]at h2;have hl:((args.toList.map (ev st.t)).map (str st.h)).length=(args.map a.eval).size:=CP.symm;rw[hl]at h1;split at h1
     .rename_i hi;rw[Ao hi]at h2;exact Jk i av x h1 h2
     .rename_i hi;rw[Aj hi]at h2;exact Mh _ av x h1 h2
    .simp only[execOp,resolve,hx,Deferred.ofValue,Sem.run_bind,Sem.run_pure,Result.andThen_ok,invoke];rw[Ha hc.1];simp
  .rename_i l e;rw[e]at hF;have hU:AS Af=Fx:=by funext i;unfold AS Fx Af;simp
   refine yl l _ hF.v_eq (Ur (C:=YieldAt Fence.wide 0 cx.P l (args.map a.eval) w) (R:=fun e w'=>∃v,e=.returned v/\next (a.put dst v) w') YieldAt.imp hS.inv (fun qq=>hc g w _ CP (fun i av x h1 h2=>by rw[hU];exact Jk i av x h1 h2) qq trivial)
    (fun v r h' g' w' hq _ hI Ib hr=>⟨v,rfl,hn r _ g' w' v (hQ r h' hq).2 hI Ib (hr.up _)⟩) (fun r h' hq=>(hQ r h' hq).1)) fun _ _ h=>h
  .exact hc.elim
 have pure:(∃res,Re cx.P (str st.h (ev st.t f)) ((args.toList.map (ev st.t)).map (str st.h)) res/\K res st.h)->Oper.wpIn (KD ro) 0 cx.P ⟨dst,.call ⟨.value f,args,Hp⟩,ty,pos,after,gd⟩ a w next Q:=by
  rintro⟨res,h1,h2⟩
  refine go (fun r h'=>r=res/\h'=Af) (fun r h' hq=>⟨hq.2,by rw[hq.1];exact h2⟩) ?_;unfold Re at h1;unfold GB;split at h1
  .rename_i fn e;rw[e];exact h1
  .rename_i fn caps e;rw[e];exact h1
  .exact h1.elim
 unfold GO at hk
 .obtain⟨m,hm⟩:=hk;cases m with
  |pure=>exact pure hm
  |rel=>exact go _ (fun r h' hq=>hq) hm
  |gen σ nn=>
   simp only at hm;cases d with
   |none=>exact hm.elim
   |some d=>
    simp only at hm;obtain⟨GU,hc⟩:=hm;have hσ:EJ σ=true:=by simp only[Ag]at GU;exact GU.1.1
    obtain⟨hR,_⟩:=YQ hS.inv hσ;have mn:=(hS.eval f).ren hR;have US:∀(i:Nat) (av:AV) (x:Value),((args.toList.map (ev st.t)).map (ren (CH σ) st.h))[i]?=some av->(args.map a.eval)[i]?=some x->BO (DS σ g) w (AS (FZ σ st.h)) av x:=by
     intro i av x h1 h2;rw[AH,AH]at h1;rw[Pw]at h2;cases ho:args[i]? with
     |none=>rw[ho]at h2;simp at h2
     |some y=>
      rw[ho]at h2;have hy:args.toList[i]?=some y:=by simpa using ho
      rw[hy]at h1;simp only[Ih,Bz]at h1 h2;subst h1;subst h2;exact(hS.eval y).ren hR
    have MD:(args.map a.eval).size=((args.toList.map (ev st.t)).map (ren (CH σ) st.h)).length:=by simp
    have fin:∀{fn:Nat} {l:List AV} {vals:Array Value},Bc cx.P fn l (FZ σ st.h) (fun r h'=>K (ren (Fw σ d nn) h' r) (Eu σ d nn st.h h'))->vals.size=l.length ->
      (∀(i:Nat) (av:AV) (x:Value),l[i]?=some av->vals[i]?=some x->BO (DS σ g) w (AS (FZ σ st.h)) av x) ->
      (execOp a.eval ⟨dst,.call ⟨.value f,args,Hp⟩,ty,pos,after,gd⟩).run cx.P w=.ok (.enter fn vals) w->Oper.wpIn (KD ro) 0 cx.P ⟨dst,.call ⟨.value f,args,Hp⟩,ty,pos,after,gd⟩ a w next Q:=by
     intro fn l vals hc hs hv CV;refine N1 (fun c e=>by cases e) ?_;unfold Oper.wp;rw[CV];exact lz hS.inv GU hc hs hv (fun v r h' g' w' hq hI Ib hr=>hn _ _ g' w' v hq hI Ib hr)
    unfold GB at hc;split at hc
    .rename_i fn e;rw[e]at mn;have hx:a.eval f=.func (.func fn) #[] #[]:=mn.v_eq;refine fin hc MD US ?_;simp only[execOp,resolve,hx,Deferred.ofValue,Sem.run_bind,Sem.run_pure,Result.andThen_ok,invoke];rw[Ha hc.1];simp
    .rename_i fn caps e;rw[e]at mn;generalize hx:a.eval f=fv at mn;cases mn with
     |clo _ _ _ vs ET Mh=>
      refine fin hc (vals:=args.map a.eval++vs) (by simp[ET]) (fun i av x h1 h2=>?_) ?_
      .rw[MU]at h1;rw[IH]at h2;have hl:((args.toList.map (ev st.t)).map (ren (CH σ) st.h)).length=(args.map a.eval).size:=MD.symm;rw[hl]at h1;split at h1
       .rename_i hi;rw[Ao hi]at h2;exact US i av x h1 h2
       .rename_i hi;rw[Aj hi]at h2;exact Mh _ av x h1 h2
      .simp only[execOp,resolve,hx,Deferred.ofValue,Sem.run_bind,Sem.run_pure,Result.andThen_ok,invoke];rw[Ha hc.1];simp
    .rename_i l e;rw[e]at mn
     exact yl l _ mn.v_eq (NK (C:=YieldAt Fence.wide 0 cx.P l (args.map a.eval) w) (R:=fun e w'=>∃v,e=.returned v/\next (a.put dst v) w') YieldAt.imp hS.inv GU (fun qq=>hc (DS σ g) w _ MD US qq (hY l σ _ _ _ hσ hS.inv hS.le))
      (fun v r h' g' w' hq hI Ib hr=>⟨v,rfl,hn _ _ g' w' v hq hI Ib hr⟩)) fun _ _ h=>h
    .exact hc.elim
  |geny σ nn=>
   simp only at hm;cases d with
   |none=>exact hm.elim
   |some d=>
    simp only at hm;obtain⟨GU,hc⟩:=hm;have hσ:EJ σ=true:=by simp only[Ag]at GU;exact GU.1.1
    obtain⟨hR,_⟩:=YQ hS.inv hσ;have mn:=(hS.eval f).ren hR;have US:∀(i:Nat) (av:AV) (x:Value),((args.toList.map (ev st.t)).map (ren (CH σ) st.h))[i]?=some av->(args.map a.eval)[i]?=some x->BO (DS σ g) w (AS (FZ σ st.h)) av x:=by
     intro i av x h1 h2;rw[AH,AH]at h1;rw[Pw]at h2;cases ho:args[i]? with
     |none=>rw[ho]at h2;simp at h2
     |some y=>
      rw[ho]at h2;have hy:args.toList[i]?=some y:=by simpa using ho
      rw[hy]at h1;simp only[Ih,Bz]at h1 h2;subst h1;subst h2;exact(hS.eval y).ren hR
    have MD:(args.map a.eval).size=((args.toList.map (ev st.t)).map (ren (CH σ) st.h)).length:=by simp
    split at hc
    .rename_i fn caps e;rw[e]at mn;generalize hx:a.eval f=fv at mn;cases mn with
     |clo _ _ _ vs ET Mh=>
      have CV:(execOp a.eval ⟨dst,.call ⟨.value f,args,Hp⟩,ty,pos,after,gd⟩).run cx.P w=.ok (.enter fn (args.map a.eval++vs)) w:=by
       simp only[execOp,resolve,hx,Deferred.ofValue,Sem.run_bind,Sem.run_pure,Result.andThen_ok,invoke];rw[Ha hc.1];simp
      refine N1 (fun c e=>by cases e) ?_;unfold Oper.wp;rw[CV];refine NK (C:=Calls cx.P fn (args.map a.eval++vs) w) (fun h k=>h.mono k) hS.inv GU (fun qq=>hc.2 (DS σ g) w _ (by simp[ET]) (fun i av x h1 h2=>?_) qq (fun l=>hY l σ _ _ _ hσ hS.inv hS.le)) (fun v r h' g' w' hq hI Ib hr=>hn _ _ g' w' v hq hI Ib hr);rw[MU]at h1;rw[IH]at h2;have hl:((args.toList.map (ev st.t)).map (ren (CH σ) st.h)).length=(args.map a.eval).size:=MD.symm;rw[hl]at h1;split at h1
      .rename_i hi;rw[Ao hi]at h2;exact US i av x h1 h2
      .rename_i hi;rw[Aj hi]at h2;exact Mh _ av x h1 h2
    .exact hc.elim
end
section
variable {P:Program}{N:Nat}{ds:List Deferred}{w0:World}{g0:Gh}{h0:Nat->HO}{st:St}{g:Gh}{a:Act}{w:World}
theorem ZP(hT:CK P cx.T){b:Builtin}{dst:Option Nat}{ty:Nat}{gd:Option (Nat×Bool)}{next:Act->World->Prop}{Q:Exit->Act->World->Prop}(hS:SR N ds w0 g0 h0 st g a w)(hk:Gs cx dst st.h b Hp.toList (args.toList.map (ev st.t)) K)(hn:cp w0 g0 h0 st.h g w K fun x w'=>next (a.put dst x) w'):Oper.wp P ⟨dst,.call ⟨.builtin b,args,Hp⟩,ty,pos,after,gd⟩ a w next Q:=by
 have hI:=hS.inv;have hE:=hS.eval;obtain⟨l⟩:=args;obtain⟨tl⟩:=Hp;unfold Gs at hk;split at hk
 .rename_i x t e1 e2
  match l,e1 with
  | [y],e1=>
   simp only[AL,E7,Ff,and_true]at e1;subst e1;simp only at e2;subst e2;exact Ee (m:=Builtin.len_ #[t] ty #[a.eval y]) (by simp[execOp,resolve,invoke,builtin]) (BQ.does hI (m7 hT hI.objs (hE y) hk)) hn
 .rename_i s x t t' e1 e2
  match l,e1 with
  | [y,z],e1=>
   simp only[AL,E7,Ff,and_true]at e1;obtain⟨rfl,rfl⟩:=e1;simp only at e2;subst e2;split at hk
   .rename_i ht;obtain rfl:=AM ht;exact Ee (m:=Builtin.append_ #[t,t] ty #[a.eval y,a.eval z]) (by simp[execOp,resolve,invoke,builtin]) (cC hI hT (hE y) (hE z) hk) hn
   .exact hk.elim
 .rename_i x y Hp e1
  match l,e1 with
  | [y,z],e1=>
   simp only[AL,E7,Ff,and_true]at e1;obtain⟨rfl,rfl⟩:=e1;exact Ee (m:=Builtin.max_ ⟨tl⟩ ty #[a.eval y,a.eval z]) (by simp[execOp,resolve,invoke,builtin]) (BQ.does hI (qO (hE y) (hE z) hk)) hn
 .rename_i x y Hp e1
  match l,e1 with
  | [y,z],e1=>
   simp only[AL,E7,Ff,and_true]at e1;obtain⟨rfl,rfl⟩:=e1;exact Ee (m:=Builtin.min_ ⟨tl⟩ ty #[a.eval y,a.eval z]) (by simp[execOp,resolve,invoke,builtin]) (BQ.does hI (qQ (hE y) (hE z) hk)) hn
 .exact hk.elim
theorem pK(hT:CK P cx.T){next:Act->World->Prop}{Q:Exit->Act->World->Prop}(hS:SR N ds w0 g0 h0 st g a w)(hk:Gf cx dr o st K)(hv:∀f args Hp,o.op≠.call ⟨.value f,args,Hp⟩)(hn:cp w0 g0 h0 st.h g w K fun x w'=>next (a.put o.dst x) w'):o.wp P a w next Q:=by
 have hI:=hS.inv;have hE:=hS.eval;obtain⟨dst,op,ty,pos,after,gd⟩:=o;unfold Gf at hk;cases op with
 |move x=>exact g9 hI (x:=a.eval x) rfl hk (hE x) hn
 |assign x=>
  obtain⟨g',av,h',q1,q2,q3,q4⟩:=cE hI (hE x) hk;exact hn _ _ _ _ _ q1 q2 q3 q4
 |pick c x y=>exact Ee (m:=do pure (if <-asBool (a.eval c)then a.eval x else a.eval y)) (by simp[execOp]) (BQ.does hI (nP (hE c) (hE x) (hE y) hk)) hn
 |alloc e=>exact Ee rfl (ik hI hT hk) hn
 |box e x=>exact Ee rfl (pU hI (hE x) hk) hn
 |build t ps=>exact Ee rfl (BQ.does hI (iA hT hE hk)) hn
 |buildSlice t n ps=>exact Ee rfl (Uq hI hT hE hk) hn
 |insert t m k x=>exact Zs rfl (Ox hI hT (hE m) (hE k) (hE x) hk) hn
 |load t x=>exact Ee rfl (BQ.does hI (XA hI.objs hT (hE x) hk)) hn
 |store t p x=>exact Zs rfl (km hI hT (hE p) (hE x) hk) hn
 |nilCheck x=>
  obtain⟨h1,h2⟩:=Y7 (P:=P) (w:=w) (hE x) hk (pos:=pos) (after:=after) (gd:=gd) (dst:=dst) (ty:=ty) (ρ:=a.eval) rfl;exact g9 hI h1 h2 (hE x) hn
 |binOp op t x y u=>exact Ee rfl (BQ.does hI (li hT (hE x) (hE y) (fun v e=>by subst e;rfl) hk)) hn
 |unOp op t x=>exact Ee rfl (BQ.does hI (oL (hE x) hk)) hn
 |convert s t x=>
  cases dr with
  |true=>exact Ee rfl (BQ.does hI (ZX hT (hE x) hk)) hn
  |false=>exact Ee rfl (iL hI hT (hE x) hk) hn
 |makeFunc fn first cap=>exact Ee rfl (BQ.does hI (Y2 hI.objs hE hk)) hn
 |makeMap t r=>
  cases r with
  |some r=>exact hk.elim
  |none=>exact Ee rfl (bf hI hk) hn
 |makeSlice t n c=>exact Ee rfl (Wz hI hT (hE n) (hE c) hk) hn
 |slice t x lo hi mx=>
  cases dr with
  |true=>
   cases hp:OM cx.pl.tok dst with
   |none=>
    have hk' : GZ cx dst st.h t (ev st.t x) (Co st.t lo) (Co st.t hi) (Co st.t mx) K:=by
     have IT:(match OM cx.pl.tok dst with
      |none=>GZ cx dst st.h t (ev st.t x) (Co st.t lo) (Co st.t hi) (Co st.t mx) K
      |some _=>QL cx dst st.h t (ev st.t x) lo (Co st.t hi) mx K):=hk
     rw[hp]at IT;exact IT
    exact Ee rfl (XT hI hT hE (hE x) hk') hn
   |some _=>
    have hk' : QL cx dst st.h t (ev st.t x) lo (Co st.t hi) mx K:=by
     have IT:(match OM cx.pl.tok dst with
      |none=>GZ cx dst st.h t (ev st.t x) (Co st.t lo) (Co st.t hi) (Co st.t mx) K
      |some _=>QL cx dst st.h t (ev st.t x) lo (Co st.t hi) mx K):=hk
     rw[hp]at IT;exact IT
    unfold QL at hk';split at hk'
    .exact Ee rfl (gF hI hT hE (hE x) hk') hn
    .exact hk'.elim
  |false=>
   cases hp:OM cx.pl.tok dst with
   |none=>
    have hk' : GZ cx dst st.h t (ev st.t x) (Co st.t lo) (Co st.t hi) (Co st.t mx) K:=by
     have IT:(match OM cx.pl.tok dst with
      |none=>GZ cx dst st.h t (ev st.t x) (Co st.t lo) (Co st.t hi) (Co st.t mx) K
      |some _=>bO cx dst st.h t (ev st.t x) st.t lo hi mx K):=hk
     rw[hp]at IT;exact IT
    exact Ee rfl (XT hI hT hE (hE x) hk') hn
   |some _=>
    have hk' : bO cx dst st.h t (ev st.t x) st.t lo hi mx K:=by
     have IT:(match OM cx.pl.tok dst with
      |none=>GZ cx dst st.h t (ev st.t x) (Co st.t lo) (Co st.t hi) (Co st.t mx) K
      |some _=>bO cx dst st.h t (ev st.t x) st.t lo hi mx K):=hk
     rw[hp]at IT;exact IT
    cases lo with
    |some lo=>exact Ee rfl (bP hI hT hE (hE x) hk') hn
    |none=>
     unfold bO at hk';dsimp only at hk';split at hk'
     .exact Ee rfl (BQ.does hI (iv hI.objs hT (hE x) hk')) hn
     .unfold QL at hk';split at hk'
      .exact Ee rfl (gF hI hT hE (hE x) hk') hn
      .exact hk'.elim
 |fieldAddr s x f=>exact Ee rfl (BQ.does hI (iU hT (hE x) hk)) hn
 |field s x f=>exact Ee rfl (BQ.does hI (cY hT (hE x) hk)) hn
 |indexAddr t x i=>exact Ee rfl (BQ.does hI (Wx hT (hE x) (hE i) hk)) hn
 |index t x i=>exact Ee rfl (BQ.does hI (jk hT (hE x) (hE i) hk)) hn
 |lookup t x i ok=>
  have hk:NW cx.T st.h t (ev st.t x) (ev st.t i) ok fun v=>K v st.h:=by
   cases dr with
   |true=>exact jt hk
   |false=>exact hk
  exact Ee rfl (BQ.does hI (dC hT hI.objs (hE x) (hE i) hk)) hn
 |mapUpdate t m k x=>exact Zs rfl (Ox hI hT (hE m) (hE k) (hE x) hk) hn
 |range t x=>
  simp only at hk;split at hk
  .rename_i kt e ht;exact Ee rfl (ka hI hT ht (hE x) hk) hn
  .exact hk.elim
 |next it s=>
  cases s with
  |true=>exact hk.elim
  |false=>exact Ee rfl (ns hI (hE it) hk) hn
 |entry it=>exact Ee rfl (BQ.does hI (iR hI.objs (hE it) hk)) hn
 |extract x i=>exact Ee rfl (BQ.does hI (ap (hE x) hk)) hn
 |call c=>
  obtain⟨uj,args,Hp⟩:=c;cases uj with
  |builtin b=>exact ZP hT hS hk hn
  |value f=>exact absurd rfl (hv f args Hp)
  |invoke r m=>exact hk.elim
 |_=>exact hk.elim
theorem lc(hP:cx.P=P)(hY:∀l σ h g w,EJ σ=true->D2 w0 g0 h0 h g w->Le h0 g0 w0 h g w->cx.yp l σ (DS σ g) w){ro:Option Nat}(hT:CK P cx.T){next:Act->World->Prop}{Q:Exit->Act->World->Prop}(hS:SR N ds w0 g0 h0 st g a w)(hk:Gf cx dr o st K)(hn:cp w0 g0 h0 st.h g w K fun x w'=>next (a.put o.dst x) w'):o.wpIn (KD ro) 0 P a w next Q:=by
 by_cases hv:∃f args Hp,o.op=.call ⟨.value f,args,Hp⟩
 .obtain⟨f,args,Hp,e⟩:=hv;obtain⟨dst,op,ty,pos,after,gd⟩:=o;cases e;exact ly hP hY hS hk hn
 .refine N1 (fun c e=>?_) (pK hT hS hk (fun f args Hp e=>hv ⟨f,args,Hp,e⟩) hn);obtain⟨dst,op,ty,pos,after,gd⟩:=o;cases e;exact hk.elim
theorem zb{p:Nat->Prop}(h:∃n,p n):∃n,p n/\∀m,m<n->¬p m:=by
 apply AJ;intro hc
 have:∀n,¬p n:=fun n=>by
  induction n using Nat.strongRecOn with
  |_ n ih=>exact fun hp=>hc ⟨n,hp,ih⟩
 obtain⟨n,hn⟩:=h;exact this n hn
theorem TA{m:Nat}{c:Code}{Q:Exit->Act->World->Prop}(I:Nat->Act->World->Prop)(k:Nat)(h0:I k a w)(round:∀n a w,I n a w->c.wpIn F m P (Exit.then (fun a' w'=>∃n',n' < n/\I n' a' w') Q) a w):(Code.loop c).wpIn F m P Q a w:=by
 classical
 have hex:∀a w,(∃n,I n a w)->∃n,I n a w/\∀n',n' < n->¬I n' a w:=fun a w h=>zb h;refine wpIn_loop (fun a w=>∃n,I n a w) (fun a w=>if h:∃n,I n a w then(hex a w h).choose else 0) ⟨k,h0⟩ fun a w h=>?_;have hs:=(hex a w h).choose_spec;refine wpIn_mono (round _ a w hs.1) fun e a' w' q=>?_;cases e with
 |normal=>
  obtain⟨n',DE,hn⟩:=q;have h' : ∃n,I n a' w':=⟨n',hn⟩;refine⟨h',?_⟩;simp only[dif_pos h,dif_pos h'];refine Nat.lt_of_le_of_lt ?_ DE;apply A3;intro hc;exact(hex a' w' h').choose_spec.2 n' hc hn
 |_=>exact q
end
section
variable {P:Program}{N:Nat}{ds:List Deferred}{w0:World}{g0:Gh}{h0:Nat->HO}{st:St}{g:Gh}{a:Act}{w:World}
theorem iD(hT:CK P T){ty e k ty2 b o n c:Nat}(ht:(T ty).d=.slice e)(hk:(T e).size=k+1)(hz:(T e).zc.length=k+1)(Qr:∀v∈(T e).zc,v.oneCell'=true){EI:Array Value}{E:TypeId}(hb:w.heap[b]?=some (.cells EI E (0,0)))(hn:0<n)(Ib:o+n*(k+1)<=EI.size) :
  (Builtin.clear_ #[ty] ty2 #[.slice (some ⟨b,o,none⟩) n c]).run P w=.ok (.tuple #[]) (w.setRow b (over EI.toList o (List.replicate n (T e).zc).flatten).toArray):=by
 obtain⟨z,z1,z2⟩:=X8 (w:=w) hT hk;have uY:(T e).zc≠[]:=fun e0=>by rw[e0]at hz;cases hz
 have uS:(Builtin.zeroCells z.cells n).toList=(List.replicate n (T e).zc).flatten:=by
  rw[IB n _ uY,hz,z2];have e6:z.cells.size=k+1:=by rw[<-hz,z2];simp
  unfold Builtin.zeroCells;simp[e6,Array.getElem!_eq_getD]
 have CP:(List.replicate n (T e).zc).flatten.length=n*(k+1):=by
  rw[Dx (n:=k+1) (fun c hc=>by rw[Ct hc];exact hz),BV]
 have Kh:=run_storeCells_at P b o E (List.replicate n (T e).zc).flatten 0 EI w hb (by rw[CP];simpa using Ib) (fun v hv=>by
  obtain⟨l,hl,hv⟩:=D3.1 hv;rw[Ct hl]at hv;exact Qr v hv)
 simp only[Ia]at Kh;rw[N3 _ _ _ (by rw[CP];simpa using Ib)];obtain⟨m,rfl⟩:∃m,n=m+1:=⟨n-1,by omega⟩;simp only[Builtin.clear_,Sem.run_bind,Gw,Be,run_underlying (hT.slice ht),Result.andThen_ok,z1,uS,Kh,Sem.run_pure]
theorem cN(hT:CK P T){ty e ty2 c:Nat}(ht:(T ty).d=.slice e)(x:Option Addr) :
  (Builtin.clear_ #[ty] ty2 #[.slice x 0 c]).run P w=.ok (.tuple #[]) w:=by
 cases x<;>simp only[Builtin.clear_,Sem.run_bind,Gw,Be,run_underlying (hT.slice ht),Result.andThen_ok,Sem.run_pure]
theorem nY{d:Nat}(hd:d<a.tmps.size):(a.put (some d) x).eval (.tmp d)=x:=by
 show(a.tmps.setIfInBounds d x).getD d undef=x;rw[CI,Array.getElem?_setIfInBounds_self,Ao hd];rfl
theorem mH(h:Nat->HO)(r:Nat):A2 h r (h r)=h:=funext fun i=>by
 by_cases e:i=r
 .subst e;exact Bl ..
 .exact Cb _ _ _ _ e
theorem dz(h:Va o o2=true):∃ty x lo d ty2 pos after vQ rp Yj,o=⟨some d,.slice ty x (some lo) none none,ty2,pos,after,none⟩/\o2=⟨none,.call ⟨.builtin .clear,#[.tmp d],#[ty]⟩,vQ,rp,Yj,none⟩:=by
 obtain⟨dst,op,t2,p1,a1,gd⟩:=o;obtain⟨AgH,op2,t3,p2,a2,gd2⟩:=o2;unfold Va at h;split at h
 .rename_i c e1;split at h
  .rename_i e2;split at h
   .rename_i ty x lo e3;split at h
    .rename_i d d' ty' e4 e5 e6 e7 e8 e9;obtain⟨uj,⟨args⟩,⟨Hp⟩⟩:=c;simp only at e1 e2 e3 e4 e5 e6 e7 e8 e9;simp only[Ag]at h;obtain rfl:=AM h.1;obtain rfl:=AM h.2;subst e1 e2 e3 e4 e5 e6 e7 e8 e9;exact⟨_,_,_,_,_,_,_,_,_,_,rfl,rfl⟩
    .cases h
   .cases h
  .cases h
 .cases h
theorem qa(hT:CK P cx.T){ro:Option Nat}(hd:∀i,o.dst=some i->i<N)(hc:Va o o2=true){K:St->Prop}(hS:SR N ds w0 g0 h0 st g a w)(hk:iF cx o st K){next:Act->World->Prop}{Q:Exit->Act->World->Prop}(hn:∀EA g' a' w',K EA->SR N ds w0 g0 h0 EA g' a' w'->next a' w') :
  o.guard=none/\o2.guard=none/\o.wpIn (KD ro) 0 P a w (fun a1 w1=>o2.wpIn (KD ro) 0 P a1 w1 next Q) Q:=by
 obtain⟨ty,x,lo,d,ty2,pos,after,vQ,rp,Yj,rfl,rfl⟩:=dz hc;refine⟨rfl,rfl,?_⟩;have hI:=hS.inv;have hE:=hS.eval;have hdN:d<a.tmps.size:=by rw[hS.size];exact hd d rfl
 -- what is to be shown of the two operations
 have two:∀(v:Value) (EA : St) (g' : Gh) (w' : World),(Instr.sliceAt ty (a.eval x) (some (a.eval lo)) none none).run P w=.ok v w->(Builtin.clear_ #[ty] vQ #[v]).run P w=.ok (.tuple #[]) w'->K ⟨HT st.t d .junk,EA.h⟩->D2 w0 g0 h0 EA.h g' w'->Le st.h g w EA.h g' w' ->
   Oper.wpIn (KD ro) 0 P ⟨some d,.slice ty x (some lo) none none,ty2,pos,after,none⟩ a w (fun a1 w1=>Oper.wpIn (KD ro) 0 P ⟨none,.call ⟨.builtin .clear,#[.tmp d],#[ty]⟩,vQ,rp,Yj,none⟩ a1 w1 next Q) Q:=by
  intro v EA g' w' r1 r2 hk hI' Ib;refine N1 (by intro c e;cases e) ?_;unfold Oper.wp;have hx:execOp a.eval ⟨some d,.slice ty x (some lo) none none,ty2,pos,after,none⟩=(do pure (Next.value (<-Instr.sliceAt ty (a.eval x) (some (a.eval lo)) none none))):=rfl;rw[hx,Sem.run_bind,r1];refine N1 (by intro c e;cases e) ?_;unfold Oper.wp;have px:execOp (a.put (some d) v).eval ⟨none,.call ⟨.builtin .clear,#[.tmp d],#[ty]⟩,vQ,rp,Yj,none⟩=(do pure (Next.value (<-Builtin.clear_ #[ty] vQ #[v]))):=by
   simp[execOp,resolve,invoke,builtin,nY hdN]
  rw[px,Sem.run_bind,r2];have S1:SR N ds w0 g0 h0 (st.put (some d) .junk st.h) g (a.put (some d) v) w:=hS.put hd hI (.refl _ _ _) (.junk _ _);have S2:SR N ds w0 g0 h0 ((st.put (some d) .junk st.h).put none (.v (.tuple #[])) EA.h) g' ((a.put (some d) v).put none (.tuple #[])) w':=S1.put (by intro i e;cases e) hI' Ib (.v _ _);exact hn _ g' _ w' hk S2
 unfold iF at hk;simp only at hk;split at hk
 .rename_i e hs;split at hk
  .rename_i r n ex;split at hk
   .rename_i i ei;split at hk
    .rename_i sz es er;split at hk
     .rename_i hb;obtain rfl:=AM hb;split at hk
      .exact hk.elim
      .rename_i k ET;split at hk
       .rename_i Oc;have Oc:=AM Oc;obtain⟨⟨rfl,i0,i1⟩,hk⟩:=hk;unfold xG at hk;split at hk
        .rename_i GE;have GE:∀v∈(cx.T e).zc,v.oneCell'=true:=AZ.1 GE;have ho:=hI.objs r;rw[er]at ho;obtain⟨t1,l1,al,a2⟩:=ho;have fS:=hE x;rw[ex]at fS;have hlo:=hE lo;rw[ei]at hlo;have hlo:=hlo.v_eq;generalize hvx:a.eval x=vx at fS two;rw[hlo]at two;cases fS with
         |msl _ _ _ ad cap hu ht' aP ha MM=>
          have hv:=MM l1.symm;have Mh:es.length<=cap:=by
           rcases a2 with ⟨b1,_,_⟩ | ⟨b,L6,E,vs,b1,_,b3,_⟩
           .subst b1;exact AA _
           .rw[b1]at hv;cases hv;exact b3
          have CV:=Fe (P:=P) (w:=w) hT hs ET ad es.length cap (some i) none none (.inl rfl) (by simpa using i0) (by simpa using i1) (by simpa using Mh) B0;simp only[CM,Em,Ch,Ih,Option.map_none]at CV
          by_cases hz:i.toNat=es.length
          .-- nothing is cleared
           have e1:es.length-i.toNat=0:=by omega
           rw[e1]at CV hk;refine two _ st g w CV (cN hT hs _) ?_ hI (.refl _ _ _);have e2:es.take i.toNat++List.replicate 0 ((cx.T e).zc.map AV.v)=es:=by rw[List.replicate_zero,BM,hz,B9]
           rw[e2,<-er,mH]at hk;exact hk
          .have DE:i.toNat<es.length:=by omega
           rcases a2 with ⟨b1,_⟩ | ⟨b,L6,E,vs,b1,b2,b3,b4,b5,b6,b7⟩
           .subst b1;simp at DE
           .rw[b1]at hv;cases hv;have DD:¬cap=i.toNat:=by omega
            rw[Aj DD]at CV;have Acq:Option.map (fun x:Addr=>x.add (i.toNat*(cx.T e).size)) (some ⟨b,0,none⟩)=some ⟨b,i.toNat*(cx.T e).size,none⟩:=by simp[Addr.add];omega
            rw[Acq]at CV;have U2:es.length*(cx.T e).size<=cap*(cx.T e).size:=Bh _ b3;have Ws:i.toNat*(cx.T e).size+(es.length-i.toNat)*(cx.T e).size=es.length*(cx.T e).size:=by rw[<-FE];congr 1;omega
            have hcl:=iD (w:=w) (ty2:=vQ) (c:=cap-i.toNat) hT hs ET (Oc.trans ET) GE b4 (n:=es.length-i.toNat) (o:=i.toNat*(cx.T e).size) ch (by rw[show k+1=(cx.T e).size from ET.symm,Ws,b5];exact U2);have hl:(st.h r).live:=by rw[er];trivial
            generalize hZ:(List.replicate (es.length-i.toNat) (cx.T e).zc).flatten=Z at hcl;have hZl:Z.length=(es.length-i.toNat)*(cx.T e).size:=by
             rw[<-hZ,Dx (n:=(cx.T e).size) (fun c hc=>by rw[Ct hc];exact Oc),BV]
            have MD:(es.take i.toNat++List.replicate (es.length-i.toNat) ((cx.T e).zc.map AV.v)).length=es.length:=by
             rw[Ac,Aw,BV];omega
            have Acr:∀c∈es.take i.toNat++List.replicate (es.length-i.toNat) ((cx.T e).zc.map AV.v),c.length=(cx.T e).size:=fun c hc=>by
             rcases AP.1 hc with h1 | h1
             .exact al c (CT h1)
             .rw[Ct h1,Bb];exact Oc
            have Ado:vs.toList.length=cap*(cx.T e).size:=by rw[BT];exact b5
            have hfl:(es.take i.toNat++List.replicate (es.length-i.toNat) ((cx.T e).zc.map AV.v)).flatten=over es.flatten (i.toNat*(cx.T e).size) (Z.map AV.v):=by
             rw[N3 _ _ _ (by rw[Bb,hZl,Ws,Dx al];exact Ak _),Ci,OU al,Bb,hZl,Ws,Cv (by rw[Dx al];exact Ak _),BM,<-hZ,T9,List.map_replicate]
            have yY:((over vs.toList (i.toNat*(cx.T e).size) Z).toArray.toList.take (es.length*(cx.T e).size))=over (vs.toList.take (es.length*(cx.T e).size)) (i.toNat*(cx.T e).size) Z:=
             XI _ _ _ _ (by rw[hZl,Ws];exact Ak _) (by rw[Ado];exact U2)
            have hZr:CU g w Fx (Z.map AV.v) Z:=CU.vals (by
             have ya : ∀l:List AV,(∀a∈l,one a=true)->Hh l=true:=by
              intro l
              induction l with
              |nil=>intro _;rfl
              |cons a l ih=>intro h;simp[Hh,h a (List.mem_cons_self ..),ih (fun b hb=>h b (List.mem_cons_of_mem _ hb))]
             refine ya _ fun q hq=>?_;obtain⟨y,hy,rfl⟩:=Ai.1 hq;rw[<-hZ]at hy;obtain⟨l,hl,hy⟩:=D3.1 hy;rw[Ct hl]at hy;exact GE y hy)
            have uP:CU g w Fx (over es.flatten (i.toNat*(cx.T e).size) (Z.map AV.v)) (over (vs.toList.take (es.length*(cx.T e).size)) (i.toNat*(cx.T e).size) Z):=
             b6.over hZr _ (by rw[Bb,hZl,Ws,Dx al];exact Ak _)
            obtain⟨k1,k2⟩:=hI.write hl b2 (.arr (cx.T e).size (es.take i.toNat++List.replicate (es.length-i.toNat) ((cx.T e).zc.map AV.v))) b4 (over vs.toList (i.toNat*(cx.T e).size) Z).toArray (g.ln r) (g.own r) g.S B0 rfl (fun b' e=>by rw[b2]at e;cases e;rfl) (fun _ _ h=>h)
             (fun b' o hs=>.inl hs) (fun o hs=>absurd hs (b7 o)) (fun hg IJ ES=>by
              obtain⟨u1,u2,u3,u4⟩:=BI g r (g.ρ r) (g.ln r) (g.tk r) (g.own r) g.S;refine⟨u3.trans t1,u2.trans (by rw[MD];exact l1),Acr,.inr ⟨b,cap,E,_,?_,u4.trans b2,by rw[MD];exact b3,ES,?_,?_,b7⟩⟩
              .rw[u1,b1,MD]
              .simp only[D8,F7,BT];exact b5
              .rw[MD,yY,hfl];exact uP.mono IJ (fun _ h=>h) (fun _ h=>h.elim))
            exact two _ ⟨st.t,_⟩ _ _ CV hcl hk k1 k2
        .exact hk.elim
       .exact hk.elim
     .exact hk.elim
    .exact hk.elim
   .exact hk.elim
  .exact hk.elim
 .exact hk.elim
end
end Go.Eng
