/- Lemmas 13. -/
import Derived.Test.YteaiieomnhbmgaaGreatDoorAA12
namespace Go.Eng
variable {o:Oper}{K:HK}{args:Array Operand}{cx:Cx}{Hw:Array TypeId}{after:Array Edge}{dr:Bool}{pos:String}{x:Value}{F:Fence}{o2:Oper}{T:Ha}
structure SR(N:Nat)(ds:List Deferred)(w0:World)(g0:Gh)(h0:Nat->HO)(st:St)(g:Gh)(a:Act)(w:World):Prop where
 inv:D7 w0 g0 h0 st.h g w
 le:Le h0 g0 w0 st.h g w
 dfs:a.defers=ds
 size:a.tmps.size=N
 slots:∀i,BS g w (AQ st.h) (st.t i) (a.tmps.getD i undef)
section
variable {P:Program}{N:Nat}{ds:List Deferred}{w0:World}{g0:Gh}{h0:Nat->HO}{st:St}{g:Gh}{a:Act}{w:World}
theorem SR.eval(hS:SR N ds w0 g0 h0 st g a w)(x:Operand):BS g w (AQ st.h) (ev st.t x) (a.eval x):=by
 cases x with
 |tmp i=>exact hS.slots i
 |const v=>exact .v _ _
 |global b=>exact .v _ _
 |func f=>exact .v _ _
theorem SR.put(hS:SR N ds w0 g0 h0 st g a w){d:Option Nat}(hd:∀i,d=some i->i<N){v:AV}{x:Value}{h' : Nat->HO}{g' : Gh}{w' : World}(hI:D7 w0 g0 h0 h' g' w')(Ij:Le st.h g w h' g' w')(hr:BS g' w' (AQ h') v x) :
  SR N ds w0 g0 h0 (st.put d v h') g' (a.put d x) w':=by
 have old:∀i,BS g' w' (AQ h') (st.t i) (a.tmps.getD i undef):=fun i=>(hS.slots i).le Ij;cases d with
 |none=>exact⟨hI,hS.le.trans Ij,hS.dfs,hS.size,old⟩
 |some d=>
  have hdN:=hd d rfl;refine⟨hI,hS.le.trans Ij,hS.dfs,by simp[Act.put,hS.size],fun i=>?_⟩;simp only[St.put,Act.put,HZ]
  by_cases e:i=d
  .subst e
   have:i<a.tmps.size:=by rw[hS.size];exact hdN
   simp only[Dq,KT];rw[CG,Array.getElem?_setIfInBounds_self,Al this];exact hr
  .simp only[Df e,Ey];rw[CG,Array.getElem?_setIfInBounds_ne (Ne.symm e),<-CG];exact old i
def cz(w0:World)(g0:Gh)(h0 h:Nat->HO)(g:Gh)(w:World)(K:HK)(next:Value->World->Prop):Prop:=
 ∀v h' g' w' x,K v h'->D7 w0 g0 h0 h' g' w'->Le h g w h' g' w'->BS g' w' (AQ h') v x->next x w'
theorem Ej{m:Sem Value}{next:Act->World->Prop}{Q:Exit->Act->World->Prop}(hx:execOp a.eval o=(do pure (Next.value (<-m))))(hd:OM P w0 g0 h0 st.h g w m K)(hn:cz w0 g0 h0 st.h g w K fun x w'=>next (a.put o.dst x) w'):o.wp P a w next Q:=by
 obtain⟨x,w',g',av,h',h1,h2,h3,h4,h5⟩:=hd;unfold Oper.wp;rw[hx,Sem.run_bind,h1];exact hn av h' g' w' x h2 h3 h4 h5
theorem Zz{m:Sem Unit}{next:Act->World->Prop}{Q:Exit->Act->World->Prop}(hx:execOp a.eval o=(do m;pure Next.skip))(hd:kT P w0 g0 h0 st.h g w m K)(hn:cz w0 g0 h0 st.h g w K fun x w'=>next (a.put o.dst x) w'):o.wp P a w next Q:=by
 obtain⟨w',g',h',h1,h2,h3,h4⟩:=hd;unfold Oper.wp;rw[hx,Sem.run_bind,h1];exact hn _ h' g' w' undef h2 h3 h4 (.v _ _)
theorem gY{next:Act->World->Prop}{Q:Exit->Act->World->Prop}{v:AV}(hI:D7 w0 g0 h0 st.h g w)(hx:(execOp a.eval o).run P w=.ok (.value x) w)(hk:K v st.h)(hr:BS g w (AQ st.h) v x)(hn:cz w0 g0 h0 st.h g w K fun x w'=>next (a.put o.dst x) w'):o.wp P a w next Q:=by
 unfold Oper.wp;rw[hx];exact hn _ _ _ _ _ hk hI (.refl _ _ _) hr
theorem Ut{C:(Ending->World->Prop)->Prop}(hm:∀{R R' : Ending->World->Prop},C R->(∀e w,R e w->R' e w)->C R')(hI:D7 w0 g0 h0 st.h g w){Q:AV->(Nat->HO)->Prop}
  (hc:D7 w g Ae Ae g w->C (fun e w'=>∃v r h' g',e=Ending.returned v/\Q r h'/\BS g' w' (AQ h') r v/\D7 w g Ae h' g' w'/\Le Ae g w h' g' w')) {R:Ending->World->Prop}
  (hR:∀v r h' g' w',Q r h'->h'=Ae->D7 w0 g0 h0 st.h g' w'->Le st.h g w st.h g' w'->BS g' w' FK r v->R (.returned v) w') (hQ:∀r h',Q r h'->h'=Ae):C R:=by
 have hU:AQ Ae=FK:=by funext i;unfold AQ FK Ae;simp
 have qw:D7 w g Ae Ae g w:=⟨rfl,rfl,rfl,Ak _,fun _ _ _=>rfl,hI.slt,fun _=>trivial,fun _ _ _ h=>h.elim,fun _ _ h=>h.elim,fun _ _ h=>.inl h,hI.glob⟩;refine hm (hc qw) ?_
 rintro e w' ⟨v,r,h',g',rfl,q1,q2,q3,q4⟩
 obtain rfl:=hQ r h' q1;rw[hU]at q2
 -- the caller's ghost,with the callee's stable cells
 have hk:ET g w ⟨g.ρ,g.ln,g.tk,g.own,g'.S⟩ w':=q4.keeps;have hg:K9 g ⟨g.ρ,g.ln,g.tk,g.own,g'.S⟩ (AQ st.h):=fun _ _=>⟨rfl,Ak _,fun _=>rfl,fun _=>rfl⟩;have kO:∀b,b<w.heap.size->w'.heap[b]?=w.heap[b]?:=fun b hb=>q3.frame b hb (fun _ h=>h.elim);have hSs:∀b o,g'.S b o->b<w.heap.size->g.S b o:=fun b o hs hb=>by
  rcases q3.sg b o hs with h1 | h1 | ⟨_,h1,_⟩
  .exact h1
  .omega
  .exact h1.elim
 refine hR v r Ae ⟨g.ρ,g.ln,g.tk,g.own,g'.S⟩ w' q1 rfl ⟨q3.os.trans hI.os,q3.tape.trans hI.tape,q3.output.trans hI.output,AI hI.size q3.size,fun b hb hn=>?_,q3.slt,fun i=>?_,hI.inj,fun i b hl ho=>?_,fun b o hs=>?_,hI.glob.keep hk⟩ ⟨hg,fun _ h=>h,hk⟩ ?_
 .exact(kO b (BC hb hI.size)).trans (hI.frame b hb hn)
 .refine(hI.objs i).same hk (fun _ h=>h) hg rfl rfl rfl rfl (fun b hl ho=>?_);have Du:=(hI.loc i b hl ho).1;exact⟨kO b Du,fun k hs=>hSs b k hs Du⟩
 .obtain⟨h1,h2⟩:=hI.loc i b hl ho;exact⟨BC h1 q3.size,h2⟩
 .rcases q3.sg b o hs with h1 | h1 | ⟨_,h1,_⟩
  .exact hI.sg b o h1
  .exact .inr (.inl (AI hI.size h1))
  .exact h1.elim
 .have:ET g' w' ⟨g.ρ,g.ln,g.tk,g.own,g'.S⟩ w':=fun b o h=>⟨h,rfl,fun _ _ h=>h⟩
  exact q2.mono this (fun _ h=>h) (fun _ h=>h.elim)
theorem iA(hI:D7 w0 g0 h0 st.h g w){f:Nat}{args:List AV}{Q:AV->(Nat->HO)->Prop}(hc:Ba P f args Ae Q){vals:Array Value}(hs:vals.size=args.length)
  (hv:∀(i:Nat) (av:AV) (x:Value),args[i]?=some av->vals[i]?=some x->BS g w FK av x) {R:Ending->World->Prop}
  (hR:∀v r h' g' w',Q r h'->h'=Ae->D7 w0 g0 h0 st.h g' w'->Le st.h g w st.h g' w'->BS g' w' FK r v->R (.returned v) w') (hQ:∀r h',Q r h'->h'=Ae):Calls P f vals w R:=
 have hU:AQ Ae=FK:=by funext i;unfold AQ FK Ae;simp
 Ut (C:=Calls P f vals w) (fun h k=>h.mono k) hI (hc.2 g w vals hs (fun i av x h1 h2=>by rw[hU];exact hv i av x h1 h2)) hR hQ
theorem YieldAt.imp{m:Nat}{P:Program}{l:Nat}{args:Array Value}{W:World}{R R' : Ending->World->Prop}(h:YieldAt F m P l args W R)(hr:∀e w,R e w->R' e w):YieldAt F m P l args W R':=
 let ⟨fn,t,a,b,h1,h2⟩:=h
 ⟨fn,t,a,b,h1,h2.mono hr⟩
theorem JF.imp{Y:Gh->World->Prop}{l:Nat}{args:List AV}{h0:Nat->HO}{Q Q' : AV->(Nat->HO)->Prop}(h:JF P Y l args h0 Q)(hq:∀r h',Q r h'->Q' r h'):JF P Y l args h0 Q':=
 fun g w vals q1 q2 q3 q4=>YieldAt.imp (h g w vals q1 q2 q3 q4) fun _ _ ⟨v,r,h',g',e1,e2,rest⟩=>⟨v,r,h',g',e1,hq _ _ e2,rest⟩
theorem GI.imp{Y:Nat->Gh->World->Prop}{F:AV}{args:List AV}{h0:Nat->HO}{Q Q' : AV->(Nat->HO)->Prop}(h:GI P Y F args h0 Q)(hq:∀r h',Q r h'->Q' r h'):GI P Y F args h0 Q':=by
 have one:∀{f:Nat} {l:List AV},Ba P f l h0 Q->Ba P f l h0 Q':=fun hc=>
  ⟨hc.1,fun g w vals q1 q2 q3=>(hc.2 g w vals q1 q2 q3).mono fun _ _ ⟨v,r,h',g',e1,e2,rest⟩=>⟨v,r,h',g',e1,hq _ _ e2,rest⟩⟩
 unfold GI at h⊢;split at h
 .exact one h
 .exact one h
 .exact JF.imp h hq
 .exact h.elim
abbrev KK(ro:Option Nat):Fence:={ Fence.wide with round:=ro }
theorem N2{ro:Option Nat}{a:Act}{w:World}{next:Act->World->Prop}{Q:Exit->Act->World->Prop}(hd:∀c,o.op≠.defer c)(h:o.wp P a w next Q):o.wpIn (KK ro) 0 P a w next Q:=by
 refine⟨fun _ _=>trivial,?_⟩;have e:o.semAt (KK ro).round a.eval=execOp a.eval o:=Oper.semAt_eq ro a.eval o hd;rw[e];unfold Oper.wp at h;have key:∀res:Result Next,o.upon P a next Q res->o.uponIn (KK ro) 0 P a next Q res:=fun res h=>by
  cases res with
  |ok n w'=>cases n with
   |enter f args=>exact(show(_->_)/\CallsIn (KK ro) 0 P f args w' _ from⟨fun e=>by(cases e),callsIn_wide.2 h⟩)
   |row r args=>exact(show(_->_)/\RowsIn (KK ro) 0 P r args w' _ from⟨fun e=>by(cases e),fun c cs _=>by
     obtain⟨v,gS,r',s⟩:=h c cs;exact⟨v,gS,r',stepsIn_wide.2 s⟩⟩)
   |round _ _ _ _ _=>exact h.elim
   |_=>exact h
  |halt x w'=>cases x<;>exact h
 exact key _ h
theorem Hi{f:Nat}{args:Array Value}(h:F6 P f)(w:World):(callFunc f args).run P w=.ok (.enter f args) w:=by
 obtain⟨fn,h1,h2,h3⟩:=h;simp only[callFunc,Sem.run_bind,run_program,h1,Result.andThen_ok,h2,h3,Dp,GB,Sem.run_pure]
theorem VM{h:Nat->HO}{a:AV}(ha:gp a=true):ren (CF []) h a=str h a:=by
 have h0:∀a,ren0 (CF []) h a=str0 h a:=fun a=>by
  cases a with
  |slice tk es=>cases tk<;>rfl
  |_=>rfl
 cases a with
 |tup cs=>cases ha
 |agg cs=>show AV.agg _=AV.agg _;exact Aa _ (Bi fun c _=>h0 c)
 |clo f cs=>show AV.clo f _=AV.clo f _;exact Aa _ (Bi fun c _=>h0 c)
 |v x=>exact h0 (.v x)
 |slice tk es=>exact h0 (.slice tk es)
 |msl r n=>exact h0 (.msl r n)
 |cptr cs=>exact h0 (.cptr cs)
 |ref r o=>exact h0 (.ref r o)
 |eref r n sz i o=>exact h0 (.eref r n sz i o)
 |mref r=>exact h0 (.mref r)
 |cmap sh l=>exact h0 (.cmap sh l)
 |junk=>rfl
theorem RX{h:Nat->HO}:∀{l:List AV},Vw l=true->l.map (ren (CF []) h)=l.map (str h)
 | [],_=>rfl
 |a::l,e=>by
  unfold Vw at e;split at e
  .rename_i e1;rw[AK,AK,VM e1,RX e]
  .cases e
theorem So:∀{l:List AV} {vs:List Value},Yb l=some vs->l=vs.map .v
 | [],vs,h=>by cases h;rfl
 |.v x::r,vs,h=>by
  unfold Yb at h;split at h
  .rename_i l e;cases h;rw[AK,<-So e]
  .cases h
theorem iz{d:Option Nat}{st:St}{F:AV}{args:List AV}(hk:GW cx true d st F args K):GW cx false d st F args K:=by
 unfold GW at hk;simp only at hk;split at hk
 .exact⟨.pure,hk⟩
 .split at hk
  .exact hk.elim
  .rename_i d _;obtain⟨n,sz,es,h1,h2,h3⟩:=hk;simp only[Af]at h1;refine⟨.gen [] 1,?_⟩;show(EO []&&D4 st.h d 1&&DI [] d 1)=true/\_;refine⟨by simp[EO,DI,h1.1.1],?_⟩;rw[VM h1.1.2,RX h1.2];show GI cx.P (fun l=>cx.yp l []) _ _ Ae _;refine GI.imp h2 ?_
   rintro r h' ⟨e2,e3⟩
   subst e2;subst e3;have e1:ren (FF [] d 1) (Ap [(2000,.arr sz es)] Ae) (.msl 2000 n)=.msl (BF d 0) n:=rfl;have e2:EA [] d 1 st.h (Ap [(2000,.arr sz es)] Ae)=A1 st.h (BF d 0) (.arr sz es):=by
    funext i
    by_cases e:i=BF d 0
    .subst e;rw[Bl];have hb:(Nat.ble (BF d 0) (BF d 0)&&Nat.blt (BF d 0) (BF d 1))=true:=by
      unfold BF;simp only[Af,Dt,Cv];omega
     simp only[EA,CF,hb,Ff];rfl
    .rw[Ca _ _ _ _ e]
     have:(Nat.ble (BF d 0) i&&Nat.blt i (BF d 1))=false:=by
      unfold BF at e⊢;rw[AM];simp only[XM,Af,Dt,Cv];omega
     simp only[EA,CF,this]
   rw[e1,e2];exact h3
 .split at hk
  .unfold Wc at hk;split at hk
   .exact hk.elim
   .rename_i d _;obtain⟨sz,es,h1,h2,h3⟩:=hk;simp only[Af]at h1;refine⟨.gen [] 1,?_⟩;show(EO []&&D4 st.h d 1&&DI [] d 1)=true/\_;refine⟨by simp[EO,DI,h1.1.1],?_⟩;rw[VM h1.1.2,RX h1.2];show GI cx.P (fun l=>cx.yp l []) _ _ Ae _;refine GI.imp h2 ?_
    rintro r h' ⟨e2,e3⟩
    subst e2;subst e3;have e1:ren (FF [] d 1) (Ap [(2000,.tok sz es.length)] Ae) (.slice (.id 2000 sz) es)=.slice (.id (BF d 0) sz) es:=rfl;have e2:EA [] d 1 st.h (Ap [(2000,.tok sz es.length)] Ae)=A1 st.h (BF d 0) (.tok sz es.length):=by
     funext i
     by_cases e:i=BF d 0
     .subst e;rw[Bl];have hb:(Nat.ble (BF d 0) (BF d 0)&&Nat.blt (BF d 0) (BF d 1))=true:=by
       unfold BF;simp only[Af,Dt,Cv];omega
      simp only[EA,CF,hb,Ff];rfl
     .rw[Ca _ _ _ _ e]
      have:(Nat.ble (BF d 0) i&&Nat.blt i (BF d 1))=false:=by
       unfold BF at e⊢;rw[AM];simp only[XM,Af,Dt,Cv];omega
      simp only[EA,CF,this]
    rw[e1,e2];exact h3
  split at hk
  .unfold Sp at hk;split at hk
   .rename_i d l vs e2 z1;have hl:=So e2;split at hk
    .rename_i r sz es gN n e3 e4;obtain⟨⟨rfl,rfl⟩,v,F5,n',h1,h2⟩:=hk;refine⟨.gen [(1000,1000),(1001,1001)] 0,?_⟩;show(EO [(1000,1000),(1001,1001)]&&D4 st.h d 0&&DI [(1000,1000),(1001,1001)] d 0)=true/\_;refine⟨?_,?_⟩
     .have:DI [(1000,1000),(1001,1001)] d 0=true:=by
       have q:∀r:Nat,(Nat.ble (BF d 0) r&&Nat.blt r (BF d 0))=false:=fun r=>by
        rw[AM];simp only[XM,Af,Dt,Cv];omega
       simp only[DI,q,Bool.not_false,Bool.and_self]
      rw[this];rfl
     have f1:args.map (ren (CF [(1000,1000),(1001,1001)]) st.h)=vs.map .v:=by rw[hl,Bs];rfl
     have f2:F4 [(1000,1000),(1001,1001)] st.h=Ap [(1000,.cells [.slice (.id 1001 gN) es]),(1001,.tok gN n)] Ae:=by
      unfold F4 Zj Zj Zj;rw[e3,e4];rfl
     rw[f1,f2];refine JF.imp h1 ?_
     rintro r h' ⟨g1,g2⟩
     subst g1;subst g2;have f3:EA [(1000,1000),(1001,1001)] d 0 st.h (Ap [(1000,.cells [.slice (.id 1001 gN) F5]),(1001,.tok gN n')] Ae)=A1 (A1 st.h 1001 (.tok gN n')) 1000 (.cells [.slice (.id 1001 gN) F5]):=by
      funext i
      by_cases e:i=1000
      .subst e;rw[Bl];rfl
      .rw[Ca _ _ _ _ e]
       by_cases e' : i=1001
       .subst e';rw[Bl];rfl
       .rw[Ca _ _ _ _ e'];have hn:CF [(1000,1000),(1001,1001)] i=none:=by simp[CF,Df (Ne.symm e),Df (Ne.symm e')]
        have:(Nat.ble (BF d 0) i&&Nat.blt i (BF d 0))=false:=by
         rw[AM];simp only[XM,Af,Dt,Cv];omega
        simp only[EA,hn,this]
     rw[f3];exact h2
    .exact hk.elim
   .exact hk.elim
  unfold QU at hk;split at hk
  .unfold aM at hk;split at hk
   .rename_i d f _;obtain⟨σ,H0,Hn,args',res,g1,g2,g3,g4⟩:=hk;simp only[Af]at g2;obtain⟨k1,k2⟩:=g1 st.h fun _ _=>rfl;refine⟨.gen σ 0,?_⟩;show(EO σ&&D4 st.h d 0&&DI σ d 0)=true/\_;refine⟨by rw[g2.1.1,g2.1.2];rfl,?_⟩;rw[k1,k2];refine GI.imp (show GI cx.P (fun l=>cx.yp l σ) (.v (.func (.func f) ⟨[]⟩ ⟨[]⟩)) args' (Ap H0 Ae) (fun r h'=>r=res/\h'=Ap Hn Ae)from g3) ?_
    rintro r h' ⟨e1,e2⟩
    rw[e1,e2];exact g4
   .exact hk.elim
  unfold Tj at hk;split at hk
  .rename_i dd f r n l _;split at hk
   .rename_i vs dI;have hl:=So dI;subst hl;split at hk
    .rename_i sz es hr;have hf:CF [(r,1000)] r=some 1000:=by simp[CF]
     have e1:ren (CF [(r,1000)]) st.h (.v (.func (.func f) ⟨[]⟩ ⟨[]⟩))=.v (.func (.func f) ⟨[]⟩ ⟨[]⟩):=rfl;have e2:(AV.msl r n::vs.map AV.v).map (ren (CF [(r,1000)]) st.h)=.msl 1000 n::vs.map .v:=by
      rw[AK]
      congr 1
      .simp[ren,ren1,ren0,hf]
      .rw[Bs];rfl
     have e3:F4 [(r,1000)] st.h=Ap [(1000,.arr sz es)] Ae:=by
      unfold F4 Zj;rw[hr];rfl
     split at hk
     .obtain⟨n',F5,h1,h2⟩:=hk;refine⟨.gen [(r,1000)] 0,?_⟩;show(EO [(r,1000)]&&D4 st.h dd 0&&DI [(r,1000)] dd 0)=true/\_;refine⟨?_,?_⟩
      .have:DI [(r,1000)] dd 0=true:=by
        unfold DI
        have:(Nat.ble (BF dd 0) r&&Nat.blt r (BF dd 0))=false:=by
         rw[AM];simp only[XM,Af,Dt,Cv];omega
        rw[this];rfl
       rw[this];rfl
      rw[e1,e2,e3];refine⟨h1.1,fun g w vals q1 q2 q3=>(h1.2 g w vals q1 q2 q3).mono fun _ _ ⟨v,r',h',g',e1,⟨e2,e3⟩,rest⟩=>⟨v,r',h',g',e1,?_,rest⟩⟩;subst e2;subst e3;have f1:ren (FF [(r,1000)] dd 0) (Ap [(1000,.arr sz F5)] Ae) (.msl 1000 n')=.msl r n':=rfl;have f2:EA [(r,1000)] dd 0 st.h (Ap [(1000,.arr sz F5)] Ae)=A1 st.h r (.arr sz F5):=by
       funext i
       by_cases e:i=r
       .subst e;rw[Bl];simp[EA,hf,Ap,HO.ren]
       .rw[Ca _ _ _ _ e];have hn:CF [(r,1000)] i=none:=by simp[CF,Df (Ne.symm e)]
        have:(Nat.ble (BF dd 0) i&&Nat.blt i (BF dd 0))=false:=by
         rw[AM];simp only[XM,Af,Dt,Cv];omega
        simp only[EA,hn,this]
      rw[f1,f2];exact h2
     .obtain⟨n',F5,h0,h1,h2⟩:=hk;simp only[Af,Cv,CH]at h0;have hrd:r≠BF dd 0:=fun e=>by have:=h0.2;rw[e]at this;simp at this
      refine⟨.gen [(r,1000)] 1,?_⟩;show(EO [(r,1000)]&&D4 st.h dd 1&&DI [(r,1000)] dd 1)=true/\_;refine⟨?_,?_⟩
      .have:DI [(r,1000)] dd 1=true:=by
        unfold DI
        have:(Nat.ble (BF dd 0) r&&Nat.blt r (BF dd 1))=false:=by
         rw[AM];simp only[XM,Af,Dt,Cv];unfold BF at hrd⊢;omega
        rw[this];rfl
       rw[this,h0.1.1];rfl
      rw[e1,e2,e3];refine⟨h1.1,fun g w vals q1 q2 q3=>(h1.2 g w vals q1 q2 q3).mono fun _ _ ⟨v,r',h',g',e1,⟨e2,e3⟩,rest⟩=>⟨v,r',h',g',e1,?_,rest⟩⟩;subst e2;subst e3;have f1:ren (FF [(r,1000)] dd 1) (Ap [(1000,.dead),(2000,.arr sz F5)] Ae) (.msl 2000 n')=.msl (BF dd 0) n':=rfl;have f2:EA [(r,1000)] dd 1 st.h (Ap [(1000,.dead),(2000,.arr sz F5)] Ae)=A1 (A1 st.h r .dead) (BF dd 0) (.arr sz F5):=by
       funext i
       by_cases e:i=BF dd 0
       .subst e;rw[Bl];have hn:CF [(r,1000)] (BF dd 0)=none:=by simp[CF,Df hrd]
        have hb:(Nat.ble (BF dd 0) (BF dd 0)&&Nat.blt (BF dd 0) (BF dd 1))=true:=by
         unfold BF;simp only[Af,Dt,Cv];omega
        simp only[EA,hn,hb,Ff];rfl
       .rw[Ca _ _ _ _ e]
        by_cases e4:i=r
        .subst e4;rw[Bl];simp[EA,hf,Ap,HO.ren]
        .rw[Ca _ _ _ _ e4];have hn:CF [(r,1000)] i=none:=by simp[CF,Df (Ne.symm e4)]
         have:(Nat.ble (BF dd 0) i&&Nat.blt i (BF dd 1))=false:=by
          rw[AM];simp only[XM,Af,Dt,Cv];unfold BF at e⊢;omega
         simp only[EA,hn,this]
      rw[f1,f2];exact h2
    .exact hk.elim
   .exact hk.elim
  .exact hk.elim
theorem lA{d:Option Nat}{f:Operand}{dst:Option Nat}{ty:Nat}{gd:Option (Nat×Bool)}{next:Act->World->Prop}{Q:Exit->Act->World->Prop}(hP:cx.P=P)(hY:∀l σ h g w,EO σ=true->D7 w0 g0 h0 h g w->Le h0 g0 w0 h g w->cx.yp l σ (DX σ g) w){ro:Option Nat}(hS:SR N ds w0 g0 h0 st g a w)(hk:GW cx dr d st (ev st.t f) (args.toList.map (ev st.t)) K)(hn:cz w0 g0 h0 st.h g w K fun x w'=>next (a.put dst x) w'):Oper.wpIn (KK ro) 0 P ⟨dst,.call ⟨.value f,args,Hw⟩,ty,pos,after,gd⟩ a w next Q:=by
 subst hP;have hk:GW cx false d st (ev st.t f) (args.toList.map (ev st.t)) K:=by
  cases dr with
  |true=>exact iz hk
  |false=>exact hk
 have Kj:∀(i:Nat) (av:AV) (x:Value),((args.toList.map (ev st.t)).map (str st.h))[i]?=some av->(args.map a.eval)[i]?=some x->BS g w FK av x:=by
  intro i av x h1 h2;rw[AG,AG]at h1;rw[Pz]at h2;cases ho:args[i]? with
  |none=>rw[ho]at h2;simp at h2
  |some y=>
   rw[ho]at h2;have hy:args.toList[i]?=some y:=by simpa using ho
   rw[hy]at h1;simp only[Ip,BB]at h1 h2;subst h1;subst h2;exact BS.str hS.inv.objs (hS.eval y)
 have CQ:(args.map a.eval).size=((args.toList.map (ev st.t)).map (str st.h)).length:=by simp
 have hF:=BS.str hS.inv.objs (hS.eval f)
 -- a call of yield
 have yl:∀(l:Nat) (R:Ending->World->Prop),a.eval f=.func (.yield l) #[] #[]->YieldAt Fence.wide 0 cx.P l (args.map a.eval) w R->(∀e w',R e w'->∃v,e=.returned v/\next (a.put dst v) w') ->
   Oper.wpIn (KK ro) 0 cx.P ⟨dst,.call ⟨.value f,args,Hw⟩,ty,pos,after,gd⟩ a w next Q:=by
  rintro l R hx ⟨fn,tm,Hl,bd,h1,h2⟩ hR
  refine⟨fun _ _=>trivial,?_⟩;have e:(⟨dst,.call ⟨.value f,args,Hw⟩,ty,pos,after,gd⟩:Oper).semAt (KK ro).round a.eval=execOp a.eval ⟨dst,.call ⟨.value f,args,Hw⟩,ty,pos,after,gd⟩:=Oper.semAt_eq ro a.eval _ (fun c e=>by cases e);have C3:(execOp a.eval ⟨dst,.call ⟨.value f,args,Hw⟩,ty,pos,after,gd⟩).run cx.P w=.ok (.round l fn tm Hl bd) w:=by
   simp only[execOp,resolve,hx,Deferred.ofValue,Sem.run_bind,Sem.run_pure,Result.andThen_ok,invoke];simpa using h1
  rw[e,C3];refine(show(_->_)/\RoundIn (KK ro) 0 cx.P l fn tm Hl bd w _ from⟨fun e=>by(cases e),RoundIn.mono h2 fun e w' h=>?_⟩);obtain⟨v,rfl,hn⟩:=hR e w' h;exact hn
 -- the call itself
 have go:∀(Q' : AV->(Nat->HO)->Prop),(∀r h',Q' r h'->h'=Ae/\K r st.h)->GI cx.P (fun _ _ _=>True) (str st.h (ev st.t f)) ((args.toList.map (ev st.t)).map (str st.h)) Ae Q' ->
   Oper.wpIn (KK ro) 0 cx.P ⟨dst,.call ⟨.value f,args,Hw⟩,ty,pos,after,gd⟩ a w next Q:=by
  intro Q' hQ hc
  have fin:∀{fn:Nat} {l:List AV} {vals:Array Value},Ba cx.P fn l Ae Q'->vals.size=l.length->(∀(i:Nat) (av:AV) (x:Value),l[i]?=some av->vals[i]?=some x->BS g w FK av x) ->
    (execOp a.eval ⟨dst,.call ⟨.value f,args,Hw⟩,ty,pos,after,gd⟩).run cx.P w=.ok (.enter fn vals) w->Oper.wpIn (KK ro) 0 cx.P ⟨dst,.call ⟨.value f,args,Hw⟩,ty,pos,after,gd⟩ a w next Q:=by
   intro fn l vals hc hs hv C3;refine N2 (fun c e=>by cases e) ?_;unfold Oper.wp;rw[C3];exact iA hS.inv hc hs hv (fun v r h' g' w' hq _ hI Ij hr=>hn r _ g' w' v (hQ r h' hq).2 hI Ij (hr.up _)) (fun r h' hq=>(hQ r h' hq).1)
  unfold GI at hc;split at hc
  .rename_i fn e;rw[e]at hF;have hx:=hF.v_eq;refine fin hc CQ Kj ?_;have MS : a.eval f=.func (.func fn) #[] #[]:=hx;simp only[execOp,resolve,MS,Deferred.ofValue,Sem.run_bind,Sem.run_pure,Result.andThen_ok,invoke];rw[Hi hc.1];simp
  .rename_i fn caps e;rw[e]at hF;generalize hx:a.eval f=fv at hF;cases hF with
   |clo _ _ _ vs EZ Mm=>
    refine fin hc (vals:=args.map a.eval++vs) (by simp[EZ]) (fun i av x h1 h2=>?_) ?_
    .rw[M1]at h1;rw[IK]at h2;have hl:((args.toList.map (ev st.t)).map (str st.h)).length=(args.map a.eval).size:=CQ.symm;rw[hl]at h1;split at h1
     .rename_i hi;rw[Al hi]at h2;exact Kj i av x h1 h2
     .rename_i hi;rw[Aj hi]at h2;exact Mm _ av x h1 h2
    .simp only[execOp,resolve,hx,Deferred.ofValue,Sem.run_bind,Sem.run_pure,Result.andThen_ok,invoke];rw[Hi hc.1];simp
  .rename_i l e;rw[e]at hF;have hU:AQ Ae=FK:=by funext i;unfold AQ FK Ae;simp
   refine yl l _ hF.v_eq (Ut (C:=YieldAt Fence.wide 0 cx.P l (args.map a.eval) w) (R:=fun e w'=>∃v,e=.returned v/\next (a.put dst v) w') YieldAt.imp hS.inv (fun qw=>hc g w _ CQ (fun i av x h1 h2=>by rw[hU];exact Kj i av x h1 h2) qw trivial)
    (fun v r h' g' w' hq _ hI Ij hr=>⟨v,rfl,hn r _ g' w' v (hQ r h' hq).2 hI Ij (hr.up _)⟩) (fun r h' hq=>(hQ r h' hq).1)) fun _ _ h=>h
  .exact hc.elim
 have pure:(∃res,Rk cx.P (str st.h (ev st.t f)) ((args.toList.map (ev st.t)).map (str st.h)) res/\K res st.h)->Oper.wpIn (KK ro) 0 cx.P ⟨dst,.call ⟨.value f,args,Hw⟩,ty,pos,after,gd⟩ a w next Q:=by
  rintro⟨res,h1,h2⟩
  refine go (fun r h'=>r=res/\h'=Ae) (fun r h' hq=>⟨hq.2,by rw[hq.1];exact h2⟩) ?_;unfold Rk at h1;unfold GI;split at h1
  .rename_i fn e;rw[e];exact h1
  .rename_i fn caps e;rw[e];exact h1
  .exact h1.elim
 unfold GW at hk
 .obtain⟨m,hm⟩:=hk;cases m with
  |pure=>exact pure hm
  |rel=>exact go _ (fun r h' hq=>hq) hm
  |gen σ nn=>
   simp only at hm;cases d with
   |none=>exact hm.elim
   |some d=>
    simp only at hm;obtain⟨GM,hc⟩:=hm;have hσ:EO σ=true:=by simp only[Af]at GM;exact GM.1.1
    obtain⟨hR,_⟩:=YW hS.inv hσ;have mo:=(hS.eval f).ren hR;have UU:∀(i:Nat) (av:AV) (x:Value),((args.toList.map (ev st.t)).map (ren (CF σ) st.h))[i]?=some av->(args.map a.eval)[i]?=some x->BS (DX σ g) w (AQ (F4 σ st.h)) av x:=by
     intro i av x h1 h2;rw[AG,AG]at h1;rw[Pz]at h2;cases ho:args[i]? with
     |none=>rw[ho]at h2;simp at h2
     |some y=>
      rw[ho]at h2;have hy:args.toList[i]?=some y:=by simpa using ho
      rw[hy]at h1;simp only[Ip,BB]at h1 h2;subst h1;subst h2;exact(hS.eval y).ren hR
    have MK:(args.map a.eval).size=((args.toList.map (ev st.t)).map (ren (CF σ) st.h)).length:=by simp
    have fin:∀{fn:Nat} {l:List AV} {vals:Array Value},Ba cx.P fn l (F4 σ st.h) (fun r h'=>K (ren (FF σ d nn) h' r) (EA σ d nn st.h h'))->vals.size=l.length ->
      (∀(i:Nat) (av:AV) (x:Value),l[i]?=some av->vals[i]?=some x->BS (DX σ g) w (AQ (F4 σ st.h)) av x) ->
      (execOp a.eval ⟨dst,.call ⟨.value f,args,Hw⟩,ty,pos,after,gd⟩).run cx.P w=.ok (.enter fn vals) w->Oper.wpIn (KK ro) 0 cx.P ⟨dst,.call ⟨.value f,args,Hw⟩,ty,pos,after,gd⟩ a w next Q:=by
     intro fn l vals hc hs hv C3;refine N2 (fun c e=>by cases e) ?_;unfold Oper.wp;rw[C3];exact lB hS.inv GM hc hs hv (fun v r h' g' w' hq hI Ij hr=>hn _ _ g' w' v hq hI Ij hr)
    unfold GI at hc;split at hc
    .rename_i fn e;rw[e]at mo;have hx:a.eval f=.func (.func fn) #[] #[]:=mo.v_eq;refine fin hc MK UU ?_;simp only[execOp,resolve,hx,Deferred.ofValue,Sem.run_bind,Sem.run_pure,Result.andThen_ok,invoke];rw[Hi hc.1];simp
    .rename_i fn caps e;rw[e]at mo;generalize hx:a.eval f=fv at mo;cases mo with
     |clo _ _ _ vs EZ Mm=>
      refine fin hc (vals:=args.map a.eval++vs) (by simp[EZ]) (fun i av x h1 h2=>?_) ?_
      .rw[M1]at h1;rw[IK]at h2;have hl:((args.toList.map (ev st.t)).map (ren (CF σ) st.h)).length=(args.map a.eval).size:=MK.symm;rw[hl]at h1;split at h1
       .rename_i hi;rw[Al hi]at h2;exact UU i av x h1 h2
       .rename_i hi;rw[Aj hi]at h2;exact Mm _ av x h1 h2
      .simp only[execOp,resolve,hx,Deferred.ofValue,Sem.run_bind,Sem.run_pure,Result.andThen_ok,invoke];rw[Hi hc.1];simp
    .rename_i l e;rw[e]at mo
     exact yl l _ mo.v_eq (NM (C:=YieldAt Fence.wide 0 cx.P l (args.map a.eval) w) (R:=fun e w'=>∃v,e=.returned v/\next (a.put dst v) w') YieldAt.imp hS.inv GM (fun qw=>hc (DX σ g) w _ MK UU qw (hY l σ _ _ _ hσ hS.inv hS.le))
      (fun v r h' g' w' hq hI Ij hr=>⟨v,rfl,hn _ _ g' w' v hq hI Ij hr⟩)) fun _ _ h=>h
    .exact hc.elim
  |geny σ nn=>
   simp only at hm;cases d with
   |none=>exact hm.elim
   |some d=>
    simp only at hm;obtain⟨GM,hc⟩:=hm;have hσ:EO σ=true:=by simp only[Af]at GM;exact GM.1.1
    obtain⟨hR,_⟩:=YW hS.inv hσ;have mo:=(hS.eval f).ren hR;have UU:∀(i:Nat) (av:AV) (x:Value),((args.toList.map (ev st.t)).map (ren (CF σ) st.h))[i]?=some av->(args.map a.eval)[i]?=some x->BS (DX σ g) w (AQ (F4 σ st.h)) av x:=by
     intro i av x h1 h2;rw[AG,AG]at h1;rw[Pz]at h2;cases ho:args[i]? with
     |none=>rw[ho]at h2;simp at h2
     |some y=>
      rw[ho]at h2;have hy:args.toList[i]?=some y:=by simpa using ho
      rw[hy]at h1;simp only[Ip,BB]at h1 h2;subst h1;subst h2;exact(hS.eval y).ren hR
    have MK:(args.map a.eval).size=((args.toList.map (ev st.t)).map (ren (CF σ) st.h)).length:=by simp
    split at hc
    .rename_i fn caps e;rw[e]at mo;generalize hx:a.eval f=fv at mo;cases mo with
     |clo _ _ _ vs EZ Mm=>
      have C3:(execOp a.eval ⟨dst,.call ⟨.value f,args,Hw⟩,ty,pos,after,gd⟩).run cx.P w=.ok (.enter fn (args.map a.eval++vs)) w:=by
       simp only[execOp,resolve,hx,Deferred.ofValue,Sem.run_bind,Sem.run_pure,Result.andThen_ok,invoke];rw[Hi hc.1];simp
      refine N2 (fun c e=>by cases e) ?_;unfold Oper.wp;rw[C3];refine NM (C:=Calls cx.P fn (args.map a.eval++vs) w) (fun h k=>h.mono k) hS.inv GM (fun qw=>hc.2 (DX σ g) w _ (by simp[EZ]) (fun i av x h1 h2=>?_) qw (fun l=>hY l σ _ _ _ hσ hS.inv hS.le)) (fun v r h' g' w' hq hI Ij hr=>hn _ _ g' w' v hq hI Ij hr);rw[M1]at h1;rw[IK]at h2;have hl:((args.toList.map (ev st.t)).map (ren (CF σ) st.h)).length=(args.map a.eval).size:=MK.symm;rw[hl]at h1;split at h1
      .rename_i hi;rw[Al hi]at h2;exact UU i av x h1 h2
      .rename_i hi;rw[Aj hi]at h2;exact Mm _ av x h1 h2
    .exact hc.elim
end
section
variable {P:Program}{N:Nat}{ds:List Deferred}{w0:World}{g0:Gh}{h0:Nat->HO}{st:St}{g:Gh}{a:Act}{w:World}
theorem ZW(hT:CI P cx.T){b:Builtin}{dst:Option Nat}{ty:Nat}{gd:Option (Nat×Bool)}{next:Act->World->Prop}{Q:Exit->Act->World->Prop}(hS:SR N ds w0 g0 h0 st g a w)(hk:Gz cx dst st.h b Hw.toList (args.toList.map (ev st.t)) K)(hn:cz w0 g0 h0 st.h g w K fun x w'=>next (a.put dst x) w'):Oper.wp P ⟨dst,.call ⟨.builtin b,args,Hw⟩,ty,pos,after,gd⟩ a w next Q:=by
 have hI:=hS.inv;have hE:=hS.eval;obtain⟨l⟩:=args;obtain⟨tl⟩:=Hw;unfold Gz at hk;split at hk
 .rename_i x t e1 e2
  match l,e1 with
  | [y],e1=>
   simp only[AK,Fe,Fo,and_true]at e1;subst e1;simp only at e2;subst e2;exact Ej (m:=Builtin.len_ #[t] ty #[a.eval y]) (by simp[execOp,resolve,invoke,builtin]) (BU.does hI (m9 hT hI.objs (hE y) hk)) hn
 .rename_i s x t t' e1 e2
  match l,e1 with
  | [y,z],e1=>
   simp only[AK,Fe,Fo,and_true]at e1;obtain⟨rfl,rfl⟩:=e1;simp only at e2;subst e2;split at hk
   .rename_i ht;obtain rfl:=AL ht;exact Ej (m:=Builtin.append_ #[t,t] ty #[a.eval y,a.eval z]) (by simp[execOp,resolve,invoke,builtin]) (cL hI hT (hE y) (hE z) hk) hn
   .exact hk.elim
 .rename_i x y Hw e1
  match l,e1 with
  | [y,z],e1=>
   simp only[AK,Fe,Fo,and_true]at e1;obtain⟨rfl,rfl⟩:=e1;exact Ej (m:=Builtin.max_ ⟨tl⟩ ty #[a.eval y,a.eval z]) (by simp[execOp,resolve,invoke,builtin]) (BU.does hI (qS (hE y) (hE z) hk)) hn
 .rename_i x y Hw e1
  match l,e1 with
  | [y,z],e1=>
   simp only[AK,Fe,Fo,and_true]at e1;obtain⟨rfl,rfl⟩:=e1;exact Ej (m:=Builtin.min_ ⟨tl⟩ ty #[a.eval y,a.eval z]) (by simp[execOp,resolve,invoke,builtin]) (BU.does hI (qU (hE y) (hE z) hk)) hn
 .exact hk.elim
theorem pQ(hT:CI P cx.T){next:Act->World->Prop}{Q:Exit->Act->World->Prop}(hS:SR N ds w0 g0 h0 st g a w)(hk:Gm cx dr o st K)(hv:∀f args Hw,o.op≠.call ⟨.value f,args,Hw⟩)(hn:cz w0 g0 h0 st.h g w K fun x w'=>next (a.put o.dst x) w'):o.wp P a w next Q:=by
 have hI:=hS.inv;have hE:=hS.eval;obtain⟨dst,op,ty,pos,after,gd⟩:=o;unfold Gm at hk;cases op with
 |move x=>exact gY hI (x:=a.eval x) rfl hk (hE x) hn
 |assign x=>
  obtain⟨g',av,h',q1,q2,q3,q4⟩:=cN hI (hE x) hk;exact hn _ _ _ _ _ q1 q2 q3 q4
 |pick c x y=>exact Ej (m:=do pure (if <-asBool (a.eval c)then a.eval x else a.eval y)) (by simp[execOp]) (BU.does hI (nS (hE c) (hE x) (hE y) hk)) hn
 |alloc e=>exact Ej rfl (ie hI hT hk) hn
 |box e x=>exact Ej rfl (p5 hI (hE x) hk) hn
 |build t ps=>exact Ej rfl (BU.does hI (iy hT hE hk)) hn
 |buildSlice t n ps=>exact Ej rfl (Us hI hT hE hk) hn
 |insert t m k x=>exact Zz rfl (Oz hI hT (hE m) (hE k) (hE x) hk) hn
 |load t x=>exact Ej rfl (BU.does hI (XI hI.objs hT (hE x) hk)) hn
 |store t p x=>exact Zz rfl (kk hI hT (hE p) (hE x) hk) hn
 |nilCheck x=>
  obtain⟨h1,h2⟩:=Zd (P:=P) (w:=w) (hE x) hk (pos:=pos) (after:=after) (gd:=gd) (dst:=dst) (ty:=ty) (ρ:=a.eval) rfl;exact gY hI h1 h2 (hE x) hn
 |binOp op t x y u=>exact Ej rfl (BU.does hI (lk hT (hE x) (hE y) (fun v e=>by subst e;rfl) hk)) hn
 |unOp op t x=>exact Ej rfl (BU.does hI (oO (hE x) hk)) hn
 |convert s t x=>
  cases dr with
  |true=>exact Ej rfl (BU.does hI (af hT (hE x) hk)) hn
  |false=>exact Ej rfl (iI hI hT (hE x) hk) hn
 |makeFunc fn first cap=>exact Ej rfl (BU.does hI (Y8 hI.objs hE hk)) hn
 |makeMap t r=>
  cases r with
  |some r=>exact hk.elim
  |none=>exact Ej rfl (bo hI hk) hn
 |makeSlice t n c=>exact Ej rfl (WK hI hT (hE n) (hE c) hk) hn
 |slice t x lo hi mx=>
  cases dr with
  |true=>
   cases hp:OQ cx.pl.tok dst with
   |none=>
    have hk' : G8 cx dst st.h t (ev st.t x) (Co st.t lo) (Co st.t hi) (Co st.t mx) K:=by
     have IQ:(match OQ cx.pl.tok dst with
      |none=>G8 cx dst st.h t (ev st.t x) (Co st.t lo) (Co st.t hi) (Co st.t mx) K
      |some _=>QQ cx dst st.h t (ev st.t x) lo (Co st.t hi) mx K):=hk
     rw[hp]at IQ;exact IQ
    exact Ej rfl (X2 hI hT hE (hE x) hk') hn
   |some _=>
    have hk' : QQ cx dst st.h t (ev st.t x) lo (Co st.t hi) mx K:=by
     have IQ:(match OQ cx.pl.tok dst with
      |none=>G8 cx dst st.h t (ev st.t x) (Co st.t lo) (Co st.t hi) (Co st.t mx) K
      |some _=>QQ cx dst st.h t (ev st.t x) lo (Co st.t hi) mx K):=hk
     rw[hp]at IQ;exact IQ
    unfold QQ at hk';split at hk'
    .exact Ej rfl (gE hI hT hE (hE x) hk') hn
    .exact hk'.elim
  |false=>
   cases hp:OQ cx.pl.tok dst with
   |none=>
    have hk' : G8 cx dst st.h t (ev st.t x) (Co st.t lo) (Co st.t hi) (Co st.t mx) K:=by
     have IQ:(match OQ cx.pl.tok dst with
      |none=>G8 cx dst st.h t (ev st.t x) (Co st.t lo) (Co st.t hi) (Co st.t mx) K
      |some _=>bS cx dst st.h t (ev st.t x) st.t lo hi mx K):=hk
     rw[hp]at IQ;exact IQ
    exact Ej rfl (X2 hI hT hE (hE x) hk') hn
   |some _=>
    have hk' : bS cx dst st.h t (ev st.t x) st.t lo hi mx K:=by
     have IQ:(match OQ cx.pl.tok dst with
      |none=>G8 cx dst st.h t (ev st.t x) (Co st.t lo) (Co st.t hi) (Co st.t mx) K
      |some _=>bS cx dst st.h t (ev st.t x) st.t lo hi mx K):=hk
     rw[hp]at IQ;exact IQ
    cases lo with
    |some lo=>exact Ej rfl (bT hI hT hE (hE x) hk') hn
    |none=>
     unfold bS at hk';dsimp only at hk';split at hk'
     .exact Ej rfl (BU.does hI (iq hI.objs hT (hE x) hk')) hn
     .unfold QQ at hk';split at hk'
      .exact Ej rfl (gE hI hT hE (hE x) hk') hn
      .exact hk'.elim
 |fieldAddr s x f=>exact Ej rfl (BU.does hI (iQ hT (hE x) hk)) hn
 |field s x f=>exact Ej rfl (BU.does hI (dh hT (hE x) hk)) hn
 |indexAddr t x i=>exact Ej rfl (BU.does hI (WI hT (hE x) (hE i) hk)) hn
 |index t x i=>exact Ej rfl (BU.does hI (ji hT (hE x) (hE i) hk)) hn
 |lookup t x i ok=>
  have hk:NX cx.T st.h t (ev st.t x) (ev st.t i) ok fun v=>K v st.h:=by
   cases dr with
   |true=>exact js hk
   |false=>exact hk
  exact Ej rfl (BU.does hI (dO hT hI.objs (hE x) (hE i) hk)) hn
 |mapUpdate t m k x=>exact Zz rfl (Oz hI hT (hE m) (hE k) (hE x) hk) hn
 |range t x=>
  simp only at hk;split at hk
  .rename_i kt e ht;exact Ej rfl (j9 hI hT ht (hE x) hk) hn
  .exact hk.elim
 |next it s=>
  cases s with
  |true=>exact hk.elim
  |false=>exact Ej rfl (nw hI (hE it) hk) hn
 |entry it=>exact Ej rfl (BU.does hI (iO hI.objs (hE it) hk)) hn
 |extract x i=>exact Ej rfl (BU.does hI (aA (hE x) hk)) hn
 |call c=>
  obtain⟨ug,args,Hw⟩:=c;cases ug with
  |builtin b=>exact ZW hT hS hk hn
  |value f=>exact absurd rfl (hv f args Hw)
  |invoke r m=>exact hk.elim
 |_=>exact hk.elim
theorem lh(hP:cx.P=P)(hY:∀l σ h g w,EO σ=true->D7 w0 g0 h0 h g w->Le h0 g0 w0 h g w->cx.yp l σ (DX σ g) w){ro:Option Nat}(hT:CI P cx.T){next:Act->World->Prop}{Q:Exit->Act->World->Prop}(hS:SR N ds w0 g0 h0 st g a w)(hk:Gm cx dr o st K)(hn:cz w0 g0 h0 st.h g w K fun x w'=>next (a.put o.dst x) w'):o.wpIn (KK ro) 0 P a w next Q:=by
 by_cases hv:∃f args Hw,o.op=.call ⟨.value f,args,Hw⟩
 .obtain⟨f,args,Hw,e⟩:=hv;obtain⟨dst,op,ty,pos,after,gd⟩:=o;cases e;exact lA hP hY hS hk hn
 .refine N2 (fun c e=>?_) (pQ hT hS hk (fun f args Hw e=>hv ⟨f,args,Hw,e⟩) hn);obtain⟨dst,op,ty,pos,after,gd⟩:=o;cases e;exact hk.elim
theorem zi{p:Nat->Prop}(h:∃n,p n):∃n,p n/\∀m,m<n->¬p m:=by
 apply AJ;intro hc
 have:∀n,¬p n:=fun n=>by
  induction n using Nat.strongRecOn with
  |_ n ih=>exact fun hp=>hc ⟨n,hp,ih⟩
 obtain⟨n,hn⟩:=h;exact this n hn
theorem TC{m:Nat}{c:Code}{Q:Exit->Act->World->Prop}(I:Nat->Act->World->Prop)(k:Nat)(h0:I k a w)(round:∀n a w,I n a w->c.wpIn F m P (Exit.then (fun a' w'=>∃n',n' < n/\I n' a' w') Q) a w):(Code.loop c).wpIn F m P Q a w:=by
 classical
 have hex:∀a w,(∃n,I n a w)->∃n,I n a w/\∀n',n' < n->¬I n' a w:=fun a w h=>zi h;refine wpIn_loop (fun a w=>∃n,I n a w) (fun a w=>if h:∃n,I n a w then(hex a w h).choose else 0) ⟨k,h0⟩ fun a w h=>?_;have hs:=(hex a w h).choose_spec;refine wpIn_mono (round _ a w hs.1) fun e a' w' q=>?_;cases e with
 |normal=>
  obtain⟨n',Du,hn⟩:=q;have h' : ∃n,I n a' w':=⟨n',hn⟩;refine⟨h',?_⟩;simp only[dif_pos h,dif_pos h'];refine Nat.lt_of_le_of_lt ?_ Du;apply Bm;intro hc;exact(hex a' w' h').choose_spec.2 n' hc hn
 |_=>exact q
end
section
variable {P:Program}{N:Nat}{ds:List Deferred}{w0:World}{g0:Gh}{h0:Nat->HO}{st:St}{g:Gh}{a:Act}{w:World}
theorem iB(hT:CI P T){ty e k ty2 b o n c:Nat}(ht:(T ty).d=.slice e)(hk:(T e).size=k+1)(hz:(T e).zc.length=k+1)(Qt:∀v∈(T e).zc,v.oneCell'=true){EN:Array Value}{E:TypeId}(hb:w.heap[b]?=some (.cells EN E (0,0)))(hn:0<n)(Ij:o+n*(k+1)<=EN.size) :
  (Builtin.clear_ #[ty] ty2 #[.slice (some ⟨b,o,none⟩) n c]).run P w=.ok (.tuple #[]) (w.setRow b (over EN.toList o (List.replicate n (T e).zc).flatten).toArray):=by
 obtain⟨z,z1,z2⟩:=Yg (w:=w) hT hk;have uT:(T e).zc≠[]:=fun e0=>by rw[e0]at hz;cases hz
 have uM:(Builtin.zeroCells z.cells n).toList=(List.replicate n (T e).zc).flatten:=by
  rw[IF n _ uT,hz,z2];have e6:z.cells.size=k+1:=by rw[<-hz,z2];simp
  unfold Builtin.zeroCells;simp[e6,Array.getElem!_eq_getD]
 have CQ:(List.replicate n (T e).zc).flatten.length=n*(k+1):=by
  rw[DA (n:=k+1) (fun c hc=>by rw[Ct hc];exact hz),BQ]
 have KL:=run_storeCells_at P b o E (List.replicate n (T e).zc).flatten 0 EN w hb (by rw[CQ];simpa using Ij) (fun v hv=>by
  obtain⟨l,hl,hv⟩:=D8.1 hv;rw[Ct hl]at hv;exact Qt v hv)
 simp only[Gi]at KL;rw[N4 _ _ _ (by rw[CQ];simpa using Ij)];obtain⟨m,rfl⟩:∃m,n=m+1:=⟨n-1,by omega⟩;simp only[Builtin.clear_,Sem.run_bind,GE,Bf,run_underlying (hT.slice ht),Result.andThen_ok,z1,uM,KL,Sem.run_pure]
theorem cY(hT:CI P T){ty e ty2 c:Nat}(ht:(T ty).d=.slice e)(x:Option Addr) :
  (Builtin.clear_ #[ty] ty2 #[.slice x 0 c]).run P w=.ok (.tuple #[]) w:=by
 cases x<;>simp only[Builtin.clear_,Sem.run_bind,GE,Bf,run_underlying (hT.slice ht),Result.andThen_ok,Sem.run_pure]
theorem oa{d:Nat}(hd:d<a.tmps.size):(a.put (some d) x).eval (.tmp d)=x:=by
 show(a.tmps.setIfInBounds d x).getD d undef=x;rw[CG,Array.getElem?_setIfInBounds_self,Al hd];rfl
theorem mJ(h:Nat->HO)(r:Nat):A1 h r (h r)=h:=funext fun i=>by
 by_cases e:i=r
 .subst e;exact Bl ..
 .exact Ca _ _ _ _ e
theorem dL(h:Vd o o2=true):∃ty x lo d ty2 pos after vP rv Yr,o=⟨some d,.slice ty x (some lo) none none,ty2,pos,after,none⟩/\o2=⟨none,.call ⟨.builtin .clear,#[.tmp d],#[ty]⟩,vP,rv,Yr,none⟩:=by
 obtain⟨dst,op,t2,p1,a1,gd⟩:=o;obtain⟨Agx,op2,t3,p2,a2,gd2⟩:=o2;unfold Vd at h;split at h
 .rename_i c e1;split at h
  .rename_i e2;split at h
   .rename_i ty x lo e3;split at h
    .rename_i d d' ty' e4 e5 e6 e7 e8 e9;obtain⟨ug,⟨args⟩,⟨Hw⟩⟩:=c;simp only at e1 e2 e3 e4 e5 e6 e7 e8 e9;simp only[Af]at h;obtain rfl:=AL h.1;obtain rfl:=AL h.2;subst e1 e2 e3 e4 e5 e6 e7 e8 e9;exact⟨_,_,_,_,_,_,_,_,_,_,rfl,rfl⟩
    .cases h
   .cases h
  .cases h
 .cases h
theorem qf(hT:CI P cx.T){ro:Option Nat}(hd:∀i,o.dst=some i->i<N)(hc:Vd o o2=true){K:St->Prop}(hS:SR N ds w0 g0 h0 st g a w)(hk:iD cx o st K){next:Act->World->Prop}{Q:Exit->Act->World->Prop}(hn:∀EF g' a' w',K EF->SR N ds w0 g0 h0 EF g' a' w'->next a' w') :
  o.guard=none/\o2.guard=none/\o.wpIn (KK ro) 0 P a w (fun a1 w1=>o2.wpIn (KK ro) 0 P a1 w1 next Q) Q:=by
 obtain⟨ty,x,lo,d,ty2,pos,after,vP,rv,Yr,rfl,rfl⟩:=dL hc;refine⟨rfl,rfl,?_⟩;have hI:=hS.inv;have hE:=hS.eval;have hdN:d<a.tmps.size:=by rw[hS.size];exact hd d rfl
 -- what is to be shown of the two operations
 have two:∀(v:Value) (EF : St) (g' : Gh) (w' : World),(Instr.sliceAt ty (a.eval x) (some (a.eval lo)) none none).run P w=.ok v w->(Builtin.clear_ #[ty] vP #[v]).run P w=.ok (.tuple #[]) w'->K ⟨HZ st.t d .junk,EF.h⟩->D7 w0 g0 h0 EF.h g' w'->Le st.h g w EF.h g' w' ->
   Oper.wpIn (KK ro) 0 P ⟨some d,.slice ty x (some lo) none none,ty2,pos,after,none⟩ a w (fun a1 w1=>Oper.wpIn (KK ro) 0 P ⟨none,.call ⟨.builtin .clear,#[.tmp d],#[ty]⟩,vP,rv,Yr,none⟩ a1 w1 next Q) Q:=by
  intro v EF g' w' r1 r2 hk hI' Ij;refine N2 (by intro c e;cases e) ?_;unfold Oper.wp;have hx:execOp a.eval ⟨some d,.slice ty x (some lo) none none,ty2,pos,after,none⟩=(do pure (Next.value (<-Instr.sliceAt ty (a.eval x) (some (a.eval lo)) none none))):=rfl;rw[hx,Sem.run_bind,r1];refine N2 (by intro c e;cases e) ?_;unfold Oper.wp;have sU:execOp (a.put (some d) v).eval ⟨none,.call ⟨.builtin .clear,#[.tmp d],#[ty]⟩,vP,rv,Yr,none⟩=(do pure (Next.value (<-Builtin.clear_ #[ty] vP #[v]))):=by
   simp[execOp,resolve,invoke,builtin,oa hdN]
  rw[sU,Sem.run_bind,r2];have S1:SR N ds w0 g0 h0 (st.put (some d) .junk st.h) g (a.put (some d) v) w:=hS.put hd hI (.refl _ _ _) (.junk _ _);have S2:SR N ds w0 g0 h0 ((st.put (some d) .junk st.h).put none (.v (.tuple #[])) EF.h) g' ((a.put (some d) v).put none (.tuple #[])) w':=S1.put (by intro i e;cases e) hI' Ij (.v _ _);exact hn _ g' _ w' hk S2
 unfold iD at hk;simp only at hk;split at hk
 .rename_i e hs;split at hk
  .rename_i r n ex;split at hk
   .rename_i i ei;split at hk
    .rename_i sz es er;split at hk
     .rename_i hb;obtain rfl:=AL hb;split at hk
      .exact hk.elim
      .rename_i k EZ;split at hk
       .rename_i Oe;have Oe:=AL Oe;obtain⟨⟨rfl,i0,i1⟩,hk⟩:=hk;unfold xH at hk;split at hk
        .rename_i GL;have GL:∀v∈(cx.T e).zc,v.oneCell'=true:=Bd.1 GL;have ho:=hI.objs r;rw[er]at ho;obtain⟨t1,l1,al,a2⟩:=ho;have jf:=hE x;rw[ex]at jf;have hlo:=hE lo;rw[ei]at hlo;have hlo:=hlo.v_eq;generalize hvx:a.eval x=vx at jf two;rw[hlo]at two;cases jf with
         |msl _ _ _ ad cap hu ht' aV ha MS=>
          have hv:=MS l1.symm;have Mm:es.length<=cap:=by
           rcases a2 with ⟨b1,_,_⟩ | ⟨b,Mb,E,vs,b1,_,b3,_⟩
           .subst b1;exact Ax _
           .rw[b1]at hv;cases hv;exact b3
          have C3:=Fm (P:=P) (w:=w) hT hs EZ ad es.length cap (some i) none none (.inl rfl) (by simpa using i0) (by simpa using i1) (by simpa using Mm) B0;simp only[CL,Er,BL,Ip,Option.map_none]at C3
          by_cases hz:i.toNat=es.length
          .-- nothing is cleared
           have e1:es.length-i.toNat=0:=by omega
           rw[e1]at C3 hk;refine two _ st g w C3 (cY hT hs _) ?_ hI (.refl _ _ _);have e2:es.take i.toNat++List.replicate 0 ((cx.T e).zc.map AV.v)=es:=by rw[List.replicate_zero,BP,hz,B7]
           rw[e2,<-er,mJ]at hk;exact hk
          .have Du:i.toNat<es.length:=by omega
           rcases a2 with ⟨b1,_⟩ | ⟨b,Mb,E,vs,b1,b2,b3,b4,b5,b6,b7⟩
           .subst b1;simp at Du
           .rw[b1]at hv;cases hv;have DH:¬cap=i.toNat:=by omega
            rw[Aj DH]at C3;have Acy:Option.map (fun x:Addr=>x.add (i.toNat*(cx.T e).size)) (some ⟨b,0,none⟩)=some ⟨b,i.toNat*(cx.T e).size,none⟩:=by simp[Addr.add];omega
            rw[Acy]at C3;have U5:es.length*(cx.T e).size<=cap*(cx.T e).size:=A9 _ b3;have WE:i.toNat*(cx.T e).size+(es.length-i.toNat)*(cx.T e).size=es.length*(cx.T e).size:=by rw[<-EU];congr 1;omega
            have hcl:=iB (w:=w) (ty2:=vP) (c:=cap-i.toNat) hT hs EZ (Oe.trans EZ) GL b4 (n:=es.length-i.toNat) (o:=i.toNat*(cx.T e).size) ch (by rw[show k+1=(cx.T e).size from EZ.symm,WE,b5];exact U5);have hl:(st.h r).live:=by rw[er];trivial
            generalize hZ:(List.replicate (es.length-i.toNat) (cx.T e).zc).flatten=Z at hcl;have hZl:Z.length=(es.length-i.toNat)*(cx.T e).size:=by
             rw[<-hZ,DA (n:=(cx.T e).size) (fun c hc=>by rw[Ct hc];exact Oe),BQ]
            have MK:(es.take i.toNat++List.replicate (es.length-i.toNat) ((cx.T e).zc.map AV.v)).length=es.length:=by
             rw[Ac,Au,BQ];omega
            have Acz:∀c∈es.take i.toNat++List.replicate (es.length-i.toNat) ((cx.T e).zc.map AV.v),c.length=(cx.T e).size:=fun c hc=>by
             rcases AO.1 hc with h1 | h1
             .exact al c (CU h1)
             .rw[Ct h1,A8];exact Oe
            have Adm:vs.toList.length=cap*(cx.T e).size:=by rw[Br];exact b5
            have hfl:(es.take i.toNat++List.replicate (es.length-i.toNat) ((cx.T e).zc.map AV.v)).flatten=over es.flatten (i.toNat*(cx.T e).size) (Z.map AV.v):=by
             rw[N4 _ _ _ (by rw[A8,hZl,WE,DA al];exact Ak _),Ch,OX al,A8,hZl,WE,Ce (by rw[DA al];exact Ak _),BP,<-hZ,T9,List.map_replicate]
            have y8:((over vs.toList (i.toNat*(cx.T e).size) Z).toArray.toList.take (es.length*(cx.T e).size))=over (vs.toList.take (es.length*(cx.T e).size)) (i.toNat*(cx.T e).size) Z:=
             XQ _ _ _ _ (by rw[hZl,WE];exact Ak _) (by rw[Adm];exact U5)
            have hZr:CY g w FK (Z.map AV.v) Z:=CY.vals (by
             have yc : ∀l:List AV,(∀a∈l,one a=true)->Hp l=true:=by
              intro l
              induction l with
              |nil=>intro _;rfl
              |cons a l ih=>intro h;simp[Hp,h a (List.mem_cons_self ..),ih (fun b hb=>h b (List.mem_cons_of_mem _ hb))]
             refine yc _ fun q hq=>?_;obtain⟨y,hy,rfl⟩:=Ai.1 hq;rw[<-hZ]at hy;obtain⟨l,hl,hy⟩:=D8.1 hy;rw[Ct hl]at hy;exact GL y hy)
            have uJ:CY g w FK (over es.flatten (i.toNat*(cx.T e).size) (Z.map AV.v)) (over (vs.toList.take (es.length*(cx.T e).size)) (i.toNat*(cx.T e).size) Z):=
             b6.over hZr _ (by rw[A8,hZl,WE,DA al];exact Ak _)
            obtain⟨k1,k2⟩:=hI.write hl b2 (.arr (cx.T e).size (es.take i.toNat++List.replicate (es.length-i.toNat) ((cx.T e).zc.map AV.v))) b4 (over vs.toList (i.toNat*(cx.T e).size) Z).toArray (g.ln r) (g.own r) g.S B0 rfl (fun b' e=>by rw[b2]at e;cases e;rfl) (fun _ _ h=>h)
             (fun b' o hs=>.inl hs) (fun o hs=>absurd hs (b7 o)) (fun hg IM EY=>by
              obtain⟨u1,u2,u3,u4⟩:=BJ g r (g.ρ r) (g.ln r) (g.tk r) (g.own r) g.S;refine⟨u3.trans t1,u2.trans (by rw[MK];exact l1),Acz,.inr ⟨b,cap,E,_,?_,u4.trans b2,by rw[MK];exact b3,EY,?_,?_,b7⟩⟩
              .rw[u1,b1,MK]
              .simp only[DV,Gc,Br];exact b5
              .rw[MK,y8,hfl];exact uJ.mono IM (fun _ h=>h) (fun _ h=>h.elim))
            exact two _ ⟨st.t,_⟩ _ _ C3 hcl hk k1 k2
        .exact hk.elim
       .exact hk.elim
     .exact hk.elim
    .exact hk.elim
   .exact hk.elim
  .exact hk.elim
 .exact hk.elim
end
end Go.Eng
