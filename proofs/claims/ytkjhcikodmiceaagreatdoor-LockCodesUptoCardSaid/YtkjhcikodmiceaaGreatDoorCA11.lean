/- Lemmas 11. -/
import Derived.Test.YtkjhcikodmiceaaGreatDoorCA10
namespace Go.Eng
variable {o:Oper}{K:HK}{args:Array Operand}{Hd:Array TypeId}{after:Array Edge}{cx:Cx}{dr:Bool}{pos:String}{F:Fence}
structure SR(N:Nat)(ds:List Deferred)(w0:World)(g0:D)(h0:Nat->HO)(st:St)(g:D)(a:Act)(w:World):Prop where
 inv:CH w0 g0 h0 st.h g w
 le:Le h0 g0 w0 st.h g w
 dfs:a.defers=ds
 size:a.tmps.size=N
 slots:∀i,O g w (L st.h) (st.t i) (a.tmps.getD i undef)
section
variable {P:Program}{N:Nat}{ds:List Deferred}{w0:World}{g0:D}{h0:Nat->HO}{st:St}{g:D}{a:Act}{w:World}
theorem SR.eval(hS:SR N ds w0 g0 h0 st g a w)(x:Operand):O g w (L st.h) (ev st.t x) (a.eval x):=by
 cases x with
 |tmp i=>exact hS.slots i
 |const v=>exact .v _ _
 |global b=>exact .v _ _
 |func f=>exact .v _ _
theorem SR.put(hS:SR N ds w0 g0 h0 st g a w){d:Option Nat}(hd:∀i,d=some i->i<N){v:AV}{x:Value}{h' : Nat->HO}{g' : D}{w' : World}(hI:CH w0 g0 h0 h' g' w')(Jo:Le st.h g w h' g' w')(hr:O g' w' (L h') v x) :
  SR N ds w0 g0 h0 (st.put d v h') g' (a.put d x) w':=by
 have old:∀i,O g' w' (L h') (st.t i) (a.tmps.getD i undef):=fun i=>(hS.slots i).le Jo;cases d with
 |none=>exact⟨hI,hS.le.trans Jo,hS.dfs,hS.size,old⟩
 |some d=>
  have hdN:=hd d rfl;refine⟨hI,hS.le.trans Jo,hS.dfs,by simp[Act.put,hS.size],fun i=>?_⟩;simp only[St.put,Act.put,KE]
  by_cases e:i=d
  .subst e
   have:i<a.tmps.size:=by grind [SR.size]
   simp_all
  .simp only[Dw e,GG];rw[OR,Array.getElem?_setIfInBounds_ne (Ne.symm e),<-OR];simp_all
def gp(w0:World)(g0:D)(h0 h:Nat->HO)(g:D)(w:World)(K:HK)(next:Value->World->Prop):Prop:=
 ∀v h' g' w' x,K v h'->CH w0 g0 h0 h' g' w'->Le h g w h' g' w'->O g' w' (L h') v x->next x w'
theorem Dt{m:Sem Value}{next:Act->World->Prop}{Q:Exit->Act->World->Prop}(hx:execOp a.eval o=(do pure (Next.value (<-m))))(hd:OS P w0 g0 h0 st.h g w m K)(hn:gp w0 g0 h0 st.h g w K fun x w'=>next (a.put o.dst x) w'):o.wp P a w next Q:=by
 obtain⟨x,w',g',av,h',h1,h2,h3,h4,h5⟩:=hd;unfold Oper.wp;rw[hx,Sem.run_bind,h1];exact hn av h' g' w' x h2 h3 h4 h5
theorem bL{m:Sem Unit}{next:Act->World->Prop}{Q:Exit->Act->World->Prop}(hx:execOp a.eval o=(do m;pure Next.skip))(hd:pX P w0 g0 h0 st.h g w m K)(hn:gp w0 g0 h0 st.h g w K fun x w'=>next (a.put o.dst x) w'):o.wp P a w next Q:=by
 obtain⟨w',g',h',h1,h2,h3,h4⟩:=hd;unfold Oper.wp;rw[hx,Sem.run_bind,h1];exact hn _ h' g' w' undef h2 h3 h4 (.v _ _)
theorem mn{next:Act->World->Prop}{Q:Exit->Act->World->Prop}{v:AV}{x:Value}(hI:CH w0 g0 h0 st.h g w)(hx:(execOp a.eval o).run P w=.ok (.value x) w)(hk:K v st.h)(hr:O g w (L st.h) v x)(hn:gp w0 g0 h0 st.h g w K fun x w'=>next (a.put o.dst x) w'):o.wp P a w next Q:=by
 unfold Oper.wp;rw[hx];exact hn _ _ _ _ _ hk hI (.refl _ _ _) hr
theorem U6{C:(Ending->World->Prop)->Prop}(hm:∀{R R' : Ending->World->Prop},C R->(∀e w,R e w->R' e w)->C R')(hI:CH w0 g0 h0 st.h g w){Q:AV->(Nat->HO)->Prop}
  (hc:CH w g Ab Ab g w->C (fun e w'=>∃v r h' g',e=Ending.returned v/\Q r h'/\O g' w' (L h') r v/\CH w g Ab h' g' w'/\Le Ab g w h' g' w')) {R:Ending->World->Prop}
  (hR:∀v r h' g' w',Q r h'->h'=Ab->CH w0 g0 h0 st.h g' w'->Le st.h g w st.h g' w'->O g' w' DS r v->R (.returned v) w') (hQ:∀r h',Q r h'->h'=Ab):C R:=by
 have hU:L Ab=DS:=by grind [L,DS,Ab]
 have wF:CH w g Ab Ab g w:=⟨rfl,rfl,rfl,Af _,fun _ _ _=>rfl,hI.slt,fun _=>trivial,fun _ _ _ h=>h.elim,fun _ _ h=>h.elim,fun _ _ h=>.inl h,hI.glob⟩;refine hm (hc wF) ?_
 rintro e w' ⟨v,r,h',g',rfl,q1,q2,q3,q4⟩
 obtain rfl:=hQ r h' q1;rw[hU]at q2
 -- the caller's ghost,with the callee's stable cells
 have hk:D8 g w ⟨g.ρ,g.ln,g.tk,g.own,g'.S⟩ w':=q4.keeps;have hg:JA g ⟨g.ρ,g.ln,g.tk,g.own,g'.S⟩ (L st.h):=fun _ _=>⟨rfl,Af _,fun _=>rfl,fun _=>rfl⟩;have VL:∀b,b<w.heap.size->w'.heap[b]?=w.heap[b]?:=fun b hb=>q3.frame b hb (fun _ h=>h.elim);have hSs:∀b o,g'.S b o->b<w.heap.size->g.S b o:=fun b o hs hb=>by
  rcases q3.sg b o hs with h1 | h1 | ⟨_,h1,_⟩
  .exact h1
  .omega
  .exact h1.elim
 refine hR v r Ab ⟨g.ρ,g.ln,g.tk,g.own,g'.S⟩ w' q1 rfl ⟨q3.os.trans hI.os,q3.tape.trans hI.tape,q3.output.trans hI.output,Az hI.size q3.size,fun b hb hn=>?_,q3.slt,fun i=>?_,hI.inj,fun i b hl ho=>?_,fun b o hs=>?_,hI.glob.keep hk⟩ ⟨hg,fun _ h=>h,hk⟩ ?_
 .exact(VL b (AF hb hI.size)).trans (hI.frame b hb hn)
 .refine(hI.objs i).same hk (fun _ h=>h) hg rfl rfl rfl rfl (fun b hl ho=>?_);have CL:=(hI.loc i b hl ho).1;simp_all
 .obtain⟨h1,h2⟩:=hI.loc i b hl ho<;>grind [Nat.lt_of_lt_of_le]
 .rcases q3.sg b o hs with h1 | h1 | ⟨_,h1,_⟩
  .grind [CH.sg]
  .exact .inr (.inl (Az hI.size h1))
  .exact h1.elim
 .have:D8 g' w' ⟨g.ρ,g.ln,g.tk,g.own,g'.S⟩ w':=fun b o h=>⟨h,rfl,fun _ _ h=>h⟩
  exact q2.mono this (fun _ h=>h) (fun _ h=>h.elim)
theorem mW(hI:CH w0 g0 h0 st.h g w){f:Nat}{args:List AV}{Q:AV->(Nat->HO)->Prop}(hc:A1 P f args Ab Q){vals:Array Value}(hs:vals.size=args.length)
  (hv:∀(i:Nat) (av:AV) (x:Value),args[i]?=some av->vals[i]?=some x->O g w DS av x) {R:Ending->World->Prop}
  (hR:∀v r h' g' w',Q r h'->h'=Ab->CH w0 g0 h0 st.h g' w'->Le st.h g w st.h g' w'->O g' w' DS r v->R (.returned v) w') (hQ:∀r h',Q r h'->h'=Ab):Calls P f vals w R:=
 have hU:L Ab=DS:=by grind [L,DS,Ab]
 U6 (C:=Calls P f vals w) (fun h k=>h.mono k) hI (hc.2 g w vals hs (fun i av x h1 h2=>by grind)) hR hQ
theorem YieldAt.imp{m:Nat}{P:Program}{l:Nat}{args:Array Value}{W:World}{R R' : Ending->World->Prop}(h:YieldAt F m P l args W R)(hr:∀e w,R e w->R' e w):YieldAt F m P l args W R':=
 let ⟨fn,t,a,b,h1,h2⟩:=h
 ⟨fn,t,a,b,h1,h2.mono hr⟩
theorem I9.imp{Y:D->World->Prop}{l:Nat}{args:List AV}{h0:Nat->HO}{Q Q' : AV->(Nat->HO)->Prop}(h:I9 P Y l args h0 Q)(hq:∀r h',Q r h'->Q' r h'):I9 P Y l args h0 Q':=
 fun g w vals q1 q2 q3 q4=>YieldAt.imp (h g w vals q1 q2 q3 q4) fun _ _ ⟨v,r,h',g',e1,e2,rest⟩=>⟨v,r,h',g',e1,hq _ _ e2,rest⟩
theorem F3.imp{Y:Nat->D->World->Prop}{F:AV}{args:List AV}{h0:Nat->HO}{Q Q' : AV->(Nat->HO)->Prop}(h:F3 P Y F args h0 Q)(hq:∀r h',Q r h'->Q' r h'):F3 P Y F args h0 Q':=by
 have one:∀{f:Nat} {l:List AV},A1 P f l h0 Q->A1 P f l h0 Q':=fun hc=>
  ⟨hc.1,fun g w vals q1 q2 q3=>(hc.2 g w vals q1 q2 q3).mono fun _ _ ⟨v,r,h',g',e1,e2,rest⟩=>⟨v,r,h',g',e1,hq _ _ e2,rest⟩⟩
 unfold F3 at h⊢
 grind [I9.imp]
abbrev K2(ro:Option Nat):Fence:={ Fence.wide with round:=ro }
theorem UH{ro:Option Nat}{a:Act}{w:World}{next:Act->World->Prop}{Q:Exit->Act->World->Prop}(hd:∀c,o.op≠.defer c)(h:o.wp P a w next Q):o.wpIn (K2 ro) 0 P a w next Q:=by
 refine⟨fun _ _=>trivial,?_⟩;have e:o.semAt (K2 ro).round a.eval=execOp a.eval o:=Oper.semAt_eq ro a.eval o hd;rw[e];unfold Oper.wp at h;have key:∀res:Result Next,o.upon P a next Q res->o.uponIn (K2 ro) 0 P a next Q res:=fun res h=>by
  cases res with
  |ok n w'=>cases n with
   |enter f args=>exact(show(_->_)/\CallsIn (K2 ro) 0 P f args w' _ from⟨fun e=>by(cases e),callsIn_wide.2 h⟩)
   |row r args=>exact(show(_->_)/\RowsIn (K2 ro) 0 P r args w' _ from⟨fun e=>by(cases e),fun c cs _=>by
     obtain⟨v,fV,r',s⟩:=h c cs;exact⟨v,fV,r',stepsIn_wide.2 s⟩⟩)
   |round _ _ _ _ _=>exact h.elim
   |_=>exact h
  |halt x w'=>cases x<;>exact h
 simp_all
theorem FO{f:Nat}{args:Array Value}(h:Fx P f)(w:World):(callFunc f args).run P w=.ok (.enter f args) w:=by
 obtain⟨fn,h1,h2,h3⟩:=h<;>grind [callFunc,Sem.run_bind,run_program,Result.andThen_ok,Sem.run_pure]
theorem Wy{h:Nat->HO}{a:AV}(ha:lq a=true):ren (Ck []) h a=str h a:=by
 have h0:∀a,ren0 (Ck []) h a=str0 h a:=fun a=>by
  cases a with
  |slice tk es=>cases tk<;>rfl
  |_=>rfl
 cases a with
 |tup cs=>cases ha
 |agg cs=>show AV.agg _=AV.agg _;simp_all
 |clo f cs=>show AV.clo f _=AV.clo f _;simp_all
 |v x=>exact h0 (.v x)
 |slice tk es=>exact h0 (.slice tk es)
 |msl r n=>exact h0 (.msl r n)
 |cptr cs=>exact h0 (.cptr cs)
 |ref r o=>exact h0 (.ref r o)
 |eref r n sz i o=>exact h0 (.eref r n sz i o)
 |mref r=>exact h0 (.mref r)
 |cmap sh l=>exact h0 (.cmap sh l)
 |junk=>rfl
theorem SA{h:Nat->HO}:∀{l:List AV},We l=true->l.map (ren (Ck []) h)=l.map (str h)
 | [],_=>rfl
 |a::l,e=>by
  unfold We at e;split at e
  .rename_i e1;rw[A7,A7,Wy e1,SA e]
  simp_all
theorem SX:∀{l:List AV} {vs:List Value},Zz l=some vs->l=vs.map .v
 | [],vs,h=>by cases h;rfl
 |.v x::r,vs,h=>by
  unfold Zz at h;split at h
  .rename_i l e;cases h;rw[A7,<-SX e]
  simp_all
theorem mV{d:Option Nat}{st:St}{F:AV}{args:List AV}(hk:Gs cx true d st F args K):Gs cx false d st F args K:=by
 unfold Gs at hk;simp only at hk;split at hk
 .exact⟨.pure,hk⟩
 .split at hk
  .simp_all
  .rename_i d _;obtain⟨n,sz,es,h1,h2,h3⟩:=hk;simp only[Ao]at h1;refine⟨.gen [] 1,?_⟩;show(Ea []&&DO st.h d 1&&CQ [] d 1)=true/\_;refine⟨by grind [Ea,CQ],?_⟩;rw[Wy h1.1.2,SA h1.2];show F3 cx.P (fun l=>cx.yp l []) _ _ Ab _;refine F3.imp h2 ?_
   rintro r h' ⟨e2,e3⟩
   subst e2;subst e3;have e1:ren (E2 [] d 1) (Ah [(2000,.arr sz es)] Ab) (.msl 2000 n)=.msl (BE d 0) n:=rfl;have e2:DW [] d 1 st.h (Ah [(2000,.arr sz es)] Ab)=AS st.h (BE d 0) (.arr sz es):=by
    funext i
    by_cases e:i=BE d 0
    .subst e;rw[A0];have hb:(Nat.ble (BE d 0) (BE d 0)&&Nat.blt (BE d 0) (BE d 1))=true:=by
      grind [BE,Nat.ble_eq,Nat.blt_eq]
     simp only[DW,Ck,hb,IW];rfl
    grind [BS,BE,Nat.ble_eq,Nat.blt_eq,DW,Ck]
   simp_all
 .split at hk
  .unfold bF at hk;split at hk
   .simp_all
   .rename_i d _;obtain⟨sz,es,h1,h2,h3⟩:=hk;simp only[Ao]at h1;refine⟨.gen [] 1,?_⟩;show(Ea []&&DO st.h d 1&&CQ [] d 1)=true/\_;refine⟨by grind [Ea,CQ],?_⟩;rw[Wy h1.1.2,SA h1.2];show F3 cx.P (fun l=>cx.yp l []) _ _ Ab _;refine F3.imp h2 ?_
    rintro r h' ⟨e2,e3⟩
    subst e2;subst e3;have e1:ren (E2 [] d 1) (Ah [(2000,.tok sz es.length)] Ab) (.slice (.id 2000 sz) es)=.slice (.id (BE d 0) sz) es:=rfl;have e2:DW [] d 1 st.h (Ah [(2000,.tok sz es.length)] Ab)=AS st.h (BE d 0) (.tok sz es.length):=by
     funext i
     by_cases e:i=BE d 0
     .subst e;rw[A0];have hb:(Nat.ble (BE d 0) (BE d 0)&&Nat.blt (BE d 0) (BE d 1))=true:=by
       grind [BE,Nat.ble_eq,Nat.blt_eq]
      simp only[DW,Ck,hb,IW];rfl
     grind [BS,BE,Nat.ble_eq,Nat.blt_eq,DW,Ck]
    simp_all
  split at hk
  .unfold W9 at hk;split at hk
   .rename_i d l vs e2 z1;have hl:=SX e2;split at hk
    .rename_i r sz es yA n e3 e4;obtain⟨⟨rfl,rfl⟩,v,FG,n',h1,h2⟩:=hk;refine⟨.gen [(1000,1000),(1001,1001)] 0,?_⟩;show(Ea [(1000,1000),(1001,1001)]&&DO st.h d 0&&CQ [(1000,1000),(1001,1001)] d 0)=true/\_;refine⟨?_,?_⟩
     .have:CQ [(1000,1000),(1001,1001)] d 0=true:=by
       grind [Nat.ble_eq,Nat.blt_eq,CQ]
      rw[this];rfl
     have f1:args.map (ren (Ck [(1000,1000),(1001,1001)]) st.h)=vs.map .v:=by rw[hl,Bo];rfl
     have f2:Fv [(1000,1000),(1001,1001)] st.h=Ah [(1000,.cells [.slice (.id 1001 yA) es]),(1001,.tok yA n)] Ab:=by
      unfold Fv bo bo bo;rw[e3,e4];rfl
     rw[f1,f2];refine I9.imp h1 ?_
     rintro r h' ⟨g1,g2⟩
     subst g1;subst g2;have f3:DW [(1000,1000),(1001,1001)] d 0 st.h (Ah [(1000,.cells [.slice (.id 1001 yA) FG]),(1001,.tok yA n')] Ab)=AS (AS st.h 1001 (.tok yA n')) 1000 (.cells [.slice (.id 1001 yA) FG]):=by
      funext i
      by_cases e:i=1000
      .subst e;rw[A0];rfl
      .rw[BS _ _ _ _ e]
       by_cases e' : i=1001
       .subst e';rw[A0];rfl
       .rw[BS _ _ _ _ e'];have hn:Ck [(1000,1000),(1001,1001)] i=none:=by simp[Ck,Dw (Ne.symm e),Dw (Ne.symm e')]
        have:(Nat.ble (BE d 0) i&&Nat.blt i (BE d 0))=false:=by
         grind [Nat.ble_eq,Nat.blt_eq]
        grind [DW]
     rw[f3];exact h2
    simp_all
   simp_all
  unfold T2 at hk;split at hk
  .unfold df at hk;split at hk
   .rename_i d f caps zD _;obtain⟨σ,H0,Hn,args',res,g1,g2,g3,g4⟩:=hk;simp only[Ao]at g2;obtain⟨k1,k2⟩:=g1 st.h fun _ _=>rfl;refine⟨.gen σ 0,?_⟩;show(Ea σ&&DO st.h d 0&&CQ σ d 0)=true/\_;refine⟨by rw[g2.1.1,g2.1.2];rfl,?_⟩;have key:F3 cx.P (fun l=>cx.yp l σ) (ren (Ck σ) st.h F) (args.map (ren (Ck σ) st.h)) (Ah H0 Ab) (fun r h'=>r=res/\h'=Ah Hn Ab):=by
     rw[<-k2]at g3;unfold qY at zD;split at zD
     .cases zD
      rw[HC,B9]at g3;exact g3
     .cases zD
      exact g3
     simp_all
    grind [F3.imp]
   simp_all
  unfold T9 at hk;split at hk
  .rename_i dd f r n l _;split at hk
   .rename_i vs pU;have hl:=SX pU;subst hl;split at hk
    .rename_i sz es hr;have hf:Ck [(r,1000)] r=some 1000:=by simp[Ck]
     have e1:ren (Ck [(r,1000)]) st.h (.v (.func (.func f) ⟨[]⟩ ⟨[]⟩))=.v (.func (.func f) ⟨[]⟩ ⟨[]⟩):=rfl;have e2:(AV.msl r n::vs.map AV.v).map (ren (Ck [(r,1000)]) st.h)=.msl 1000 n::vs.map .v:=by
      rw[A7]
      congr 1
      .grind [ren,ren1,ren0]
      .rw[Bo];rfl
     have e3:Fv [(r,1000)] st.h=Ah [(1000,.arr sz es)] Ab:=by
      unfold Fv bo;rw[hr];rfl
     split at hk
     .obtain⟨n',FG,h1,h2⟩:=hk;refine⟨.gen [(r,1000)] 0,?_⟩;show(Ea [(r,1000)]&&DO st.h dd 0&&CQ [(r,1000)] dd 0)=true/\_;refine⟨?_,?_⟩
      .have:CQ [(r,1000)] dd 0=true:=by
        grind [CQ,Nat.ble_eq,Nat.blt_eq]
       rw[this];rfl
      rw[e1,e2,e3];refine⟨h1.1,fun g w vals q1 q2 q3=>(h1.2 g w vals q1 q2 q3).mono fun _ _ ⟨v,r',h',g',e1,⟨e2,e3⟩,rest⟩=>⟨v,r',h',g',e1,?_,rest⟩⟩;subst e2;subst e3;have f1:ren (E2 [(r,1000)] dd 0) (Ah [(1000,.arr sz FG)] Ab) (.msl 1000 n')=.msl r n':=rfl;have f2:DW [(r,1000)] dd 0 st.h (Ah [(1000,.arr sz FG)] Ab)=AS st.h r (.arr sz FG):=by
       funext i
       by_cases e:i=r
       .grind [A0,DW,Ah,HO.ren,Nat.beq_refl]
       .rw[BS _ _ _ _ e];have hn:Ck [(r,1000)] i=none:=by grind [Ck,Dw]
        have:(Nat.ble (BE dd 0) i&&Nat.blt i (BE dd 0))=false:=by
         grind [Nat.ble_eq,Nat.blt_eq]
        grind [DW]
      simp_all
     .obtain⟨n',FG,h0,h1,h2⟩:=hk;simp only[Ao,FS,Fp]at h0;have Is:r≠BE dd 0:=fun e=>by simp_all
      refine⟨.gen [(r,1000)] 1,?_⟩;show(Ea [(r,1000)]&&DO st.h dd 1&&CQ [(r,1000)] dd 1)=true/\_;refine⟨?_,?_⟩
      .have:CQ [(r,1000)] dd 1=true:=by
        grind [CQ,BE,Nat.ble_eq,Nat.blt_eq]
       rw[this,h0.1.1];rfl
      rw[e1,e2,e3];refine⟨h1.1,fun g w vals q1 q2 q3=>(h1.2 g w vals q1 q2 q3).mono fun _ _ ⟨v,r',h',g',e1,⟨e2,e3⟩,rest⟩=>⟨v,r',h',g',e1,?_,rest⟩⟩;subst e2;subst e3;have f1:ren (E2 [(r,1000)] dd 1) (Ah [(1000,.dead),(2000,.arr sz FG)] Ab) (.msl 2000 n')=.msl (BE dd 0) n':=rfl;have f2:DW [(r,1000)] dd 1 st.h (Ah [(1000,.dead),(2000,.arr sz FG)] Ab)=AS (AS st.h r .dead) (BE dd 0) (.arr sz FG):=by
       funext i
       by_cases e:i=BE dd 0
       .subst e;rw[A0];have hn:Ck [(r,1000)] (BE dd 0)=none:=by grind [Ck]
        have hb:(Nat.ble (BE dd 0) (BE dd 0)&&Nat.blt (BE dd 0) (BE dd 1))=true:=by
         grind [BE,Nat.ble_eq,Nat.blt_eq]
        simp only[DW,hn,hb,IW];rfl
       .rw[BS _ _ _ _ e]
        by_cases e4:i=r
        .grind [A0,DW,Ah,HO.ren,Nat.beq_refl]
        .rw[BS _ _ _ _ e4];have hn:Ck [(r,1000)] i=none:=by grind [Ck,Dw]
         have:(Nat.ble (BE dd 0) i&&Nat.blt i (BE dd 1))=false:=by
          grind [Nat.ble_eq,Nat.blt_eq,BE]
         grind [DW]
      simp_all
    simp_all
   simp_all
  simp_all
theorem qo{d:Option Nat}{f:Operand}{dst:Option Nat}{ty:Nat}{gd:Option (Nat×Bool)}{next:Act->World->Prop}{Q:Exit->Act->World->Prop}(hP:cx.P=P)(hY:∀l σ h g w,Ea σ=true->CH w0 g0 h0 h g w->Le h0 g0 w0 h g w->cx.yp l σ (DA σ g) w){ro:Option Nat}(hS:SR N ds w0 g0 h0 st g a w)(hk:Gs cx dr d st (ev st.t f) (args.toList.map (ev st.t)) K)(hn:gp w0 g0 h0 st.h g w K fun x w'=>next (a.put dst x) w'):Oper.wpIn (K2 ro) 0 P ⟨dst,.call ⟨.value f,args,Hd⟩,ty,pos,after,gd⟩ a w next Q:=by
 subst hP;have hk:Gs cx false d st (ev st.t f) (args.toList.map (ev st.t)) K:=by
  cases dr<;>grind [mV]
 have Mn:∀(i:Nat) (av:AV) (x:Value),((args.toList.map (ev st.t)).map (str st.h))[i]?=some av->(args.map a.eval)[i]?=some x->O g w DS av x:=by
  intro i av x h1 h2;rw[BC,BC]at h1;rw[Array.getElem?_map]at h2;cases ho:args[i]? with
  |none=>simp_all
  |some y=>
   rw[ho]at h2;have hy:args.toList[i]?=some y:=aa0
   rw[hy]at h1;simp only[Option.map_some,Ey]at h1 h2;subst h1;subst h2;exact O.str hS.inv.objs (hS.eval y)
 have CN:(args.map a.eval).size=((args.toList.map (ev st.t)).map (str st.h)).length:=aa1
 have hF:=O.str hS.inv.objs (hS.eval f)
 -- a call of yield
 have yl:∀(l:Nat) (R:Ending->World->Prop),a.eval f=.func (.yield l) #[] #[]->YieldAt Fence.wide 0 cx.P l (args.map a.eval) w R->(∀e w',R e w'->∃v,e=.returned v/\next (a.put dst v) w') ->
   Oper.wpIn (K2 ro) 0 cx.P ⟨dst,.call ⟨.value f,args,Hd⟩,ty,pos,after,gd⟩ a w next Q:=by
  rintro l R hx ⟨fn,tm,F7,bd,h1,h2⟩ hR
  refine⟨fun _ _=>trivial,?_⟩;have e:(⟨dst,.call ⟨.value f,args,Hd⟩,ty,pos,after,gd⟩:Oper).semAt (K2 ro).round a.eval=execOp a.eval ⟨dst,.call ⟨.value f,args,Hd⟩,ty,pos,after,gd⟩:=Oper.semAt_eq ro a.eval _ (fun c e=>by cases e);have CV:(execOp a.eval ⟨dst,.call ⟨.value f,args,Hd⟩,ty,pos,after,gd⟩).run cx.P w=.ok (.round l fn tm F7 bd) w:=by
   grind [execOp,resolve,Deferred.ofValue,invoke]
  rw[e,CV];refine(show(_->_)/\RoundIn (K2 ro) 0 cx.P l fn tm F7 bd w _ from⟨fun e=>by(cases e),RoundIn.mono h2 fun e w' h=>?_⟩)
  grind
 -- the call itself
 have go:∀(Q' : AV->(Nat->HO)->Prop),(∀r h',Q' r h'->h'=Ab/\K r st.h)->F3 cx.P (fun _ _ _=>True) (str st.h (ev st.t f)) ((args.toList.map (ev st.t)).map (str st.h)) Ab Q' ->
   Oper.wpIn (K2 ro) 0 cx.P ⟨dst,.call ⟨.value f,args,Hd⟩,ty,pos,after,gd⟩ a w next Q:=by
  intro Q' hQ hc
  have fin:∀{fn:Nat} {l:List AV} {vals:Array Value},A1 cx.P fn l Ab Q'->vals.size=l.length->(∀(i:Nat) (av:AV) (x:Value),l[i]?=some av->vals[i]?=some x->O g w DS av x) ->
    (execOp a.eval ⟨dst,.call ⟨.value f,args,Hd⟩,ty,pos,after,gd⟩).run cx.P w=.ok (.enter fn vals) w->Oper.wpIn (K2 ro) 0 cx.P ⟨dst,.call ⟨.value f,args,Hd⟩,ty,pos,after,gd⟩ a w next Q:=by
   intro fn l vals hc hs hv CV;refine UH (fun c e=>by cases e) ?_;unfold Oper.wp;rw[CV];exact mW hS.inv hc hs hv (fun v r h' g' w' hq _ hI Jo hr=>hn r _ g' w' v (hQ r h' hq).2 hI Jo (hr.up _)) (fun r h' hq=>(hQ r h' hq).1)
  unfold F3 at hc;split at hc
  .rename_i fn e;rw[e]at hF;have hx:=hF.v_eq;refine fin hc CN Mn ?_;have Uh : a.eval f=.func (.func fn) #[] #[]:=hx;simp only[execOp,resolve,Uh,Deferred.ofValue,Sem.run_bind,Sem.run_pure,Result.andThen_ok,invoke];rw[FO hc.1];simp
  .rename_i fn caps e;rw[e]at hF;generalize hx:a.eval f=fv at hF;cases hF with
   |clo _ _ _ vs EC Pf=>
    refine fin hc (vals:=args.map a.eval++vs) aa0 (fun i av x h1 h2=>?_) ?_
    .grind
    .simp only[execOp,resolve,hx,Deferred.ofValue,Sem.run_bind,Sem.run_pure,Result.andThen_ok,invoke];rw[FO hc.1];simp
  .rename_i l e;rw[e]at hF;have hU:L Ab=DS:=by grind [L,DS,Ab]
   refine yl l _ hF.v_eq (U6 (C:=YieldAt Fence.wide 0 cx.P l (args.map a.eval) w) (R:=fun e w'=>∃v,e=.returned v/\next (a.put dst v) w') YieldAt.imp hS.inv (fun wF=>hc g w _ CN (fun i av x h1 h2=>by grind) wF trivial)
    (fun v r h' g' w' hq _ hI Jo hr=>⟨v,rfl,hn r _ g' w' v (hQ r h' hq).2 hI Jo (hr.up _)⟩) (fun r h' hq=>(hQ r h' hq).1)) fun _ _ h=>h
  simp_all
 have pure:(∃res,Rw cx.P (str st.h (ev st.t f)) ((args.toList.map (ev st.t)).map (str st.h)) res/\K res st.h)->Oper.wpIn (K2 ro) 0 cx.P ⟨dst,.call ⟨.value f,args,Hd⟩,ty,pos,after,gd⟩ a w next Q:=by
  rintro⟨res,h1,h2⟩
  refine go (fun r h'=>r=res/\h'=Ab) (fun r h' hq=>⟨hq.2,by simp_all⟩) ?_;unfold Rw at h1;unfold F3;split at h1
  .rename_i fn e;rw[e];exact h1
  .rename_i fn caps e;rw[e];exact h1
  simp_all
 unfold Gs at hk
 .obtain⟨m,hm⟩:=hk;cases m with
  |pure=>grind
  |rel=>grind
  |gen σ nn=>
   simp only at hm;cases d with
   |none=>simp_all
   |some d=>
    simp only at hm;obtain⟨EZ,hc⟩:=hm;have hσ:Ea σ=true:=aa0
    obtain⟨hR,_⟩:=ai hS.inv hσ;have ko:=(hS.eval f).ren hR;have ik:∀(i:Nat) (av:AV) (x:Value),((args.toList.map (ev st.t)).map (ren (Ck σ) st.h))[i]?=some av->(args.map a.eval)[i]?=some x->O (DA σ g) w (L (Fv σ st.h)) av x:=by
     grind [O.ren,SR.eval]
    have du:(args.map a.eval).size=((args.toList.map (ev st.t)).map (ren (Ck σ) st.h)).length:=aa1
    have fin:∀{fn:Nat} {l:List AV} {vals:Array Value},A1 cx.P fn l (Fv σ st.h) (fun r h'=>K (ren (E2 σ d nn) h' r) (DW σ d nn st.h h'))->vals.size=l.length ->
      (∀(i:Nat) (av:AV) (x:Value),l[i]?=some av->vals[i]?=some x->O (DA σ g) w (L (Fv σ st.h)) av x) ->
      (execOp a.eval ⟨dst,.call ⟨.value f,args,Hd⟩,ty,pos,after,gd⟩).run cx.P w=.ok (.enter fn vals) w->Oper.wpIn (K2 ro) 0 cx.P ⟨dst,.call ⟨.value f,args,Hd⟩,ty,pos,after,gd⟩ a w next Q:=by
     intro fn l vals hc hs hv CV;refine UH (fun c e=>by cases e) ?_;unfold Oper.wp;rw[CV];exact qq hS.inv EZ hc hs hv (fun v r h' g' w' hq hI Jo hr=>hn _ _ g' w' v hq hI Jo hr)
    unfold F3 at hc;split at hc
    .rename_i fn e;rw[e]at ko;have hx:a.eval f=.func (.func fn) #[] #[]:=ko.v_eq;refine fin hc du ik ?_;simp only[execOp,resolve,hx,Deferred.ofValue,Sem.run_bind,Sem.run_pure,Result.andThen_ok,invoke];rw[FO hc.1];simp
    .rename_i fn caps e;rw[e]at ko;generalize hx:a.eval f=fv at ko;cases ko with
     |clo _ _ _ vs EC Pf=>
      refine fin hc (vals:=args.map a.eval++vs) aa0 (fun i av x h1 h2=>?_) ?_
      .grind
      .simp only[execOp,resolve,hx,Deferred.ofValue,Sem.run_bind,Sem.run_pure,Result.andThen_ok,invoke];rw[FO hc.1];simp
    .rename_i l e;rw[e]at ko
     exact yl l _ ko.v_eq (NL (C:=YieldAt Fence.wide 0 cx.P l (args.map a.eval) w) (R:=fun e w'=>∃v,e=.returned v/\next (a.put dst v) w') YieldAt.imp hS.inv EZ (fun wF=>hc (DA σ g) w _ du ik wF (hY l σ _ _ _ hσ hS.inv hS.le))
      (fun v r h' g' w' hq hI Jo hr=>⟨v,rfl,hn _ _ g' w' v hq hI Jo hr⟩)) fun _ _ h=>h
    simp_all
  |geny σ nn=>
   simp only at hm;cases d with
   |none=>simp_all
   |some d=>
    simp only at hm;obtain⟨EZ,hc⟩:=hm;have hσ:Ea σ=true:=aa0
    obtain⟨hR,_⟩:=ai hS.inv hσ;have ko:=(hS.eval f).ren hR;have ik:∀(i:Nat) (av:AV) (x:Value),((args.toList.map (ev st.t)).map (ren (Ck σ) st.h))[i]?=some av->(args.map a.eval)[i]?=some x->O (DA σ g) w (L (Fv σ st.h)) av x:=by
     grind [O.ren,SR.eval]
    have du:(args.map a.eval).size=((args.toList.map (ev st.t)).map (ren (Ck σ) st.h)).length:=aa1
    split at hc
    .rename_i fn caps e;rw[e]at ko;generalize hx:a.eval f=fv at ko;cases ko with
     |clo _ _ _ vs EC Pf=>
      have CV:(execOp a.eval ⟨dst,.call ⟨.value f,args,Hd⟩,ty,pos,after,gd⟩).run cx.P w=.ok (.enter fn (args.map a.eval++vs)) w:=by
       simp only[execOp,resolve,hx,Deferred.ofValue,Sem.run_bind,Sem.run_pure,Result.andThen_ok,invoke];rw[FO hc.1];simp
      refine UH (fun c e=>by cases e) ?_;unfold Oper.wp;rw[CV];refine NL (C:=Calls cx.P fn (args.map a.eval++vs) w) (fun h k=>h.mono k) hS.inv EZ (fun wF=>hc.2 (DA σ g) w _ aa0 (fun i av x h1 h2=>?_) wF (fun l=>hY l σ _ _ _ hσ hS.inv hS.le)) (fun v r h' g' w' hq hI Jo hr=>hn _ _ g' w' v hq hI Jo hr)
      grind
    simp_all
end
section
variable {P:Program}{N:Nat}{ds:List Deferred}{w0:World}{g0:D}{h0:Nat->HO}{st:St}{g:D}{a:Act}{w:World}
theorem cq(hT:B8 P cx.T){b:Builtin}{dst:Option Nat}{ty:Nat}{gd:Option (Nat×Bool)}{next:Act->World->Prop}{Q:Exit->Act->World->Prop}(hS:SR N ds w0 g0 h0 st g a w)(hk:FV cx dst st.h b Hd.toList (args.toList.map (ev st.t)) K)(hn:gp w0 g0 h0 st.h g w K fun x w'=>next (a.put dst x) w'):Oper.wp P ⟨dst,.call ⟨.builtin b,args,Hd⟩,ty,pos,after,gd⟩ a w next Q:=by
 have hI:=hS.inv;have hE:=hS.eval;obtain⟨l⟩:=args;obtain⟨tl⟩:=Hd;unfold FV at hk;split at hk
 .rename_i x t e1 e2
  match l,e1 with
  | [y],e1=>
   simp only[A7,HC,JX,and_true]at e1;subst e1;simp only at e2;subst e2;exact Dt (m:=Builtin.len_ #[t] ty #[a.eval y]) (by simp[execOp,resolve,invoke,builtin]) (Bm.does hI (r9 hT hI.objs (hE y) hk)) hn
 .rename_i s x t t' e1 e2
  match l,e1 with
  | [y,z],e1=>
   simp only[A7,HC,JX,and_true]at e1;obtain⟨rfl,rfl⟩:=e1;simp only at e2;subst e2;split at hk
   .rename_i ht;obtain rfl:=A5 ht;exact Dt (m:=Builtin.append_ #[t,t] ty #[a.eval y,a.eval z]) (by simp[execOp,resolve,invoke,builtin]) (gF hI hT (hE y) (hE z) hk) hn
   simp_all
 .rename_i x y Hd e1
  match l,e1 with
  | [y,z],e1=>
   simp only[A7,HC,JX,and_true]at e1;obtain⟨rfl,rfl⟩:=e1;exact Dt (m:=Builtin.max_ ⟨tl⟩ ty #[a.eval y,a.eval z]) (by simp[execOp,resolve,invoke,builtin]) (Bm.does hI (xw (hE y) (hE z) hk)) hn
 .rename_i x y Hd e1
  match l,e1 with
  | [y,z],e1=>
   simp only[A7,HC,JX,and_true]at e1;obtain⟨rfl,rfl⟩:=e1;exact Dt (m:=Builtin.min_ ⟨tl⟩ ty #[a.eval y,a.eval z]) (by simp[execOp,resolve,invoke,builtin]) (Bm.does hI (xz (hE y) (hE z) hk)) hn
 simp_all
theorem vG(hT:B8 P cx.T){next:Act->World->Prop}{Q:Exit->Act->World->Prop}(hS:SR N ds w0 g0 h0 st g a w)(hk:FU cx dr o st K)(hv:∀f args Hd,o.op≠.call ⟨.value f,args,Hd⟩)(hn:gp w0 g0 h0 st.h g w K fun x w'=>next (a.put o.dst x) w'):o.wp P a w next Q:=by
 have hI:=hS.inv;have hE:=hS.eval;obtain⟨dst,op,ty,pos,after,gd⟩:=o;unfold FU at hk;cases op with
 |move x=>exact mn hI (x:=a.eval x) rfl hk (hE x) hn
 |assign x=>
  obtain⟨g',av,h',q1,q2,q3,q4⟩:=gH hI (hE x) hk;exact hn _ _ _ _ _ q1 q2 q3 q4
 |pick c x y=>exact Dt (m:=do pure (if <-asBool (a.eval c)then a.eval x else a.eval y)) (by simp[execOp]) (Bm.does hI (tt (hE c) (hE x) (hE y) hk)) hn
 |alloc e=>exact Dt rfl (mJ hI hT hk) hn
 |box e x=>exact Dt rfl (vQ hI (hE x) hk) hn
 |build t ps=>exact Dt rfl (Bm.does hI (mU hT hE hk)) hn
 |buildSlice t n ps=>exact Dt rfl (U5 hI hT hE hk) hn
 |insert t m k x=>exact bL rfl (OF hI hT (hE m) (hE k) (hE x) hk) hn
 |load t x=>exact Dt rfl (Bm.does hI (Yx hI.objs hT (hE x) hk)) hn
 |store t p x=>exact bL rfl (pv hI hT (hE p) (hE x) hk) hn
 |nilCheck x=>
  obtain⟨h1,h2⟩:=aU (P:=P) (w:=w) (hE x) hk (pos:=pos) (after:=after) (gd:=gd) (dst:=dst) (ty:=ty) (ρ:=a.eval) rfl<;>grind [mn]
 |binOp op t x y u=>exact Dt rfl (Bm.does hI (qi hT (hE x) (hE y) (fun v e=>by subst e;rfl) hk)) hn
 |unOp op t x=>exact Dt rfl (Bm.does hI (uz (hE x) hk)) hn
 |convert s t x=>
  cases dr with
  |true=>exact Dt rfl (Bm.does hI (cD hT (hE x) hk)) hn
  |false=>exact Dt rfl (m6 hI hT (hE x) hk) hn
 |makeFunc fn first cap=>exact Dt rfl (Bm.does hI (aN hI.objs hE hk)) hn
 |makeMap t r=>
  cases r with
  |some r=>simp_all
  |none=>exact Dt rfl (dS hI hk) hn
 |makeSlice t n c=>exact Dt rfl (XA hI hT (hE n) (hE c) hk) hn
 |slice t x lo hi mx=>
  cases dr with
  |true=>
   cases hp:U2 cx.pl.tok dst with
   |none=>
    have hk' : Ix cx dst st.h t (ev st.t x) (CE st.t lo) (CE st.t hi) (CE st.t mx) K:=by
     simp_all
    exact Dt rfl (Zo hI hT hE (hE x) hk') hn
   |some _=>
    have hk' : Ws cx dst st.h t (ev st.t x) lo (CE st.t hi) mx K:=by
     simp_all
    unfold Ws at hk';split at hk'
    .exact Dt rfl (lG hI hT hE (hE x) hk') hn
    simp_all
  |false=>
   cases hp:U2 cx.pl.tok dst with
   |none=>
    have hk' : Ix cx dst st.h t (ev st.t x) (CE st.t lo) (CE st.t hi) (CE st.t mx) K:=by
     simp_all
    exact Dt rfl (Zo hI hT hE (hE x) hk') hn
   |some _=>
    have hk' : tN cx dst st.h t (ev st.t x) st.t lo hi mx K:=by
     simp_all
    cases lo with
    |some lo=>exact Dt rfl (fA hI hT hE (hE x) hk') hn
    |none=>
     unfold tN at hk';dsimp only at hk';split at hk'
     .exact Dt rfl (Bm.does hI (mP hI.objs hT (hE x) hk')) hn
     .unfold Ws at hk';split at hk'
      .exact Dt rfl (lG hI hT hE (hE x) hk') hn
      simp_all
 |fieldAddr s x f=>exact Dt rfl (Bm.does hI (nh hT (hE x) hk)) hn
 |field s x f=>exact Dt rfl (Bm.does hI (g9 hT (hE x) hk)) hn
 |indexAddr t x i=>exact Dt rfl (Bm.does hI (Xv hT (hE x) (hE i) hk)) hn
 |index t x i=>exact Dt rfl (Bm.does hI (nQ hT (hE x) (hE i) hk)) hn
 |lookup t x i ok=>
  have hk:N0 cx.T st.h t (ev st.t x) (ev st.t i) ok fun v=>K v st.h:=by
   grind [oc]
  exact Dt rfl (Bm.does hI (iG hT hI.objs (hE x) (hE i) hk)) hn
 |mapUpdate t m k x=>exact bL rfl (OF hI hT (hE m) (hE k) (hE x) hk) hn
 |range t x=>
  simp only at hk;split at hk
  .rename_i kt e ht;exact Dt rfl (oY hI hT ht (hE x) hk) hn
  simp_all
 |next it s=>
  cases s with
  |true=>simp_all
  |false=>exact Dt rfl (sF hI (hE it) hk) hn
 |entry it=>exact Dt rfl (Bm.does hI (na hI.objs (hE it) hk)) hn
 |extract x i=>exact Dt rfl (Bm.does hI (cS (hE x) hk)) hn
 |call c=>
  obtain⟨cal,args,Hd⟩:=c<;>grind [cq]
 |_=>simp_all
theorem qf(hP:cx.P=P)(hY:∀l σ h g w,Ea σ=true->CH w0 g0 h0 h g w->Le h0 g0 w0 h g w->cx.yp l σ (DA σ g) w){ro:Option Nat}(hT:B8 P cx.T){next:Act->World->Prop}{Q:Exit->Act->World->Prop}(hS:SR N ds w0 g0 h0 st g a w)(hk:FU cx dr o st K)(hn:gp w0 g0 h0 st.h g w K fun x w'=>next (a.put o.dst x) w'):o.wpIn (K2 ro) 0 P a w next Q:=by
 by_cases hv:∃f args Hd,o.op=.call ⟨.value f,args,Hd⟩
 .obtain⟨f,args,Hd,e⟩:=hv;obtain⟨dst,op,ty,pos,after,gd⟩:=o;cases e;exact qo hP hY hS hk hn
 .refine UH (fun c e=>?_) (vG hT hS hk (fun f args Hd e=>hv ⟨f,args,Hd,e⟩) hn);obtain⟨dst,op,ty,pos,after,gd⟩:=o;cases e;exact hk.elim
theorem AfJ{p:Nat->Prop}(h:∃n,p n):∃n,p n/\∀m,m<n->¬p m:=by
 apply AH;intro hc
 have:∀n,¬p n:=fun n=>by
  induction n using Nat.strongRecOn<;>grind [Nat.strongRecOn]
 simp_all
theorem Uq{m:Nat}{c:Code}{Q:Exit->Act->World->Prop}(I:Nat->Act->World->Prop)(k:Nat)(h0:I k a w)(round:∀n a w,I n a w->c.wpIn F m P (Exit.then (fun a' w'=>∃n',n' < n/\I n' a' w') Q) a w):(Code.loop c).wpIn F m P Q a w:=by
 classical
 have hex:∀a w,(∃n,I n a w)->∃n,I n a w/\∀n',n' < n->¬I n' a w:=fun a w h=>AfJ h;refine wpIn_loop (fun a w=>∃n,I n a w) (fun a w=>if h:∃n,I n a w then(hex a w h).choose else 0) ⟨k,h0⟩ fun a w h=>?_;have hs:=(hex a w h).choose_spec;refine wpIn_mono (round _ a w hs.1) fun e a' w' q=>?_;cases e with
 |normal=>
  obtain⟨n',CL,hn⟩:=q;have h' : ∃n,I n a' w':=⟨n',hn⟩;refine⟨h',?_⟩
  grind
 |_=>exact q
end
end Go.Eng
