/- Lemmas for the claims of this seat, without a condition: part 13 (EngZA, EngZB, EngZBc). -/
import Derived.Test.YteaiieomnhbmgaaGreatDoorA12
namespace Go.Eng
variable {o:Oper}{K:HK}{args:Array Operand}{cx:Cx}{Hg:Array TypeId}{after:Array Edge}{dr:Bool}{pos:String}{x:Value}{F:Fence}{o2:Oper}{T:GU}
structure SR(N:Nat)(ds:List Deferred)(w0:World)(g0:Gh)(h0:Nat->HO)(st:St)(g:Gh)(a:Act)(w:World):Prop where
 inv:DX w0 g0 h0 st.h g w
 le:Le h0 g0 w0 st.h g w
 dfs:a.defers=ds
 size:a.tmps.size=N
 slots:∀i,BM g w (AQ st.h) (st.t i) (a.tmps.getD i undef)
section
variable {P:Program}{N:Nat}{ds:List Deferred}{w0:World}{g0:Gh}{h0:Nat->HO}{st:St}{g:Gh}{a:Act}{w:World}
theorem SR.eval(hS:SR N ds w0 g0 h0 st g a w)(x:Operand):BM g w (AQ st.h) (ev st.t x) (a.eval x):=by
 cases x with
 |tmp i=>exact hS.slots i
 |const v=>exact .v _ _
 |global b=>exact .v _ _
 |func f=>exact .v _ _
theorem SR.put(hS:SR N ds w0 g0 h0 st g a w){d:Option Nat}(hd:∀i,d=some i->i<N){v:AV}{x:Value}{h' : Nat->HO}{g' : Gh}{w' : World}(hI:DX w0 g0 h0 h' g' w')(H2:Le st.h g w h' g' w')(hr:BM g' w' (AQ h') v x) :
  SR N ds w0 g0 h0 (st.put d v h') g' (a.put d x) w':=by
 have old:∀i,BM g' w' (AQ h') (st.t i) (a.tmps.getD i undef):=fun i=>(hS.slots i).le H2;cases d with
 |none=>exact⟨hI,hS.le.trans H2,hS.dfs,hS.size,old⟩
 |some d =>
  have hdN:=hd d rfl;refine⟨hI,hS.le.trans H2,hS.dfs,by simp[Act.put,hS.size],fun i=>?_⟩;simp only[St.put,Act.put,HG]
  by_cases e:i=d
  .subst e
   have:i<a.tmps.size:=by rw[hS.size];exact hdN
   simp only[Di,KC];rw[CD,Array.getElem?_setIfInBounds_self,Al this];exact hr
  .simp only[CW e,Ek];rw[CD,Array.getElem?_setIfInBounds_ne (Ne.symm e),<-CD];exact old i
def bA(w0:World)(g0:Gh)(h0 h:Nat->HO)(g:Gh)(w:World)(K:HK)(next:Value->World->Prop):Prop :=
 ∀v h' g' w' x,K v h'->DX w0 g0 h0 h' g' w'->Le h g w h' g' w'->BM g' w' (AQ h') v x->next x w'
theorem D8{m:Sem Value}{next:Act->World->Prop}{Q:Exit->Act->World->Prop}(hx:execOp a.eval o=(do pure (Next.value (<-m))))(hd:Og P w0 g0 h0 st.h g w m K)(hn:bA w0 g0 h0 st.h g w K fun x w'=>next (a.put o.dst x) w'):o.wp P a w next Q:=by
 obtain⟨x,w',g',av,h',h1,h2,h3,h4,h5⟩:=hd;unfold Oper.wp;rw[hx,Sem.run_bind,h1];exact hn av h' g' w' x h2 h3 h4 h5
theorem YT{m:Sem Unit}{next:Act->World->Prop}{Q:Exit->Act->World->Prop}(hx:execOp a.eval o=(do m;pure Next.skip))(hd:jR P w0 g0 h0 st.h g w m K)(hn:bA w0 g0 h0 st.h g w K fun x w'=>next (a.put o.dst x) w'):o.wp P a w next Q:=by
 obtain⟨w',g',h',h1,h2,h3,h4⟩:=hd;unfold Oper.wp;rw[hx,Sem.run_bind,h1];exact hn _ h' g' w' undef h2 h3 h4 (.v _ _)
theorem fY{next:Act->World->Prop}{Q:Exit->Act->World->Prop}{v:AV}(hI:DX w0 g0 h0 st.h g w)(hx:(execOp a.eval o).run P w=.ok (.value x) w)(hk:K v st.h)(hr:BM g w (AQ st.h) v x)(hn:bA w0 g0 h0 st.h g w K fun x w'=>next (a.put o.dst x) w'):o.wp P a w next Q:=by
 unfold Oper.wp;rw[hx];exact hn _ _ _ _ _ hk hI (.refl _ _ _) hr
theorem TV{C:(Ending->World->Prop)->Prop}(hm:∀{R R' : Ending->World->Prop},C R->(∀e w,R e w->R' e w)->C R')(hI:DX w0 g0 h0 st.h g w){Q:AV->(Nat->HO)->Prop}
  (hc:DX w g Af Af g w->C (fun e w'=>∃v r h' g',e=Ending.returned v/\Q r h'/\BM g' w' (AQ h') r v/\DX w g Af h' g' w'/\Le Af g w h' g' w')) {R:Ending->World->Prop}
  (hR:∀v r h' g' w',Q r h'->h'=Af->DX w0 g0 h0 st.h g' w'->Le st.h g w st.h g' w'->BM g' w' Fw r v->R (.returned v) w') (hQ:∀r h',Q r h'->h'=Af):C R:=by
 have hU:AQ Af=Fw:=by funext i;unfold AQ Fw Af;simp
 have pn:DX w g Af Af g w:=⟨rfl,rfl,rfl,Aj _,fun _ _ _=>rfl,hI.slt,fun _=>trivial,fun _ _ _ h=>h.elim,fun _ _ h=>h.elim,fun _ _ h=>.inl h,hI.glob⟩;refine hm (hc pn) ?_
 rintro e w' ⟨v,r,h',g',rfl,q1,q2,q3,q4⟩
 obtain rfl:=hQ r h' q1;rw[hU]at q2
 -- the caller's ghost,with the callee's stable cells
 have hk:EH g w ⟨g.ρ,g.ln,g.tk,g.own,g'.S⟩ w':=q4.keeps;have hg:KN g ⟨g.ρ,g.ln,g.tk,g.own,g'.S⟩ (AQ st.h):=fun _ _=>⟨rfl,Aj _,fun _=>rfl,fun _=>rfl⟩;have jL:∀b,b<w.heap.size->w'.heap[b]?=w.heap[b]?:=fun b hb=>q3.frame b hb (fun _ h=>h.elim);have hSs:∀b o,g'.S b o->b<w.heap.size->g.S b o:=fun b o hs hb=>by
  rcases q3.sg b o hs with h1 | h1 | ⟨_,h1,_⟩
  .exact h1
  .omega
  .exact h1.elim
 refine hR v r Af ⟨g.ρ,g.ln,g.tk,g.own,g'.S⟩ w' q1 rfl ⟨q3.os.trans hI.os,q3.tape.trans hI.tape,q3.output.trans hI.output,AJ hI.size q3.size,fun b hb hn=>?_,q3.slt,fun i=>?_,hI.inj,fun i b hl ho=>?_,fun b o hs=>?_,hI.glob.keep hk⟩ ⟨hg,fun _ h=>h,hk⟩ ?_
 .exact(jL b (By hb hI.size)).trans (hI.frame b hb hn)
 .refine(hI.objs i).same hk (fun _ h=>h) hg rfl rfl rfl rfl (fun b hl ho=>?_);have Dz:=(hI.loc i b hl ho).1;exact⟨jL b Dz,fun k hs=>hSs b k hs Dz⟩
 .obtain⟨h1,h2⟩:=hI.loc i b hl ho;exact⟨By h1 q3.size,h2⟩
 .rcases q3.sg b o hs with h1 | h1 | ⟨_,h1,_⟩
  .exact hI.sg b o h1
  .exact .inr (.inl (AJ hI.size h1))
  .exact h1.elim
 .have:EH g' w' ⟨g.ρ,g.ln,g.tk,g.own,g'.S⟩ w':=fun b o h=>⟨h,rfl,fun _ _ h=>h⟩
  exact q2.mono this (fun _ h=>h) (fun _ h=>h.elim)
theorem gE(hI:DX w0 g0 h0 st.h g w){f:Nat}{args:List AV}{Q:AV->(Nat->HO)->Prop}(hc:A9 P f args Af Q){vals:Array Value}(hs:vals.size=args.length)
  (hv:∀(i:Nat) (av:AV) (x:Value),args[i]?=some av->vals[i]?=some x->BM g w Fw av x) {R:Ending->World->Prop}
  (hR:∀v r h' g' w',Q r h'->h'=Af->DX w0 g0 h0 st.h g' w'->Le st.h g w st.h g' w'->BM g' w' Fw r v->R (.returned v) w') (hQ:∀r h',Q r h'->h'=Af):Calls P f vals w R :=
 have hU:AQ Af=Fw:=by funext i;unfold AQ Fw Af;simp
 TV (C:=Calls P f vals w) (fun h k=>h.mono k) hI (hc.2 g w vals hs (fun i av x h1 h2=>by rw[hU];exact hv i av x h1 h2)) hR hQ
theorem YieldAt.imp{m:Nat}{P:Program}{l:Nat}{args:Array Value}{W:World}{R R' : Ending->World->Prop}(h:YieldAt F m P l args W R)(hr:∀e w,R e w->R' e w):YieldAt F m P l args W R' :=
 let ⟨fn,t,a,b,h1,h2⟩:=h
 ⟨fn,t,a,b,h1,h2.mono hr⟩
theorem Jp.imp{Y:Gh->World->Prop}{l:Nat}{args:List AV}{h0:Nat->HO}{Q Q' : AV->(Nat->HO)->Prop}(h:Jp P Y l args h0 Q)(hq:∀r h',Q r h'->Q' r h'):Jp P Y l args h0 Q' :=
 fun g w vals q1 q2 q3 q4=>YieldAt.imp (h g w vals q1 q2 q3 q4) fun _ _ ⟨v,r,h',g',e1,e2,rest⟩=>⟨v,r,h',g',e1,hq _ _ e2,rest⟩
theorem Gs.imp{Y:Nat->Gh->World->Prop}{F:AV}{args:List AV}{h0:Nat->HO}{Q Q' : AV->(Nat->HO)->Prop}(h:Gs P Y F args h0 Q)(hq:∀r h',Q r h'->Q' r h'):Gs P Y F args h0 Q':=by
 have one:∀{f:Nat} {l:List AV},A9 P f l h0 Q->A9 P f l h0 Q':=fun hc =>
  ⟨hc.1,fun g w vals q1 q2 q3=>(hc.2 g w vals q1 q2 q3).mono fun _ _ ⟨v,r,h',g',e1,e2,rest⟩=>⟨v,r,h',g',e1,hq _ _ e2,rest⟩⟩
 unfold Gs at h⊢;split at h
 .exact one h
 .exact one h
 .exact Jp.imp h hq
 .exact h.elim
abbrev Kt(ro:Option Nat):Fence:={ Fence.wide with round:=ro }
theorem NE{ro:Option Nat}{a:Act}{w:World}{next:Act->World->Prop}{Q:Exit->Act->World->Prop}(hd:∀c,o.op≠.defer c)(h:o.wp P a w next Q):o.wpIn (Kt ro) 0 P a w next Q:=by
 refine⟨fun _ _=>trivial,?_⟩;have e:o.semAt (Kt ro).round a.eval=execOp a.eval o:=Oper.semAt_eq ro a.eval o hd;rw[e];unfold Oper.wp at h;have key:∀res:Result Next,o.upon P a next Q res->o.uponIn (Kt ro) 0 P a next Q res:=fun res h=>by
  cases res with
  |ok n w'=>cases n with
   |enter f args=>exact(show(_->_)/\CallsIn (Kt ro) 0 P f args w' _ from⟨fun e=>by(cases e),callsIn_wide.2 h⟩)
   |row r args=>exact(show(_->_)/\RowsIn (Kt ro) 0 P r args w' _ from⟨fun e=>by(cases e),fun c cs _=>by
     obtain⟨v,fS,r',s⟩:=h c cs;exact⟨v,fS,r',stepsIn_wide.2 s⟩⟩)
   |round _ _ _ _ _=>exact h.elim
   |_=>exact h
  |halt x w'=>cases x<;>exact h
 exact key _ h
theorem G3{f:Nat}{args:Array Value}(h:FQ P f)(w:World):(callFunc f args).run P w=.ok (.enter f args) w:=by
 obtain⟨fn,h1,h2,h3⟩:=h;simp only[callFunc,Sem.run_bind,run_program,h1,Result.andThen_ok,h2,h3,Dh,Gl,Sem.run_pure]
theorem U9{h:Nat->HO}{a:AV}(ha:fj a=true):ren (CC []) h a=str h a:=by
 have h0:∀a,ren0 (CC []) h a=str0 h a:=fun a=>by
  cases a with
  |slice tk es=>cases tk<;>rfl
  |_=>rfl
 cases a with
 |tup cs=>cases ha
 |agg cs=>show AV.agg _=AV.agg _;exact Aa _ (Bh fun c _=>h0 c)
 |clo f cs=>show AV.clo f _=AV.clo f _;exact Aa _ (Bh fun c _=>h0 c)
 |v x=>exact h0 (.v x)
 |slice tk es=>exact h0 (.slice tk es)
 |msl r n=>exact h0 (.msl r n)
 |cptr cs=>exact h0 (.cptr cs)
 |ref r o=>exact h0 (.ref r o)
 |eref r n sz i o=>exact h0 (.eref r n sz i o)
 |mref r=>exact h0 (.mref r)
 |cmap sh l=>exact h0 (.cmap sh l)
 |junk=>rfl
theorem Rn{h:Nat->HO}:∀{l:List AV},UU l=true->l.map (ren (CC []) h)=l.map (str h)
 | [],_=>rfl
 |a::l,e=>by
  unfold UU at e;split at e
  .rename_i e1;rw[AI,AI,U9 e1,Rn e]
  .cases e
theorem RE:∀{l:List AV} {vs:List Value},Xw l=some vs->l=vs.map .v
 | [],vs,h=>by cases h;rfl
 |.v x::r,vs,h=>by
  unfold Xw at h;split at h
  .rename_i l e;cases h;rw[AI,<-RE e]
  .cases h
theorem gD{d:Option Nat}{st:St}{F:AV}{args:List AV}(hk:GF cx true d st F args K):GF cx false d st F args K:=by
 unfold GF at hk;simp only at hk;split at hk
 .exact⟨.pure,hk⟩
 .split at hk
  .exact hk.elim
  .rename_i d _;obtain⟨n,sz,es,h1,h2,h3⟩:=hk;simp only[Ae]at h1;refine⟨.gen [] 1,?_⟩;show(ED []&&DU st.h d 1&&DA [] d 1)=true/\_;refine⟨by simp[ED,DA,h1.1.1],?_⟩;rw[U9 h1.1.2,Rn h1.2];show Gs cx.P (fun l=>cx.yp l []) _ _ Af _;refine Gs.imp h2 ?_
   rintro r h' ⟨e2,e3⟩
   subst e2;subst e3;have e1:ren (Fq [] d 1) (Ao [(2000,.arr sz es)] Af) (.msl 2000 n)=.msl (BD d 0) n:=rfl;have e2:En [] d 1 st.h (Ao [(2000,.arr sz es)] Af)=A0 st.h (BD d 0) (.arr sz es):=by
    funext i
    by_cases e:i=BD d 0
    .subst e;rw[Bj];have hb:(Nat.ble (BD d 0) (BD d 0)&&Nat.blt (BD d 0) (BD d 1))=true:=by
      unfold BD;simp only[Ae,Dm,Cs];omega
     simp only[En,CC,hb,E1];rfl
    .rw[B6 _ _ _ _ e]
     have:(Nat.ble (BD d 0) i&&Nat.blt i (BD d 1))=false:=by
      unfold BD at e⊢;rw[AM];simp only[WY,Ae,Dm,Cs];omega
     simp only[En,CC,this]
   rw[e1,e2];exact h3
 .split at hk
  .unfold Vq at hk;split at hk
   .exact hk.elim
   .rename_i d _;obtain⟨sz,es,h1,h2,h3⟩:=hk;simp only[Ae]at h1;refine⟨.gen [] 1,?_⟩;show(ED []&&DU st.h d 1&&DA [] d 1)=true/\_;refine⟨by simp[ED,DA,h1.1.1],?_⟩;rw[U9 h1.1.2,Rn h1.2];show Gs cx.P (fun l=>cx.yp l []) _ _ Af _;refine Gs.imp h2 ?_
    rintro r h' ⟨e2,e3⟩
    subst e2;subst e3;have e1:ren (Fq [] d 1) (Ao [(2000,.tok sz es.length)] Af) (.slice (.id 2000 sz) es)=.slice (.id (BD d 0) sz) es:=rfl;have e2:En [] d 1 st.h (Ao [(2000,.tok sz es.length)] Af)=A0 st.h (BD d 0) (.tok sz es.length):=by
     funext i
     by_cases e:i=BD d 0
     .subst e;rw[Bj];have hb:(Nat.ble (BD d 0) (BD d 0)&&Nat.blt (BD d 0) (BD d 1))=true:=by
       unfold BD;simp only[Ae,Dm,Cs];omega
      simp only[En,CC,hb,E1];rfl
     .rw[B6 _ _ _ _ e]
      have:(Nat.ble (BD d 0) i&&Nat.blt i (BD d 1))=false:=by
       unfold BD at e⊢;rw[AM];simp only[WY,Ae,Dm,Cs];omega
      simp only[En,CC,this]
    rw[e1,e2];exact h3
  split at hk
  .unfold RF at hk;split at hk
   .rename_i d l vs e2 z1;have hl:=RE e2;split at hk
    .rename_i r sz es fN n e3 e4;obtain⟨⟨rfl,rfl⟩,v,FP,n',h1,h2⟩:=hk;refine⟨.gen [(1000,1000),(1001,1001)] 0,?_⟩;show(ED [(1000,1000),(1001,1001)]&&DU st.h d 0&&DA [(1000,1000),(1001,1001)] d 0)=true/\_;refine⟨?_,?_⟩
     .have:DA [(1000,1000),(1001,1001)] d 0=true:=by
       have q:∀r:Nat,(Nat.ble (BD d 0) r&&Nat.blt r (BD d 0))=false:=fun r=>by
        rw[AM];simp only[WY,Ae,Dm,Cs];omega
       simp only[DA,q,Bool.not_false,Bool.and_self]
      rw[this];rfl
     have f1:args.map (ren (CC [(1000,1000),(1001,1001)]) st.h)=vs.map .v:=by rw[hl,Bo];rfl
     have f2:FO [(1000,1000),(1001,1001)] st.h=Ao [(1000,.cells [.slice (.id 1001 fN) es]),(1001,.tok fN n)] Af:=by
      unfold FO YF YF YF;rw[e3,e4];rfl
     rw[f1,f2];refine Jp.imp h1 ?_
     rintro r h' ⟨g1,g2⟩
     subst g1;subst g2;have f3:En [(1000,1000),(1001,1001)] d 0 st.h (Ao [(1000,.cells [.slice (.id 1001 fN) FP]),(1001,.tok fN n')] Af)=A0 (A0 st.h 1001 (.tok fN n')) 1000 (.cells [.slice (.id 1001 fN) FP]):=by
      funext i
      by_cases e:i=1000
      .subst e;rw[Bj];rfl
      .rw[B6 _ _ _ _ e]
       by_cases e' : i=1001
       .subst e';rw[Bj];rfl
       .rw[B6 _ _ _ _ e'];have hn:CC [(1000,1000),(1001,1001)] i=none:=by simp[CC,CW (Ne.symm e),CW (Ne.symm e')]
        have:(Nat.ble (BD d 0) i&&Nat.blt i (BD d 0))=false:=by
         rw[AM];simp only[WY,Ae,Dm,Cs];omega
        simp only[En,hn,this]
     rw[f3];exact h2
    .exact hk.elim
   .exact hk.elim
  unfold Ql at hk;split at hk
  .unfold ZP at hk;split at hk
   .rename_i d f _;obtain⟨σ,H0,Hn,args',res,g1,g2,g3,g4⟩:=hk;simp only[Ae]at g2;obtain⟨k1,k2⟩:=g1 st.h fun _ _=>rfl;refine⟨.gen σ 0,?_⟩;show(ED σ&&DU st.h d 0&&DA σ d 0)=true/\_;refine⟨by rw[g2.1.1,g2.1.2];rfl,?_⟩;rw[k1,k2];refine Gs.imp (show Gs cx.P (fun l=>cx.yp l σ) (.v (.func (.func f) ⟨[]⟩ ⟨[]⟩)) args' (Ao H0 Af) (fun r h'=>r=res/\h'=Ao Hn Af)from g3) ?_
    rintro r h' ⟨e1,e2⟩
    rw[e1,e2];exact g4
   .exact hk.elim
  unfold Sy at hk;split at hk
  .rename_i dd f r n l _;split at hk
   .rename_i vs cI;have hl:=RE cI;subst hl;split at hk
    .rename_i sz es hr;have hf:CC [(r,1000)] r=some 1000:=by simp[CC]
     have e1:ren (CC [(r,1000)]) st.h (.v (.func (.func f) ⟨[]⟩ ⟨[]⟩))=.v (.func (.func f) ⟨[]⟩ ⟨[]⟩):=rfl;have e2:(AV.msl r n::vs.map AV.v).map (ren (CC [(r,1000)]) st.h)=.msl 1000 n::vs.map .v:=by
      rw[AI]
      congr 1
      .simp[ren,ren1,ren0,hf]
      .rw[Bo];rfl
     have e3:FO [(r,1000)] st.h=Ao [(1000,.arr sz es)] Af:=by
      unfold FO YF;rw[hr];rfl
     split at hk
     .obtain⟨n',FP,h1,h2⟩:=hk;refine⟨.gen [(r,1000)] 0,?_⟩;show(ED [(r,1000)]&&DU st.h dd 0&&DA [(r,1000)] dd 0)=true/\_;refine⟨?_,?_⟩
      .have:DA [(r,1000)] dd 0=true:=by
        unfold DA
        have:(Nat.ble (BD dd 0) r&&Nat.blt r (BD dd 0))=false:=by
         rw[AM];simp only[WY,Ae,Dm,Cs];omega
        rw[this];rfl
       rw[this];rfl
      rw[e1,e2,e3];refine⟨h1.1,fun g w vals q1 q2 q3=>(h1.2 g w vals q1 q2 q3).mono fun _ _ ⟨v,r',h',g',e1,⟨e2,e3⟩,rest⟩=>⟨v,r',h',g',e1,?_,rest⟩⟩;subst e2;subst e3;have f1:ren (Fq [(r,1000)] dd 0) (Ao [(1000,.arr sz FP)] Af) (.msl 1000 n')=.msl r n':=rfl;have f2:En [(r,1000)] dd 0 st.h (Ao [(1000,.arr sz FP)] Af)=A0 st.h r (.arr sz FP):=by
       funext i
       by_cases e:i=r
       .subst e;rw[Bj];simp[En,hf,Ao,HO.ren]
       .rw[B6 _ _ _ _ e];have hn:CC [(r,1000)] i=none:=by simp[CC,CW (Ne.symm e)]
        have:(Nat.ble (BD dd 0) i&&Nat.blt i (BD dd 0))=false:=by
         rw[AM];simp only[WY,Ae,Dm,Cs];omega
        simp only[En,hn,this]
      rw[f1,f2];exact h2
     .obtain⟨n',FP,h0,h1,h2⟩:=hk;simp only[Ae,Cs,CE]at h0;have hrd:r≠BD dd 0:=fun e=>by have:=h0.2;rw[e]at this;simp at this
      refine⟨.gen [(r,1000)] 1,?_⟩;show(ED [(r,1000)]&&DU st.h dd 1&&DA [(r,1000)] dd 1)=true/\_;refine⟨?_,?_⟩
      .have:DA [(r,1000)] dd 1=true:=by
        unfold DA
        have:(Nat.ble (BD dd 0) r&&Nat.blt r (BD dd 1))=false:=by
         rw[AM];simp only[WY,Ae,Dm,Cs];unfold BD at hrd⊢;omega
        rw[this];rfl
       rw[this,h0.1.1];rfl
      rw[e1,e2,e3];refine⟨h1.1,fun g w vals q1 q2 q3=>(h1.2 g w vals q1 q2 q3).mono fun _ _ ⟨v,r',h',g',e1,⟨e2,e3⟩,rest⟩=>⟨v,r',h',g',e1,?_,rest⟩⟩;subst e2;subst e3;have f1:ren (Fq [(r,1000)] dd 1) (Ao [(1000,.dead),(2000,.arr sz FP)] Af) (.msl 2000 n')=.msl (BD dd 0) n':=rfl;have f2:En [(r,1000)] dd 1 st.h (Ao [(1000,.dead),(2000,.arr sz FP)] Af)=A0 (A0 st.h r .dead) (BD dd 0) (.arr sz FP):=by
       funext i
       by_cases e:i=BD dd 0
       .subst e;rw[Bj];have hn:CC [(r,1000)] (BD dd 0)=none:=by simp[CC,CW hrd]
        have hb:(Nat.ble (BD dd 0) (BD dd 0)&&Nat.blt (BD dd 0) (BD dd 1))=true:=by
         unfold BD;simp only[Ae,Dm,Cs];omega
        simp only[En,hn,hb,E1];rfl
       .rw[B6 _ _ _ _ e]
        by_cases e4:i=r
        .subst e4;rw[Bj];simp[En,hf,Ao,HO.ren]
        .rw[B6 _ _ _ _ e4];have hn:CC [(r,1000)] i=none:=by simp[CC,CW (Ne.symm e4)]
         have:(Nat.ble (BD dd 0) i&&Nat.blt i (BD dd 1))=false:=by
          rw[AM];simp only[WY,Ae,Dm,Cs];unfold BD at e⊢;omega
         simp only[En,hn,this]
      rw[f1,f2];exact h2
    .exact hk.elim
   .exact hk.elim
  .exact hk.elim
theorem kn{d:Option Nat}{f:Operand}{dst:Option Nat}{ty:Nat}{gd:Option (Nat×Bool)}{next:Act->World->Prop}{Q:Exit->Act->World->Prop}(hP:cx.P=P)(hY:∀l σ h g w,ED σ=true->DX w0 g0 h0 h g w->Le h0 g0 w0 h g w->cx.yp l σ (DM σ g) w){ro:Option Nat}(hS:SR N ds w0 g0 h0 st g a w)(hk:GF cx dr d st (ev st.t f) (args.toList.map (ev st.t)) K)(hn:bA w0 g0 h0 st.h g w K fun x w'=>next (a.put dst x) w'):Oper.wpIn (Kt ro) 0 P ⟨dst,.call ⟨.value f,args,Hg⟩,ty,pos,after,gd⟩ a w next Q:=by
 subst hP;have hk:GF cx false d st (ev st.t f) (args.toList.map (ev st.t)) K:=by
  cases dr with
  |true=>exact gD hk
  |false=>exact hk
 have J3:∀(i:Nat) (av:AV) (x:Value),((args.toList.map (ev st.t)).map (str st.h))[i]?=some av->(args.map a.eval)[i]?=some x->BM g w Fw av x:=by
  intro i av x h1 h2;rw[AG,AG]at h1;rw[OU]at h2;cases ho:args[i]? with
  |none=>rw[ho]at h2;simp at h2
  |some y =>
   rw[ho]at h2;have hy:args.toList[i]?=some y:=by simpa using ho
   rw[hy]at h1;simp only[H6,Bw]at h1 h2;subst h1;subst h2;exact BM.str hS.inv.objs (hS.eval y)
 have CL:(args.map a.eval).size=((args.toList.map (ev st.t)).map (str st.h)).length:=by simp
 have hF:=BM.str hS.inv.objs (hS.eval f)
 -- a call of yield
 have yl:∀(l:Nat) (R:Ending->World->Prop),a.eval f=.func (.yield l) #[] #[]->YieldAt Fence.wide 0 cx.P l (args.map a.eval) w R->(∀e w',R e w'->∃v,e=.returned v/\next (a.put dst v) w') ->
   Oper.wpIn (Kt ro) 0 cx.P ⟨dst,.call ⟨.value f,args,Hg⟩,ty,pos,after,gd⟩ a w next Q:=by
  rintro l R hx ⟨fn,tm,G6,bd,h1,h2⟩ hR
  refine⟨fun _ _=>trivial,?_⟩;have e:(⟨dst,.call ⟨.value f,args,Hg⟩,ty,pos,after,gd⟩:Oper).semAt (Kt ro).round a.eval=execOp a.eval ⟨dst,.call ⟨.value f,args,Hg⟩,ty,pos,after,gd⟩:=Oper.semAt_eq ro a.eval _ (fun c e=>by cases e);have CP:(execOp a.eval ⟨dst,.call ⟨.value f,args,Hg⟩,ty,pos,after,gd⟩).run cx.P w=.ok (.round l fn tm G6 bd) w:=by
   simp only[execOp,resolve,hx,Deferred.ofValue,Sem.run_bind,Sem.run_pure,Result.andThen_ok,invoke];simpa using h1
  rw[e,CP];refine(show(_->_)/\RoundIn (Kt ro) 0 cx.P l fn tm G6 bd w _ from⟨fun e=>by(cases e),RoundIn.mono h2 fun e w' h=>?_⟩);obtain⟨v,rfl,hn⟩:=hR e w' h;exact hn
 -- the call itself
 have go:∀(Q' : AV->(Nat->HO)->Prop),(∀r h',Q' r h'->h'=Af/\K r st.h)->Gs cx.P (fun _ _ _=>True) (str st.h (ev st.t f)) ((args.toList.map (ev st.t)).map (str st.h)) Af Q' ->
   Oper.wpIn (Kt ro) 0 cx.P ⟨dst,.call ⟨.value f,args,Hg⟩,ty,pos,after,gd⟩ a w next Q:=by
  intro Q' hQ hc
  have fin:∀{fn:Nat} {l:List AV} {vals:Array Value},A9 cx.P fn l Af Q'->vals.size=l.length->(∀(i:Nat) (av:AV) (x:Value),l[i]?=some av->vals[i]?=some x->BM g w Fw av x) ->
    (execOp a.eval ⟨dst,.call ⟨.value f,args,Hg⟩,ty,pos,after,gd⟩).run cx.P w=.ok (.enter fn vals) w->Oper.wpIn (Kt ro) 0 cx.P ⟨dst,.call ⟨.value f,args,Hg⟩,ty,pos,after,gd⟩ a w next Q:=by
   intro fn l vals hc hs hv CP;refine NE (fun c e=>by cases e) ?_;unfold Oper.wp;rw[CP];exact gE hS.inv hc hs hv (fun v r h' g' w' hq _ hI H2 hr=>hn r _ g' w' v (hQ r h' hq).2 hI H2 (hr.up _)) (fun r h' hq=>(hQ r h' hq).1)
  unfold Gs at hc;split at hc
  .rename_i fn e;rw[e]at hF;have hx:=hF.v_eq;refine fin hc CL J3 ?_;have Mw : a.eval f=.func (.func fn) #[] #[]:=hx;simp only[execOp,resolve,Mw,Deferred.ofValue,Sem.run_bind,Sem.run_pure,Result.andThen_ok,invoke];rw[G3 hc.1];simp
  .rename_i fn caps e;rw[e]at hF;generalize hx:a.eval f=fv at hF;cases hF with
   |clo _ _ _ vs EM L1 =>
    refine fin hc (vals:=args.map a.eval++vs) (by simp[EM]) (fun i av x h1 h2=>?_) ?_
    .rw[ME]at h1;rw[Iv]at h2;have hl:((args.toList.map (ev st.t)).map (str st.h)).length=(args.map a.eval).size:=CL.symm;rw[hl]at h1;split at h1
     .rename_i hi;rw[Al hi]at h2;exact J3 i av x h1 h2
     .rename_i hi;rw[Ai hi]at h2;exact L1 _ av x h1 h2
    .simp only[execOp,resolve,hx,Deferred.ofValue,Sem.run_bind,Sem.run_pure,Result.andThen_ok,invoke];rw[G3 hc.1];simp
  .rename_i l e;rw[e]at hF;have hU:AQ Af=Fw:=by funext i;unfold AQ Fw Af;simp
   refine yl l _ hF.v_eq (TV (C:=YieldAt Fence.wide 0 cx.P l (args.map a.eval) w) (R:=fun e w'=>∃v,e=.returned v/\next (a.put dst v) w') YieldAt.imp hS.inv (fun pn=>hc g w _ CL (fun i av x h1 h2=>by rw[hU];exact J3 i av x h1 h2) pn trivial)
    (fun v r h' g' w' hq _ hI H2 hr=>⟨v,rfl,hn r _ g' w' v (hQ r h' hq).2 hI H2 (hr.up _)⟩) (fun r h' hq=>(hQ r h' hq).1)) fun _ _ h=>h
  .exact hc.elim
 have pure:(∃res,QD cx.P (str st.h (ev st.t f)) ((args.toList.map (ev st.t)).map (str st.h)) res/\K res st.h)->Oper.wpIn (Kt ro) 0 cx.P ⟨dst,.call ⟨.value f,args,Hg⟩,ty,pos,after,gd⟩ a w next Q:=by
  rintro⟨res,h1,h2⟩
  refine go (fun r h'=>r=res/\h'=Af) (fun r h' hq=>⟨hq.2,by rw[hq.1];exact h2⟩) ?_;unfold QD at h1;unfold Gs;split at h1
  .rename_i fn e;rw[e];exact h1
  .rename_i fn caps e;rw[e];exact h1
  .exact h1.elim
 unfold GF at hk
 .obtain⟨m,hm⟩:=hk;cases m with
  |pure=>exact pure hm
  |rel=>exact go _ (fun r h' hq=>hq) hm
  |gen σ nn =>
   simp only at hm;cases d with
   |none=>exact hm.elim
   |some d =>
    simp only at hm;obtain⟨GM,hc⟩:=hm;have hσ:ED σ=true:=by simp only[Ae]at GM;exact GM.1.1
    obtain⟨hR,_⟩:=Yh hS.inv hσ;have lk:=(hS.eval f).ren hR;have Ul:∀(i:Nat) (av:AV) (x:Value),((args.toList.map (ev st.t)).map (ren (CC σ) st.h))[i]?=some av->(args.map a.eval)[i]?=some x->BM (DM σ g) w (AQ (FO σ st.h)) av x:=by
     intro i av x h1 h2;rw[AG,AG]at h1;rw[OU]at h2;cases ho:args[i]? with
     |none=>rw[ho]at h2;simp at h2
     |some y =>
      rw[ho]at h2;have hy:args.toList[i]?=some y:=by simpa using ho
      rw[hy]at h1;simp only[H6,Bw]at h1 h2;subst h1;subst h2;exact(hS.eval y).ren hR
    have Mm:(args.map a.eval).size=((args.toList.map (ev st.t)).map (ren (CC σ) st.h)).length:=by simp
    have fin:∀{fn:Nat} {l:List AV} {vals:Array Value},A9 cx.P fn l (FO σ st.h) (fun r h'=>K (ren (Fq σ d nn) h' r) (En σ d nn st.h h'))->vals.size=l.length ->
      (∀(i:Nat) (av:AV) (x:Value),l[i]?=some av->vals[i]?=some x->BM (DM σ g) w (AQ (FO σ st.h)) av x) ->
      (execOp a.eval ⟨dst,.call ⟨.value f,args,Hg⟩,ty,pos,after,gd⟩).run cx.P w=.ok (.enter fn vals) w->Oper.wpIn (Kt ro) 0 cx.P ⟨dst,.call ⟨.value f,args,Hg⟩,ty,pos,after,gd⟩ a w next Q:=by
     intro fn l vals hc hs hv CP;refine NE (fun c e=>by cases e) ?_;unfold Oper.wp;rw[CP];exact ko hS.inv GM hc hs hv (fun v r h' g' w' hq hI H2 hr=>hn _ _ g' w' v hq hI H2 hr)
    unfold Gs at hc;split at hc
    .rename_i fn e;rw[e]at lk;have hx:a.eval f=.func (.func fn) #[] #[]:=lk.v_eq;refine fin hc Mm Ul ?_;simp only[execOp,resolve,hx,Deferred.ofValue,Sem.run_bind,Sem.run_pure,Result.andThen_ok,invoke];rw[G3 hc.1];simp
    .rename_i fn caps e;rw[e]at lk;generalize hx:a.eval f=fv at lk;cases lk with
     |clo _ _ _ vs EM L1 =>
      refine fin hc (vals:=args.map a.eval++vs) (by simp[EM]) (fun i av x h1 h2=>?_) ?_
      .rw[ME]at h1;rw[Iv]at h2;have hl:((args.toList.map (ev st.t)).map (ren (CC σ) st.h)).length=(args.map a.eval).size:=Mm.symm;rw[hl]at h1;split at h1
       .rename_i hi;rw[Al hi]at h2;exact Ul i av x h1 h2
       .rename_i hi;rw[Ai hi]at h2;exact L1 _ av x h1 h2
      .simp only[execOp,resolve,hx,Deferred.ofValue,Sem.run_bind,Sem.run_pure,Result.andThen_ok,invoke];rw[G3 hc.1];simp
    .rename_i l e;rw[e]at lk
     exact yl l _ lk.v_eq (Nl (C:=YieldAt Fence.wide 0 cx.P l (args.map a.eval) w) (R:=fun e w'=>∃v,e=.returned v/\next (a.put dst v) w') YieldAt.imp hS.inv GM (fun pn=>hc (DM σ g) w _ Mm Ul pn (hY l σ _ _ _ hσ hS.inv hS.le))
      (fun v r h' g' w' hq hI H2 hr=>⟨v,rfl,hn _ _ g' w' v hq hI H2 hr⟩)) fun _ _ h=>h
    .exact hc.elim
  |geny σ nn =>
   simp only at hm;cases d with
   |none=>exact hm.elim
   |some d =>
    simp only at hm;obtain⟨GM,hc⟩:=hm;have hσ:ED σ=true:=by simp only[Ae]at GM;exact GM.1.1
    obtain⟨hR,_⟩:=Yh hS.inv hσ;have lk:=(hS.eval f).ren hR;have Ul:∀(i:Nat) (av:AV) (x:Value),((args.toList.map (ev st.t)).map (ren (CC σ) st.h))[i]?=some av->(args.map a.eval)[i]?=some x->BM (DM σ g) w (AQ (FO σ st.h)) av x:=by
     intro i av x h1 h2;rw[AG,AG]at h1;rw[OU]at h2;cases ho:args[i]? with
     |none=>rw[ho]at h2;simp at h2
     |some y =>
      rw[ho]at h2;have hy:args.toList[i]?=some y:=by simpa using ho
      rw[hy]at h1;simp only[H6,Bw]at h1 h2;subst h1;subst h2;exact(hS.eval y).ren hR
    have Mm:(args.map a.eval).size=((args.toList.map (ev st.t)).map (ren (CC σ) st.h)).length:=by simp
    split at hc
    .rename_i fn caps e;rw[e]at lk;generalize hx:a.eval f=fv at lk;cases lk with
     |clo _ _ _ vs EM L1 =>
      have CP:(execOp a.eval ⟨dst,.call ⟨.value f,args,Hg⟩,ty,pos,after,gd⟩).run cx.P w=.ok (.enter fn (args.map a.eval++vs)) w:=by
       simp only[execOp,resolve,hx,Deferred.ofValue,Sem.run_bind,Sem.run_pure,Result.andThen_ok,invoke];rw[G3 hc.1];simp
      refine NE (fun c e=>by cases e) ?_;unfold Oper.wp;rw[CP];refine Nl (C:=Calls cx.P fn (args.map a.eval++vs) w) (fun h k=>h.mono k) hS.inv GM (fun pn=>hc.2 (DM σ g) w _ (by simp[EM]) (fun i av x h1 h2=>?_) pn (fun l=>hY l σ _ _ _ hσ hS.inv hS.le)) (fun v r h' g' w' hq hI H2 hr=>hn _ _ g' w' v hq hI H2 hr);rw[ME]at h1;rw[Iv]at h2;have hl:((args.toList.map (ev st.t)).map (ren (CC σ) st.h)).length=(args.map a.eval).size:=Mm.symm;rw[hl]at h1;split at h1
      .rename_i hi;rw[Al hi]at h2;exact Ul i av x h1 h2
      .rename_i hi;rw[Ai hi]at h2;exact L1 _ av x h1 h2
    .exact hc.elim
end
section
variable {P:Program}{N:Nat}{ds:List Deferred}{w0:World}{g0:Gh}{h0:Nat->HO}{st:St}{g:Gh}{a:Act}{w:World}
theorem Zg(hT:CF P cx.T){b:Builtin}{dst:Option Nat}{ty:Nat}{gd:Option (Nat×Bool)}{next:Act->World->Prop}{Q:Exit->Act->World->Prop}(hS:SR N ds w0 g0 h0 st g a w)(hk:Gj cx dst st.h b Hg.toList (args.toList.map (ev st.t)) K)(hn:bA w0 g0 h0 st.h g w K fun x w'=>next (a.put dst x) w'):Oper.wp P ⟨dst,.call ⟨.builtin b,args,Hg⟩,ty,pos,after,gd⟩ a w next Q:=by
 have hI:=hS.inv;have hE:=hS.eval;obtain⟨l⟩:=args;obtain⟨tl⟩:=Hg;unfold Gj at hk;split at hk
 .rename_i x t e1 e2
  match l,e1 with
  | [y],e1 =>
   simp only[AI,E0,E7,and_true]at e1;subst e1;simp only at e2;subst e2;exact D8 (m:=Builtin.len_ #[t] ty #[a.eval y]) (by simp[execOp,resolve,invoke,builtin]) (BO.does hI (l7 hT hI.objs (hE y) hk)) hn
 .rename_i s x t t' e1 e2
  match l,e1 with
  | [y,z],e1 =>
   simp only[AI,E0,E7,and_true]at e1;obtain⟨rfl,rfl⟩:=e1;simp only at e2;subst e2;split at hk
   .rename_i ht;obtain rfl:=AK ht;exact D8 (m:=Builtin.append_ #[t,t] ty #[a.eval y,a.eval z]) (by simp[execOp,resolve,invoke,builtin]) (bK hI hT (hE y) (hE z) hk) hn
   .exact hk.elim
 .rename_i x y Hg e1
  match l,e1 with
  | [y,z],e1 =>
   simp only[AI,E0,E7,and_true]at e1;obtain⟨rfl,rfl⟩:=e1;exact D8 (m:=Builtin.max_ ⟨tl⟩ ty #[a.eval y,a.eval z]) (by simp[execOp,resolve,invoke,builtin]) (BO.does hI (pR (hE y) (hE z) hk)) hn
 .rename_i x y Hg e1
  match l,e1 with
  | [y,z],e1 =>
   simp only[AI,E0,E7,and_true]at e1;obtain⟨rfl,rfl⟩:=e1;exact D8 (m:=Builtin.min_ ⟨tl⟩ ty #[a.eval y,a.eval z]) (by simp[execOp,resolve,invoke,builtin]) (BO.does hI (pU (hE y) (hE z) hk)) hn
 .exact hk.elim
theorem oH(hT:CF P cx.T){next:Act->World->Prop}{Q:Exit->Act->World->Prop}(hS:SR N ds w0 g0 h0 st g a w)(hk:F5 cx dr o st K)(hv:∀f args Hg,o.op≠.call ⟨.value f,args,Hg⟩)(hn:bA w0 g0 h0 st.h g w K fun x w'=>next (a.put o.dst x) w'):o.wp P a w next Q:=by
 have hI:=hS.inv;have hE:=hS.eval;obtain⟨dst,op,ty,pos,after,gd⟩:=o;unfold F5 at hk;cases op with
 |move x=>exact fY hI (x:=a.eval x) rfl hk (hE x) hn
 |assign x =>
  obtain⟨g',av,h',q1,q2,q3,q4⟩:=bM hI (hE x) hk;exact hn _ _ _ _ _ q1 q2 q3 q4
 |pick c x y=>exact D8 (m:=do pure (if <-asBool (a.eval c)then a.eval x else a.eval y)) (by simp[execOp]) (BO.does hI (mM (hE c) (hE x) (hE y) hk)) hn
 |alloc e=>exact D8 rfl (gn hI hT hk) hn
 |box e x=>exact D8 rfl (oR hI (hE x) hk) hn
 |build t ps=>exact D8 rfl (BO.does hI (gC hT hE hk)) hn
 |buildSlice t n ps=>exact D8 rfl (TU hI hT hE hk) hn
 |insert t m k x=>exact YT rfl (N5 hI hT (hE m) (hE k) (hE x) hk) hn
 |load t x=>exact D8 rfl (BO.does hI (WU hI.objs hT (hE x) hk)) hn
 |store t p x=>exact YT rfl (jv hI hT (hE p) (hE x) hk) hn
 |nilCheck x =>
  obtain⟨h1,h2⟩:=Yz (P:=P) (w:=w) (hE x) hk (pos:=pos) (after:=after) (gd:=gd) (dst:=dst) (ty:=ty) (ρ:=a.eval) rfl;exact fY hI h1 h2 (hE x) hn
 |binOp op t x y u=>exact D8 rfl (BO.does hI (kb hT (hE x) (hE y) (fun v e=>by subst e;rfl) hk)) hn
 |unOp op t x=>exact D8 rfl (BO.does hI (nC (hE x) hk)) hn
 |convert s t x =>
  cases dr with
  |true=>exact D8 rfl (BO.does hI (Zo hT (hE x) hk)) hn
  |false=>exact D8 rfl (gM hI hT (hE x) hk) hn
 |makeFunc fn first cap=>exact D8 rfl (BO.does hI (Yu hI.objs hE hk)) hn
 |makeMap t r =>
  cases r with
  |some r=>exact hk.elim
  |none=>exact D8 rfl (ap hI hk) hn
 |makeSlice t n c=>exact D8 rfl (VT hI hT (hE n) (hE c) hk) hn
 |slice t x lo hi mx =>
  cases dr with
  |true =>
   cases hp:Oj cx.pl.tok dst with
   |none =>
    have hk' : GS cx dst st.h t (ev st.t x) (Ci st.t lo) (Ci st.t hi) (Ci st.t mx) K:=by
     have IH:(match Oj cx.pl.tok dst with
      |none=>GS cx dst st.h t (ev st.t x) (Ci st.t lo) (Ci st.t hi) (Ci st.t mx) K
      |some _=>Qh cx dst st.h t (ev st.t x) lo (Ci st.t hi) mx K):=hk
     rw[hp]at IH;exact IH
    exact D8 rfl (Xo hI hT hE (hE x) hk') hn
   |some _ =>
    have hk' : Qh cx dst st.h t (ev st.t x) lo (Ci st.t hi) mx K:=by
     have IH:(match Oj cx.pl.tok dst with
      |none=>GS cx dst st.h t (ev st.t x) (Ci st.t lo) (Ci st.t hi) (Ci st.t mx) K
      |some _=>Qh cx dst st.h t (ev st.t x) lo (Ci st.t hi) mx K):=hk
     rw[hp]at IH;exact IH
    unfold Qh at hk';split at hk'
    .exact D8 rfl (fD hI hT hE (hE x) hk') hn
    .exact hk'.elim
  |false =>
   cases hp:Oj cx.pl.tok dst with
   |none =>
    have hk' : GS cx dst st.h t (ev st.t x) (Ci st.t lo) (Ci st.t hi) (Ci st.t mx) K:=by
     have IH:(match Oj cx.pl.tok dst with
      |none=>GS cx dst st.h t (ev st.t x) (Ci st.t lo) (Ci st.t hi) (Ci st.t mx) K
      |some _=>aV cx dst st.h t (ev st.t x) st.t lo hi mx K):=hk
     rw[hp]at IH;exact IH
    exact D8 rfl (Xo hI hT hE (hE x) hk') hn
   |some _ =>
    have hk' : aV cx dst st.h t (ev st.t x) st.t lo hi mx K:=by
     have IH:(match Oj cx.pl.tok dst with
      |none=>GS cx dst st.h t (ev st.t x) (Ci st.t lo) (Ci st.t hi) (Ci st.t mx) K
      |some _=>aV cx dst st.h t (ev st.t x) st.t lo hi mx K):=hk
     rw[hp]at IH;exact IH
    cases lo with
    |some lo=>exact D8 rfl (aW hI hT hE (hE x) hk') hn
    |none =>
     unfold aV at hk';dsimp only at hk';split at hk'
     .exact D8 rfl (BO.does hI (gw hI.objs hT (hE x) hk')) hn
     .unfold Qh at hk';split at hk'
      .exact D8 rfl (fD hI hT hE (hE x) hk') hn
      .exact hk'.elim
 |fieldAddr s x f=>exact D8 rfl (BO.does hI (gU hT (hE x) hk)) hn
 |field s x f=>exact D8 rfl (BO.does hI (cg hT (hE x) hk)) hn
 |indexAddr t x i=>exact D8 rfl (BO.does hI (VR hT (hE x) (hE i) hk)) hn
 |index t x i=>exact D8 rfl (BO.does hI (iq hT (hE x) (hE i) hk)) hn
 |lookup t x i ok =>
  have hk:Nx cx.T st.h t (ev st.t x) (ev st.t i) ok fun v=>K v st.h:=by
   cases dr with
   |true=>exact iB hk
   |false=>exact hk
  exact D8 rfl (BO.does hI (cO hT hI.objs (hE x) (hE i) hk)) hn
 |mapUpdate t m k x=>exact YT rfl (N5 hI hT (hE m) (hE k) (hE x) hk) hn
 |range t x =>
  simp only at hk;split at hk
  .rename_i kt e ht;exact D8 rfl (jj hI hT ht (hE x) hk) hn
  .exact hk.elim
 |next it s =>
  cases s with
  |true=>exact hk.elim
  |false=>exact D8 rfl (mn hI (hE it) hk) hn
 |entry it=>exact D8 rfl (BO.does hI (gS hI.objs (hE it) hk)) hn
 |extract x i=>exact D8 rfl (BO.does hI (ZD (hE x) hk)) hn
 |call c =>
  obtain⟨sW,args,Hg⟩:=c;cases sW with
  |builtin b=>exact Zg hT hS hk hn
  |value f=>exact absurd rfl (hv f args Hg)
  |invoke r m=>exact hk.elim
 |_=>exact hk.elim
theorem j8(hP:cx.P=P)(hY:∀l σ h g w,ED σ=true->DX w0 g0 h0 h g w->Le h0 g0 w0 h g w->cx.yp l σ (DM σ g) w){ro:Option Nat}(hT:CF P cx.T){next:Act->World->Prop}{Q:Exit->Act->World->Prop}(hS:SR N ds w0 g0 h0 st g a w)(hk:F5 cx dr o st K)(hn:bA w0 g0 h0 st.h g w K fun x w'=>next (a.put o.dst x) w'):o.wpIn (Kt ro) 0 P a w next Q:=by
 by_cases hv:∃f args Hg,o.op=.call ⟨.value f,args,Hg⟩
 .obtain⟨f,args,Hg,e⟩:=hv;obtain⟨dst,op,ty,pos,after,gd⟩:=o;cases e;exact kn hP hY hS hk hn
 .refine NE (fun c e=>?_) (oH hT hS hk (fun f args Hg e=>hv ⟨f,args,Hg,e⟩) hn);obtain⟨dst,op,ty,pos,after,gd⟩:=o;cases e;exact hk.elim
theorem xT{p:Nat->Prop}(h:∃n,p n):∃n,p n/\∀m,m<n->¬p m:=by
 apply AL;intro hc
 have:∀n,¬p n:=fun n=>by
  induction n using Nat.strongRecOn with
  |_ n ih=>exact fun hp=>hc ⟨n,hp,ih⟩
 obtain⟨n,hn⟩:=h;exact this n hn
theorem SU{m:Nat}{c:Code}{Q:Exit->Act->World->Prop}(I:Nat->Act->World->Prop)(k:Nat)(h0:I k a w)(round:∀n a w,I n a w->c.wpIn F m P (Exit.then (fun a' w'=>∃n',n' < n/\I n' a' w') Q) a w):(Code.loop c).wpIn F m P Q a w:=by
 classical
 have hex:∀a w,(∃n,I n a w)->∃n,I n a w/\∀n',n' < n->¬I n' a w:=fun a w h=>xT h;refine wpIn_loop (fun a w=>∃n,I n a w) (fun a w=>if h:∃n,I n a w then(hex a w h).choose else 0) ⟨k,h0⟩ fun a w h=>?_;have hs:=(hex a w h).choose_spec;refine wpIn_mono (round _ a w hs.1) fun e a' w' q=>?_;cases e with
 |normal =>
  obtain⟨n',Dz,hn⟩:=q;have h' : ∃n,I n a' w':=⟨n',hn⟩;refine⟨h',?_⟩;simp only[dif_pos h,dif_pos h'];refine Nat.lt_of_le_of_lt ?_ Dz;apply Bz;intro hc;exact(hex a' w' h').choose_spec.2 n' hc hn
 |_=>exact q
end
section
variable {P:Program}{N:Nat}{ds:List Deferred}{w0:World}{g0:Gh}{h0:Nat->HO}{st:St}{g:Gh}{a:Act}{w:World}
theorem gF(hT:CF P T){ty e k ty2 b o n c:Nat}(ht:(T ty).d=.slice e)(hk:(T e).size=k+1)(hz:(T e).zc.length=k+1)(PP:∀v∈(T e).zc,v.oneCell'=true){EC:Array Value}{E:TypeId}(hb:w.heap[b]?=some (.cells EC E (0,0)))(hn:0<n)(H2:o+n*(k+1)<=EC.size) :
  (Builtin.clear_ #[ty] ty2 #[.slice (some ⟨b,o,none⟩) n c]).run P w=.ok (.tuple #[]) (w.setRow b (over EC.toList o (List.replicate n (T e).zc).flatten).toArray):=by
 obtain⟨z,z1,z2⟩:=XB (w:=w) hT hk;have tN:(T e).zc≠[]:=fun e0=>by rw[e0]at hz;cases hz
 have tH:(Builtin.zeroCells z.cells n).toList=(List.replicate n (T e).zc).flatten:=by
  rw[Iq n _ tN,hz,z2];have e6:z.cells.size=k+1:=by rw[<-hz,z2];simp
  unfold Builtin.zeroCells;simp[e6,Array.getElem!_eq_getD]
 have CL:(List.replicate n (T e).zc).flatten.length=n*(k+1):=by
  rw[Dr (n:=k+1) (fun c hc=>by rw[Cp hc];exact hz),BT]
 have Ku:=run_storeCells_at P b o E (List.replicate n (T e).zc).flatten 0 EC w hb (by rw[CL];simpa using H2) (fun v hv=>by
  obtain⟨l,hl,hv⟩:=DY.1 hv;rw[Cp hl]at hv;exact PP v hv)
 simp only[H1]at Ku;rw[NG _ _ _ (by rw[CL];simpa using H2)];obtain⟨m,rfl⟩:∃m,n=m+1:=⟨n-1,by omega⟩;simp only[Builtin.clear_,Sem.run_bind,Gn,Be,run_underlying (hT.slice ht),Result.andThen_ok,z1,tH,Ku,Sem.run_pure]
theorem bV(hT:CF P T){ty e ty2 c:Nat}(ht:(T ty).d=.slice e)(x:Option Addr) :
  (Builtin.clear_ #[ty] ty2 #[.slice x 0 c]).run P w=.ok (.tuple #[]) w:=by
 cases x<;>simp only[Builtin.clear_,Sem.run_bind,Gn,Be,run_underlying (hT.slice ht),Result.andThen_ok,Sem.run_pure]
theorem mV{d:Nat}(hd:d<a.tmps.size):(a.put (some d) x).eval (.tmp d)=x:=by
 show(a.tmps.setIfInBounds d x).getD d undef=x;rw[CD,Array.getElem?_setIfInBounds_self,Al hd];rfl
theorem lG(h:Nat->HO)(r:Nat):A0 h r (h r)=h:=funext fun i=>by
 by_cases e:i=r
 .subst e;exact Bj ..
 .exact B6 _ _ _ _ e
theorem cL(h:UC o o2=true):∃ty x lo d ty2 pos after uy qn XL,o=⟨some d,.slice ty x (some lo) none none,ty2,pos,after,none⟩/\o2=⟨none,.call ⟨.builtin .clear,#[.tmp d],#[ty]⟩,uy,qn,XL,none⟩:=by
 obtain⟨dst,op,t2,p1,a1,gd⟩:=o;obtain⟨Afq,op2,t3,p2,a2,zu⟩:=o2;unfold UC at h;split at h
 .rename_i c e1;split at h
  .rename_i e2;split at h
   .rename_i ty x lo e3;split at h
    .rename_i d d' ty' e4 e5 e6 e7 e8 e9;obtain⟨sW,⟨args⟩,⟨Hg⟩⟩:=c;simp only at e1 e2 e3 e4 e5 e6 e7 e8 e9;simp only[Ae]at h;obtain rfl:=AK h.1;obtain rfl:=AK h.2;subst e1 e2 e3 e4 e5 e6 e7 e8 e9;exact⟨_,_,_,_,_,_,_,_,_,_,rfl,rfl⟩
    .cases h
   .cases h
  .cases h
 .cases h
theorem o6(hT:CF P cx.T){ro:Option Nat}(hd:∀i,o.dst=some i->i<N)(hc:UC o o2=true){K:St->Prop}(hS:SR N ds w0 g0 h0 st g a w)(hk:gH cx o st K){next:Act->World->Prop}{Q:Exit->Act->World->Prop}(hn:∀Et g' a' w',K Et->SR N ds w0 g0 h0 Et g' a' w'->next a' w') :
  o.guard=none/\o2.guard=none/\o.wpIn (Kt ro) 0 P a w (fun a1 w1=>o2.wpIn (Kt ro) 0 P a1 w1 next Q) Q:=by
 obtain⟨ty,x,lo,d,ty2,pos,after,uy,qn,XL,rfl,rfl⟩:=cL hc;refine⟨rfl,rfl,?_⟩;have hI:=hS.inv;have hE:=hS.eval;have hdN:d<a.tmps.size:=by rw[hS.size];exact hd d rfl
 -- what is to be shown of the two operations
 have two:∀(v:Value) (Et : St) (g' : Gh) (w' : World),(Instr.sliceAt ty (a.eval x) (some (a.eval lo)) none none).run P w=.ok v w->(Builtin.clear_ #[ty] uy #[v]).run P w=.ok (.tuple #[]) w'->K ⟨HG st.t d .junk,Et.h⟩->DX w0 g0 h0 Et.h g' w'->Le st.h g w Et.h g' w' ->
   Oper.wpIn (Kt ro) 0 P ⟨some d,.slice ty x (some lo) none none,ty2,pos,after,none⟩ a w (fun a1 w1=>Oper.wpIn (Kt ro) 0 P ⟨none,.call ⟨.builtin .clear,#[.tmp d],#[ty]⟩,uy,qn,XL,none⟩ a1 w1 next Q) Q:=by
  intro v Et g' w' r1 r2 hk hI' H2;refine NE (by intro c e;cases e) ?_;unfold Oper.wp;have hx:execOp a.eval ⟨some d,.slice ty x (some lo) none none,ty2,pos,after,none⟩=(do pure (Next.value (<-Instr.sliceAt ty (a.eval x) (some (a.eval lo)) none none))):=rfl;rw[hx,Sem.run_bind,r1];refine NE (by intro c e;cases e) ?_;unfold Oper.wp;have rJ:execOp (a.put (some d) v).eval ⟨none,.call ⟨.builtin .clear,#[.tmp d],#[ty]⟩,uy,qn,XL,none⟩=(do pure (Next.value (<-Builtin.clear_ #[ty] uy #[v]))):=by
   simp[execOp,resolve,invoke,builtin,mV hdN]
  rw[rJ,Sem.run_bind,r2];have S1:SR N ds w0 g0 h0 (st.put (some d) .junk st.h) g (a.put (some d) v) w:=hS.put hd hI (.refl _ _ _) (.junk _ _);have S2:SR N ds w0 g0 h0 ((st.put (some d) .junk st.h).put none (.v (.tuple #[])) Et.h) g' ((a.put (some d) v).put none (.tuple #[])) w':=S1.put (by intro i e;cases e) hI' H2 (.v _ _);exact hn _ g' _ w' hk S2
 unfold gH at hk;simp only at hk;split at hk
 .rename_i e hs;split at hk
  .rename_i r n ex;split at hk
   .rename_i i ei;split at hk
    .rename_i sz es er;split at hk
     .rename_i hb;obtain rfl:=AK hb;split at hk
      .exact hk.elim
      .rename_i k EM;split at hk
       .rename_i NP;have NP:=AK NP;obtain⟨⟨rfl,i0,i1⟩,hk⟩:=hk;unfold wx at hk;split at hk
        .rename_i Gw;have Gw:∀v∈(cx.T e).zc,v.oneCell'=true:=Bc.1 Gw;have ho:=hI.objs r;rw[er]at ho;obtain⟨t1,l1,al,a2⟩:=ho;have ik:=hE x;rw[ex]at ik;have zF:=hE lo;rw[ei]at zF;have zF:=zF.v_eq;generalize hvx:a.eval x=vx at ik two;rw[zF]at two;cases ik with
         |msl _ _ _ ad cap hu ht' ZZ ha Mw =>
          have hv:=Mw l1.symm;have L1:es.length<=cap:=by
           rcases a2 with ⟨b1,_,_⟩ | ⟨b,LO,E,vs,b1,_,b3,_⟩
           .subst b1;exact AE _
           .rw[b1]at hv;cases hv;exact b3
          have CP:=E6 (P:=P) (w:=w) hT hs EM ad es.length cap (some i) none none (.inl rfl) (by simpa using i0) (by simpa using i1) (by simpa using L1) B0;simp only[CH,Eg,Cb,H6,Option.map_none]at CP
          by_cases hz:i.toNat=es.length
          .-- nothing is cleared
           have e1:es.length-i.toNat=0:=by omega
           rw[e1]at CP hk;refine two _ st g w CP (bV hT hs _) ?_ hI (.refl _ _ _);have e2:es.take i.toNat++List.replicate 0 ((cx.T e).zc.map AV.v)=es:=by rw[List.replicate_zero,BP,hz,B4]
           rw[e2,<-er,lG]at hk;exact hk
          .have Dz:i.toNat<es.length:=by omega
           rcases a2 with ⟨b1,_⟩ | ⟨b,LO,E,vs,b1,b2,b3,b4,b5,b6,b7⟩
           .subst b1;simp at Dz
           .rw[b1]at hv;cases hv;have Dy:¬cap=i.toNat:=by omega
            rw[Ai Dy]at CP;have Abl:Option.map (fun x:Addr=>x.add (i.toNat*(cx.T e).size)) (some ⟨b,0,none⟩)=some ⟨b,i.toNat*(cx.T e).size,none⟩:=by simp[Addr.add];omega
            rw[Abl]at CP;have Uu:es.length*(cx.T e).size<=cap*(cx.T e).size:=Bg _ b3;have VN:i.toNat*(cx.T e).size+(es.length-i.toNat)*(cx.T e).size=es.length*(cx.T e).size:=by rw[<-Fv];congr 1;omega
            have hcl:=gF (w:=w) (ty2:=uy) (c:=cap-i.toNat) hT hs EM (NP.trans EM) Gw b4 (n:=es.length-i.toNat) (o:=i.toNat*(cx.T e).size) ch (by rw[show k+1=(cx.T e).size from EM.symm,VN,b5];exact Uu);have hl:(st.h r).live:=by rw[er];trivial
            generalize hZ:(List.replicate (es.length-i.toNat) (cx.T e).zc).flatten=Z at hcl;have zy:Z.length=(es.length-i.toNat)*(cx.T e).size:=by
             rw[<-hZ,Dr (n:=(cx.T e).size) (fun c hc=>by rw[Cp hc];exact NP),BT]
            have Mm:(es.take i.toNat++List.replicate (es.length-i.toNat) ((cx.T e).zc.map AV.v)).length=es.length:=by
             rw[Ac,Av,BT];omega
            have Abm:∀c∈es.take i.toNat++List.replicate (es.length-i.toNat) ((cx.T e).zc.map AV.v),c.length=(cx.T e).size:=fun c hc=>by
             rcases AO.1 hc with h1 | h1
             .exact al c (CY h1)
             .rw[Cp h1,A8];exact NP
            have Aca:vs.toList.length=cap*(cx.T e).size:=by rw[BS];exact b5
            have hfl:(es.take i.toNat++List.replicate (es.length-i.toNat) ((cx.T e).zc.map AV.v)).flatten=over es.flatten (i.toNat*(cx.T e).size) (Z.map AV.v):=by
             rw[NG _ _ _ (by rw[A8,zy,VN,Dr al];exact Aj _),Cc,Ot al,A8,zy,VN,Cr (by rw[Dr al];exact Aj _),BP,<-hZ,TA,List.map_replicate]
            have xL:((over vs.toList (i.toNat*(cx.T e).size) Z).toArray.toList.take (es.length*(cx.T e).size))=over (vs.toList.take (es.length*(cx.T e).size)) (i.toNat*(cx.T e).size) Z :=
             Xc _ _ _ _ (by rw[zy,VN];exact Aj _) (by rw[Aca];exact Uu)
            have hZr:CO g w Fw (Z.map AV.v) Z:=CO.vals (by
             have wV : ∀l:List AV,(∀a∈l,one a=true)->G9 l=true:=by
              intro l
              induction l with
              |nil=>intro _;rfl
              |cons a l ih=>intro h;simp[G9,h a (List.mem_cons_self ..),ih (fun b hb=>h b (List.mem_cons_of_mem _ hb))]
             refine wV _ fun q hq=>?_;obtain⟨y,hy,rfl⟩:=Ag.1 hq;rw[<-hZ]at hy;obtain⟨l,hl,hy⟩:=DY.1 hy;rw[Cp hl]at hy;exact Gw y hy)
            have tD:CO g w Fw (over es.flatten (i.toNat*(cx.T e).size) (Z.map AV.v)) (over (vs.toList.take (es.length*(cx.T e).size)) (i.toNat*(cx.T e).size) Z) :=
             b6.over hZr _ (by rw[A8,zy,VN,Dr al];exact Aj _)
            obtain⟨k1,k2⟩:=hI.write hl b2 (.arr (cx.T e).size (es.take i.toNat++List.replicate (es.length-i.toNat) ((cx.T e).zc.map AV.v))) b4 (over vs.toList (i.toNat*(cx.T e).size) Z).toArray (g.ln r) (g.own r) g.S B0 rfl (fun b' e=>by rw[b2]at e;cases e;rfl) (fun _ _ h=>h)
             (fun b' o hs=>.inl hs) (fun o hs=>absurd hs (b7 o)) (fun hg Ix EL=>by
              obtain⟨u1,u2,u3,u4⟩:=BG g r (g.ρ r) (g.ln r) (g.tk r) (g.own r) g.S;refine⟨u3.trans t1,u2.trans (by rw[Mm];exact l1),Abm,.inr ⟨b,cap,E,_,?_,u4.trans b2,by rw[Mm];exact b3,EL,?_,?_,b7⟩⟩
              .rw[u1,b1,Mm]
              .simp only[D4,FY,BS];exact b5
              .rw[Mm,xL,hfl];exact tD.mono Ix (fun _ h=>h) (fun _ h=>h.elim))
            exact two _ ⟨st.t,_⟩ _ _ CP hcl hk k1 k2
        .exact hk.elim
       .exact hk.elim
     .exact hk.elim
    .exact hk.elim
   .exact hk.elim
  .exact hk.elim
 .exact hk.elim
end
end Go.Eng
