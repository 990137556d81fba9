/- Lemmas 13. -/
import Derived.Test.YtjhkbdgingfbaaaGreatDoorHA12
namespace Go.Eng
variable {o:Oper}{K:HK}{args:Array Operand}{cx:Cx}{Hd:Array TypeId}{after:Array Edge}{dr:Bool}{pos:String}{x:Value}{F:Fence}{o2:Oper}{T:GV}
structure SR(N:Nat)(ds:List Deferred)(w0:World)(g0:Gh)(h0:Nat->HO)(st:St)(g:Gh)(a:Act)(w:World):Prop where
 inv:Dr w0 g0 h0 st.h g w
 le:Le h0 g0 w0 st.h g w
 dfs:a.defers=ds
 size:a.tmps.size=N
 slots:∀i,Br g w (AN st.h) (st.t i) (a.tmps.getD i undef)
section
variable {P:Program}{N:Nat}{ds:List Deferred}{w0:World}{g0:Gh}{h0:Nat->HO}{st:St}{g:Gh}{a:Act}{w:World}
theorem SR.eval(hS:SR N ds w0 g0 h0 st g a w)(x:Operand):Br g w (AN st.h) (ev st.t x) (a.eval x):=by
 cases x with
 |tmp i=>exact hS.slots i
 |const v=>exact .v _ _
 |global b=>exact .v _ _
 |func f=>exact .v _ _
theorem SR.put(hS:SR N ds w0 g0 h0 st g a w){d:Option Nat}(hd:∀i,d=some i->i<N){v:AV}{x:Value}{h' : Nat->HO}{g' : Gh}{w' : World}(hI:Dr w0 g0 h0 h' g' w')(Hp:Le st.h g w h' g' w')(hr:Br g' w' (AN h') v x) :
  SR N ds w0 g0 h0 (st.put d v h') g' (a.put d x) w':=by
 have old:∀i,Br g' w' (AN h') (st.t i) (a.tmps.getD i undef):=fun i=>(hS.slots i).le Hp;cases d with
 |none=>exact⟨hI,hS.le.trans Hp,hS.dfs,hS.size,old⟩
 |some d=>
  have hdN:=hd d rfl;refine⟨hI,hS.le.trans Hp,hS.dfs,by simp[Act.put,hS.size],fun i=>?_⟩;simp only[St.put,Act.put,HC]
  by_cases e:i=d
  .subst e
   have:i<a.tmps.size:=by rw[hS.size];exact hdN
   simp only[CU,Kr];rw[Ce,Array.getElem?_setIfInBounds_self,As this];exact hr
  .simp only[B9 e,Eh];rw[Ce,Array.getElem?_setIfInBounds_ne (RP e),<-Ce];exact old i
def bJ(w0:World)(g0:Gh)(h0 h:Nat->HO)(g:Gh)(w:World)(K:HK)(next:Value->World->Prop):Prop:=
 ∀v h' g' w' x,K v h'->Dr w0 g0 h0 h' g' w'->Le h g w h' g' w'->Br g' w' (AN h') v x->next x w'
theorem D0{m:Sem Value}{next:Act->World->Prop}{Q:Exit->Act->World->Prop}(hx:execOp a.eval o=(do pure (Next.value (<-m))))(hd:Ok P w0 g0 h0 st.h g w m K)(hn:bJ w0 g0 h0 st.h g w K fun x w'=>next (a.put o.dst x) w'):o.wp P a w next Q:=by
 obtain⟨x,w',g',av,h',h1,h2,h3,h4,h5⟩:=hd;unfold Oper.wp;rw[hx,Sem.run_bind,h1];exact hn av h' g' w' x h2 h3 h4 h5
theorem YX{m:Sem Unit}{next:Act->World->Prop}{Q:Exit->Act->World->Prop}(hx:execOp a.eval o=(do m;pure Next.skip))(hd:ku P w0 g0 h0 st.h g w m K)(hn:bJ w0 g0 h0 st.h g w K fun x w'=>next (a.put o.dst x) w'):o.wp P a w next Q:=by
 obtain⟨w',g',h',h1,h2,h3,h4⟩:=hd;unfold Oper.wp;rw[hx,Sem.run_bind,h1];exact hn _ h' g' w' undef h2 h3 h4 (.v _ _)
theorem fU{next:Act->World->Prop}{Q:Exit->Act->World->Prop}{v:AV}(hI:Dr w0 g0 h0 st.h g w)(hx:(execOp a.eval o).run P w=.ok (.value x) w)(hk:K v st.h)(hr:Br g w (AN st.h) v x)(hn:bJ w0 g0 h0 st.h g w K fun x w'=>next (a.put o.dst x) w'):o.wp P a w next Q:=by
 unfold Oper.wp;rw[hx];exact hn _ _ _ _ _ hk hI (.refl _ _ _) hr
theorem TG{C:(Ending->World->Prop)->Prop}(hm:∀{R R' : Ending->World->Prop},C R->(∀e w,R e w->R' e w)->C R')(hI:Dr w0 g0 h0 st.h g w){Q:AV->(Nat->HO)->Prop}
  (hc:Dr w g Ad Ad g w->C (fun e w'=>∃v r h' g',e=Ending.returned v/\Q r h'/\Br g' w' (AN h') r v/\Dr w g Ad h' g' w'/\Le Ad g w h' g' w')) {R:Ending->World->Prop}
  (hR:∀v r h' g' w',Q r h'->h'=Ad->Dr w0 g0 h0 st.h g' w'->Le st.h g w st.h g' w'->Br g' w' Fq r v->R (.returned v) w') (hQ:∀r h',Q r h'->h'=Ad):C R:=by
 have hU:AN Ad=Fq:=by funext i;unfold AN Fq Ad;simp
 have pX:Dr w g Ad Ad g w:=⟨rfl,rfl,rfl,Ai _,fun _ _ _=>rfl,hI.slt,fun _=>trivial,fun _ _ _ h=>h.elim,fun _ _ h=>h.elim,fun _ _ h=>.inl h,hI.glob⟩;refine hm (hc pX) ?_
 rintro e w' ⟨v,r,h',g',rfl,q1,q2,q3,q4⟩
 obtain rfl:=hQ r h' q1;rw[hU]at q2
 -- the caller's ghost,with the callee's stable cells
 have hk:EV g w ⟨g.ρ,g.ln,g.tk,g.own,g'.S⟩ w':=q4.keeps;have hg:KI g ⟨g.ρ,g.ln,g.tk,g.own,g'.S⟩ (AN st.h):=fun _ _=>⟨rfl,Ai _,fun _=>rfl,fun _=>rfl⟩;have oU:∀b,b<w.heap.size->w'.heap[b]?=w.heap[b]?:=fun b hb=>q3.frame b hb (fun _ h=>h.elim);have hSs:∀b o,g'.S b o->b<w.heap.size->g.S b o:=fun b o hs hb=>by
  rcases q3.sg b o hs with h1 | h1 | ⟨_,h1,_⟩
  .exact h1
  .omega
  .exact h1.elim
 refine hR v r Ad ⟨g.ρ,g.ln,g.tk,g.own,g'.S⟩ w' q1 rfl ⟨q3.os.trans hI.os,q3.tape.trans hI.tape,q3.output.trans hI.output,A9 hI.size q3.size,fun b hb hn=>?_,q3.slt,fun i=>?_,hI.inj,fun i b hl ho=>?_,fun b o hs=>?_,hI.glob.keep hk⟩ ⟨hg,fun _ h=>h,hk⟩ ?_
 .exact(oU b (Bx hb hI.size)).trans (hI.frame b hb hn)
 .refine(hI.objs i).same hk (fun _ h=>h) hg rfl rfl rfl rfl (fun b hl ho=>?_);have Dx:=(hI.loc i b hl ho).1;exact⟨oU b Dx,fun k hs=>hSs b k hs Dx⟩
 .obtain⟨h1,h2⟩:=hI.loc i b hl ho;exact⟨Bx h1 q3.size,h2⟩
 .rcases q3.sg b o hs with h1 | h1 | ⟨_,h1,_⟩
  .exact hI.sg b o h1
  .exact .inr (.inl (A9 hI.size h1))
  .exact h1.elim
 .have:EV g' w' ⟨g.ρ,g.ln,g.tk,g.own,g'.S⟩ w':=fun b o h=>⟨h,rfl,fun _ _ h=>h⟩
  exact q2.mono this (fun _ h=>h) (fun _ h=>h.elim)
theorem gJ(hI:Dr w0 g0 h0 st.h g w){f:Nat}{args:List AV}{Q:AV->(Nat->HO)->Prop}(hc:Bb P f args Ad Q){vals:Array Value}(hs:vals.size=args.length)
  (hv:∀(i:Nat) (av:AV) (x:Value),args[i]?=some av->vals[i]?=some x->Br g w Fq av x) {R:Ending->World->Prop}
  (hR:∀v r h' g' w',Q r h'->h'=Ad->Dr w0 g0 h0 st.h g' w'->Le st.h g w st.h g' w'->Br g' w' Fq r v->R (.returned v) w') (hQ:∀r h',Q r h'->h'=Ad):Calls P f vals w R:=
 have hU:AN Ad=Fq:=by funext i;unfold AN Fq Ad;simp
 TG (C:=Calls P f vals w) (fun h k=>h.mono k) hI (hc.2 g w vals hs (fun i av x h1 h2=>by rw[hU];exact hv i av x h1 h2)) hR hQ
theorem YieldAt.imp{m:Nat}{P:Program}{l:Nat}{args:Array Value}{W:World}{R R' : Ending->World->Prop}(h:YieldAt F m P l args W R)(hr:∀e w,R e w->R' e w):YieldAt F m P l args W R':=
 let ⟨fn,t,a,b,h1,h2⟩:=h
 ⟨fn,t,a,b,h1,h2.mono hr⟩
theorem G4.imp{Y:Gh->World->Prop}{l:Nat}{args:List AV}{h0:Nat->HO}{Q Q' : AV->(Nat->HO)->Prop}(h:G4 P Y l args h0 Q)(hq:∀r h',Q r h'->Q' r h'):G4 P Y l args h0 Q':=
 fun g w vals q1 q2 q3 q4=>YieldAt.imp (h g w vals q1 q2 q3 q4) fun _ _ ⟨v,r,h',g',e1,e2,rest⟩=>⟨v,r,h',g',e1,hq _ _ e2,rest⟩
theorem Gx.imp{Y:Nat->Gh->World->Prop}{F:AV}{args:List AV}{h0:Nat->HO}{Q Q' : AV->(Nat->HO)->Prop}(h:Gx P Y F args h0 Q)(hq:∀r h',Q r h'->Q' r h'):Gx P Y F args h0 Q':=by
 have one:∀{f:Nat} {l:List AV},Bb P f l h0 Q->Bb P f l h0 Q':=fun hc=>
  ⟨hc.1,fun g w vals q1 q2 q3=>(hc.2 g w vals q1 q2 q3).mono fun _ _ ⟨v,r,h',g',e1,e2,rest⟩=>⟨v,r,h',g',e1,hq _ _ e2,rest⟩⟩
 unfold Gx at h⊢;split at h
 .exact one h
 .exact one h
 .exact G4.imp h hq
 .exact h.elim
abbrev In(ro:Option Nat):Fence:={ Fence.wide with round:=ro }
theorem NI{ro:Option Nat}{a:Act}{w:World}{next:Act->World->Prop}{Q:Exit->Act->World->Prop}(hd:∀c,o.op≠.defer c)(h:o.wp P a w next Q):o.wpIn (In ro) 0 P a w next Q:=by
 refine⟨fun _ _=>trivial,?_⟩;have e:o.semAt (In ro).round a.eval=execOp a.eval o:=Oper.semAt_eq ro a.eval o hd;rw[e];unfold Oper.wp at h;have key:∀res:Result Next,o.upon P a next Q res->o.uponIn (In ro) 0 P a next Q res:=fun res h=>by
  cases res with
  |ok n w'=>cases n with
   |enter f args=>exact(show(_->_)/\CallsIn (In ro) 0 P f args w' _ from⟨fun e=>by(cases e),callsIn_wide.2 h⟩)
   |row r args=>exact(show(_->_)/\RowsIn (In ro) 0 P r args w' _ from⟨fun e=>by(cases e),fun c cs _=>by
     obtain⟨v,RH,r',s⟩:=h c cs;exact⟨v,RH,r',stepsIn_wide.2 s⟩⟩)
   |round _ _ _ _ _=>exact h.elim
   |_=>exact h
  |halt x w'=>cases x<;>exact h
 exact key _ h
theorem Gk{f:Nat}{args:Array Value}(h:GI P f)(w:World):(callFunc f args).run P w=.ok (.enter f args) w:=by
 obtain⟨fn,h1,h2,h3⟩:=h;simp only[callFunc,Sem.run_bind,run_program,h1,Result.andThen_ok,h2,h3,CM,FZ,Sem.run_pure]
theorem U4{h:Nat->HO}{a:AV}(ha:fh a=true):ren (Cc []) h a=str h a:=by
 have h0:∀a,ren0 (Cc []) h a=str0 h a:=fun a=>by
  cases a with
  |slice tk es=>cases tk<;>rfl
  |_=>rfl
 cases a with
 |tup cs=>cases ha
 |agg cs=>show AV.agg _=AV.agg _;exact Aa _ (Ba fun c _=>h0 c)
 |clo f cs=>show AV.clo f _=AV.clo f _;exact Aa _ (Ba fun c _=>h0 c)
 |v x=>exact h0 (.v x)
 |slice tk es=>exact h0 (.slice tk es)
 |msl r n=>exact h0 (.msl r n)
 |cptr cs=>exact h0 (.cptr cs)
 |ref r o=>exact h0 (.ref r o)
 |eref r n sz i o=>exact h0 (.eref r n sz i o)
 |mref r=>exact h0 (.mref r)
 |cmap sh l=>exact h0 (.cmap sh l)
 |junk=>rfl
theorem Ro{h:Nat->HO}:∀{l:List AV},UM l=true->l.map (ren (Cc []) h)=l.map (str h)
 | [],_=>rfl
 |a::l,e=>by
  unfold UM at e;split at e
  .rename_i e1;rw[AK,AK,U4 e1,Ro e]
  .cases e
theorem RF:∀{l:List AV} {vs:List Value},Xr l=some vs->l=vs.map .v
 | [],vs,h=>by cases h;rfl
 |.v x::r,vs,h=>by
  unfold Xr at h;split at h
  .rename_i l e;cases h;rw[AK,<-RF e]
  .cases h
theorem gI{d:Option Nat}{st:St}{F:AV}{args:List AV}(hk:GL cx true d st F args K):GL cx false d st F args K:=by
 unfold GL at hk;simp only at hk;split at hk
 .exact⟨.pure,hk⟩
 .split at hk
  .exact hk.elim
  .rename_i d _;obtain⟨n,sz,es,h1,h2,h3⟩:=hk;simp only[Af]at h1;refine⟨.gen [] 1,?_⟩;show(Ef []&&DC st.h d 1&&De [] d 1)=true/\_;refine⟨by simp[Ef,De,h1.1.1],?_⟩;rw[U4 h1.1.2,Ro h1.2];show Gx cx.P (fun l=>cx.yp l []) _ _ Ad _;refine Gx.imp h2 ?_
   rintro r h' ⟨e2,e3⟩
   subst e2;subst e3;have e1:ren (Fv [] d 1) (Ag [(2000,.arr sz es)] Ad) (.msl 2000 n)=.msl (Bp d 0) n:=rfl;have e2:Ei [] d 1 st.h (Ag [(2000,.arr sz es)] Ad)=AR st.h (Bp d 0) (.arr sz es):=by
    funext i
    by_cases e:i=Bp d 0
    .subst e;rw[A3];have hb:(Nat.ble (Bp d 0) (Bp d 0)&&Nat.blt (Bp d 0) (Bp d 1))=true:=by
      unfold Bp;simp only[Af,Df,Cr];omega
     simp only[Ei,Cc,hb,F7];rfl
    .rw[BR _ _ _ _ e]
     have:(Nat.ble (Bp d 0) i&&Nat.blt i (Bp d 1))=false:=by
      unfold Bp at e⊢;rw[AH];simp only[WN,Af,Df,Cr];omega
     simp only[Ei,Cc,this]
   rw[e1,e2];exact h3
 .split at hk
  .unfold Vo at hk;split at hk
   .exact hk.elim
   .rename_i d _;obtain⟨sz,es,h1,h2,h3⟩:=hk;simp only[Af]at h1;refine⟨.gen [] 1,?_⟩;show(Ef []&&DC st.h d 1&&De [] d 1)=true/\_;refine⟨by simp[Ef,De,h1.1.1],?_⟩;rw[U4 h1.1.2,Ro h1.2];show Gx cx.P (fun l=>cx.yp l []) _ _ Ad _;refine Gx.imp h2 ?_
    rintro r h' ⟨e2,e3⟩
    subst e2;subst e3;have e1:ren (Fv [] d 1) (Ag [(2000,.tok sz es.length)] Ad) (.slice (.id 2000 sz) es)=.slice (.id (Bp d 0) sz) es:=rfl;have e2:Ei [] d 1 st.h (Ag [(2000,.tok sz es.length)] Ad)=AR st.h (Bp d 0) (.tok sz es.length):=by
     funext i
     by_cases e:i=Bp d 0
     .subst e;rw[A3];have hb:(Nat.ble (Bp d 0) (Bp d 0)&&Nat.blt (Bp d 0) (Bp d 1))=true:=by
       unfold Bp;simp only[Af,Df,Cr];omega
      simp only[Ei,Cc,hb,F7];rfl
     .rw[BR _ _ _ _ e]
      have:(Nat.ble (Bp d 0) i&&Nat.blt i (Bp d 1))=false:=by
       unfold Bp at e⊢;rw[AH];simp only[WN,Af,Df,Cr];omega
      simp only[Ei,Cc,this]
    rw[e1,e2];exact h3
  split at hk
  .unfold RI at hk;split at hk
   .rename_i d l vs e2 z1;have hl:=RF e2;split at hk
    .rename_i r sz es fO n e3 e4;obtain⟨⟨rfl,rfl⟩,v,Gm,n',h1,h2⟩:=hk;refine⟨.gen [(1000,1000),(1001,1001)] 0,?_⟩;show(Ef [(1000,1000),(1001,1001)]&&DC st.h d 0&&De [(1000,1000),(1001,1001)] d 0)=true/\_;refine⟨?_,?_⟩
     .have:De [(1000,1000),(1001,1001)] d 0=true:=by
       have q:∀r:Nat,(Nat.ble (Bp d 0) r&&Nat.blt r (Bp d 0))=false:=fun r=>by
        rw[AH];simp only[WN,Af,Df,Cr];omega
       simp only[De,q,Bool.not_false,Bool.and_self]
      rw[this];rfl
     have f1:args.map (ren (Cc [(1000,1000),(1001,1001)]) st.h)=vs.map .v:=by rw[hl,Bw];rfl
     have f2:Ft [(1000,1000),(1001,1001)] st.h=Ag [(1000,.cells [.slice (.id 1001 fO) es]),(1001,.tok fO n)] Ad:=by
      unfold Ft YL YL YL;rw[e3,e4];rfl
     rw[f1,f2];refine G4.imp h1 ?_
     rintro r h' ⟨g1,g2⟩
     subst g1;subst g2;have f3:Ei [(1000,1000),(1001,1001)] d 0 st.h (Ag [(1000,.cells [.slice (.id 1001 fO) Gm]),(1001,.tok fO n')] Ad)=AR (AR st.h 1001 (.tok fO n')) 1000 (.cells [.slice (.id 1001 fO) Gm]):=by
      funext i
      by_cases e:i=1000
      .subst e;rw[A3];rfl
      .rw[BR _ _ _ _ e]
       by_cases e' : i=1001
       .subst e';rw[A3];rfl
       .rw[BR _ _ _ _ e'];have hn:Cc [(1000,1000),(1001,1001)] i=none:=by simp[Cc,B9 (Ne.symm e),B9 (Ne.symm e')]
        have:(Nat.ble (Bp d 0) i&&Nat.blt i (Bp d 0))=false:=by
         rw[AH];simp only[WN,Af,Df,Cr];omega
        simp only[Ei,hn,this]
     rw[f3];exact h2
    .exact hk.elim
   .exact hk.elim
  unfold Qc at hk;split at hk
  .unfold ZO at hk;split at hk
   .rename_i d f caps ip _;obtain⟨σ,H0,Hn,args',res,g1,g2,g3,g4⟩:=hk;simp only[Af]at g2;obtain⟨k1,k2⟩:=g1 st.h fun _ _=>rfl;refine⟨.gen σ 0,?_⟩;show(Ef σ&&DC st.h d 0&&De σ d 0)=true/\_;refine⟨by rw[g2.1.1,g2.1.2];rfl,?_⟩;have key:Gx cx.P (fun l=>cx.yp l σ) (ren (Cc σ) st.h F) (args.map (ren (Cc σ) st.h)) (Ag H0 Ad) (fun r h'=>r=res/\h'=Ag Hn Ad):=by
     rw[<-k2]at g3;unfold lS at ip;split at ip
     .cases ip
      rw[Eb,BZ]at g3;exact g3
     .cases ip
      exact g3
     .cases ip
    rw[k1];refine Gx.imp key ?_
    rintro r h' ⟨e1,e2⟩
    rw[e1,e2];exact g4
   .exact hk.elim
  unfold Sx at hk;split at hk
  .rename_i dd f r n l _;split at hk
   .rename_i vs cN;have hl:=RF cN;subst hl;split at hk
    .rename_i sz es hr;have hf:Cc [(r,1000)] r=some 1000:=by simp[Cc]
     have e1:ren (Cc [(r,1000)]) st.h (.v (.func (.func f) ⟨[]⟩ ⟨[]⟩))=.v (.func (.func f) ⟨[]⟩ ⟨[]⟩):=rfl;have e2:(AV.msl r n::vs.map AV.v).map (ren (Cc [(r,1000)]) st.h)=.msl 1000 n::vs.map .v:=by
      rw[AK]
      congr 1
      .simp[ren,ren1,ren0,hf]
      .rw[Bw];rfl
     have e3:Ft [(r,1000)] st.h=Ag [(1000,.arr sz es)] Ad:=by
      unfold Ft YL;rw[hr];rfl
     split at hk
     .obtain⟨n',Gm,h1,h2⟩:=hk;refine⟨.gen [(r,1000)] 0,?_⟩;show(Ef [(r,1000)]&&DC st.h dd 0&&De [(r,1000)] dd 0)=true/\_;refine⟨?_,?_⟩
      .have:De [(r,1000)] dd 0=true:=by
        unfold De
        have:(Nat.ble (Bp dd 0) r&&Nat.blt r (Bp dd 0))=false:=by
         rw[AH];simp only[WN,Af,Df,Cr];omega
        rw[this];rfl
       rw[this];rfl
      rw[e1,e2,e3];refine⟨h1.1,fun g w vals q1 q2 q3=>(h1.2 g w vals q1 q2 q3).mono fun _ _ ⟨v,r',h',g',e1,⟨e2,e3⟩,rest⟩=>⟨v,r',h',g',e1,?_,rest⟩⟩;subst e2;subst e3;have f1:ren (Fv [(r,1000)] dd 0) (Ag [(1000,.arr sz Gm)] Ad) (.msl 1000 n')=.msl r n':=rfl;have f2:Ei [(r,1000)] dd 0 st.h (Ag [(1000,.arr sz Gm)] Ad)=AR st.h r (.arr sz Gm):=by
       funext i
       by_cases e:i=r
       .subst e;rw[A3];simp[Ei,hf,Ag,HO.ren]
       .rw[BR _ _ _ _ e];have hn:Cc [(r,1000)] i=none:=by simp[Cc,B9 (Ne.symm e)]
        have:(Nat.ble (Bp dd 0) i&&Nat.blt i (Bp dd 0))=false:=by
         rw[AH];simp only[WN,Af,Df,Cr];omega
        simp only[Ei,hn,this]
      rw[f1,f2];exact h2
     .obtain⟨n',Gm,h0,h1,h2⟩:=hk;simp only[Af,Cr,Co]at h0;have hrd:r≠Bp dd 0:=fun e=>by have:=h0.2;rw[e]at this;simp at this
      refine⟨.gen [(r,1000)] 1,?_⟩;show(Ef [(r,1000)]&&DC st.h dd 1&&De [(r,1000)] dd 1)=true/\_;refine⟨?_,?_⟩
      .have:De [(r,1000)] dd 1=true:=by
        unfold De
        have:(Nat.ble (Bp dd 0) r&&Nat.blt r (Bp dd 1))=false:=by
         rw[AH];simp only[WN,Af,Df,Cr];unfold Bp at hrd⊢;omega
        rw[this];rfl
       rw[this,h0.1.1];rfl
      rw[e1,e2,e3];refine⟨h1.1,fun g w vals q1 q2 q3=>(h1.2 g w vals q1 q2 q3).mono fun _ _ ⟨v,r',h',g',e1,⟨e2,e3⟩,rest⟩=>⟨v,r',h',g',e1,?_,rest⟩⟩;subst e2;subst e3;have f1:ren (Fv [(r,1000)] dd 1) (Ag [(1000,.dead),(2000,.arr sz Gm)] Ad) (.msl 2000 n')=.msl (Bp dd 0) n':=rfl;have f2:Ei [(r,1000)] dd 1 st.h (Ag [(1000,.dead),(2000,.arr sz Gm)] Ad)=AR (AR st.h r .dead) (Bp dd 0) (.arr sz Gm):=by
       funext i
       by_cases e:i=Bp dd 0
       .subst e;rw[A3];have hn:Cc [(r,1000)] (Bp dd 0)=none:=by simp[Cc,B9 hrd]
        have hb:(Nat.ble (Bp dd 0) (Bp dd 0)&&Nat.blt (Bp dd 0) (Bp dd 1))=true:=by
         unfold Bp;simp only[Af,Df,Cr];omega
        simp only[Ei,hn,hb,F7];rfl
       .rw[BR _ _ _ _ e]
        by_cases e4:i=r
        .subst e4;rw[A3];simp[Ei,hf,Ag,HO.ren]
        .rw[BR _ _ _ _ e4];have hn:Cc [(r,1000)] i=none:=by simp[Cc,B9 (Ne.symm e4)]
         have:(Nat.ble (Bp dd 0) i&&Nat.blt i (Bp dd 1))=false:=by
          rw[AH];simp only[WN,Af,Df,Cr];unfold Bp at e⊢;omega
         simp only[Ei,hn,this]
      rw[f1,f2];exact h2
    .exact hk.elim
   .exact hk.elim
  .exact hk.elim
theorem lj{d:Option Nat}{f:Operand}{dst:Option Nat}{ty:Nat}{gd:Option (Nat×Bool)}{next:Act->World->Prop}{Q:Exit->Act->World->Prop}(hP:cx.P=P)(hY:∀l σ h g w,Ef σ=true->Dr w0 g0 h0 h g w->Le h0 g0 w0 h g w->cx.yp l σ (CL σ g) w){ro:Option Nat}(hS:SR N ds w0 g0 h0 st g a w)(hk:GL cx dr d st (ev st.t f) (args.toList.map (ev st.t)) K)(hn:bJ w0 g0 h0 st.h g w K fun x w'=>next (a.put dst x) w'):Oper.wpIn (In ro) 0 P ⟨dst,.call ⟨.value f,args,Hd⟩,ty,pos,after,gd⟩ a w next Q:=by
 subst hP;have hk:GL cx false d st (ev st.t f) (args.toList.map (ev st.t)) K:=by
  cases dr with
  |true=>exact gI hk
  |false=>exact hk
 have JU:∀(i:Nat) (av:AV) (x:Value),((args.toList.map (ev st.t)).map (str st.h))[i]?=some av->(args.map a.eval)[i]?=some x->Br g w Fq av x:=by
  intro i av x h1 h2;rw[Aw,Aw]at h1;rw[OZ]at h2;cases ho:args[i]? with
  |none=>rw[ho]at h2;simp at h2
  |some y=>
   rw[ho]at h2;have hy:args.toList[i]?=some y:=by simpa using ho
   rw[hy]at h1;simp only[HZ,Bk]at h1 h2;subst h1;subst h2;exact Br.str hS.inv.objs (hS.eval y)
 have Ca:(args.map a.eval).size=((args.toList.map (ev st.t)).map (str st.h)).length:=by simp
 have hF:=Br.str hS.inv.objs (hS.eval f)
 -- a call of yield
 have yl:∀(l:Nat) (R:Ending->World->Prop),a.eval f=.func (.yield l) #[] #[]->YieldAt Fence.wide 0 cx.P l (args.map a.eval) w R->(∀e w',R e w'->∃v,e=.returned v/\next (a.put dst v) w') ->
   Oper.wpIn (In ro) 0 cx.P ⟨dst,.call ⟨.value f,args,Hd⟩,ty,pos,after,gd⟩ a w next Q:=by
  rintro l R hx ⟨fn,tm,Ew,bd,h1,h2⟩ hR
  refine⟨fun _ _=>trivial,?_⟩;have e:(⟨dst,.call ⟨.value f,args,Hd⟩,ty,pos,after,gd⟩:Oper).semAt (In ro).round a.eval=execOp a.eval ⟨dst,.call ⟨.value f,args,Hd⟩,ty,pos,after,gd⟩:=Oper.semAt_eq ro a.eval _ (fun c e=>by cases e);have CI:(execOp a.eval ⟨dst,.call ⟨.value f,args,Hd⟩,ty,pos,after,gd⟩).run cx.P w=.ok (.round l fn tm Ew bd) w:=by
   simp only[execOp,resolve,hx,Deferred.ofValue,Sem.run_bind,Sem.run_pure,Result.andThen_ok,invoke];simpa using h1
  rw[e,CI];refine(show(_->_)/\RoundIn (In ro) 0 cx.P l fn tm Ew bd w _ from⟨fun e=>by(cases e),RoundIn.mono h2 fun e w' h=>?_⟩);obtain⟨v,rfl,hn⟩:=hR e w' h;exact hn
 -- the call itself
 have go:∀(Q' : AV->(Nat->HO)->Prop),(∀r h',Q' r h'->h'=Ad/\K r st.h)->Gx cx.P (fun _ _ _=>True) (str st.h (ev st.t f)) ((args.toList.map (ev st.t)).map (str st.h)) Ad Q' ->
   Oper.wpIn (In ro) 0 cx.P ⟨dst,.call ⟨.value f,args,Hd⟩,ty,pos,after,gd⟩ a w next Q:=by
  intro Q' hQ hc
  have fin:∀{fn:Nat} {l:List AV} {vals:Array Value},Bb cx.P fn l Ad Q'->vals.size=l.length->(∀(i:Nat) (av:AV) (x:Value),l[i]?=some av->vals[i]?=some x->Br g w Fq av x) ->
    (execOp a.eval ⟨dst,.call ⟨.value f,args,Hd⟩,ty,pos,after,gd⟩).run cx.P w=.ok (.enter fn vals) w->Oper.wpIn (In ro) 0 cx.P ⟨dst,.call ⟨.value f,args,Hd⟩,ty,pos,after,gd⟩ a w next Q:=by
   intro fn l vals hc hs hv CI;refine NI (fun c e=>by cases e) ?_;unfold Oper.wp;rw[CI];exact gJ hS.inv hc hs hv (fun v r h' g' w' hq _ hI Hp hr=>hn r _ g' w' v (hQ r h' hq).2 hI Hp (hr.up _)) (fun r h' hq=>(hQ r h' hq).1)
  unfold Gx at hc;split at hc
  .rename_i fn e;rw[e]at hF;have hx:=hF.v_eq;refine fin hc Ca JU ?_;have ME : a.eval f=.func (.func fn) #[] #[]:=hx;simp only[execOp,resolve,ME,Deferred.ofValue,Sem.run_bind,Sem.run_pure,Result.andThen_ok,invoke];rw[Gk hc.1];simp
  .rename_i fn caps e;rw[e]at hF;generalize hx:a.eval f=fv at hF;cases hF with
   |clo _ _ _ vs D5 KO=>
    refine fin hc (vals:=args.map a.eval++vs) (by simp[D5]) (fun i av x h1 h2=>?_) ?_
    .rw[ML]at h1;rw[Fg]at h2;have hl:((args.toList.map (ev st.t)).map (str st.h)).length=(args.map a.eval).size:=Ca.symm;rw[hl]at h1;split at h1
     .rename_i hi;rw[As hi]at h2;exact JU i av x h1 h2
     .rename_i hi;rw[Ah hi]at h2;exact KO _ av x h1 h2
    .simp only[execOp,resolve,hx,Deferred.ofValue,Sem.run_bind,Sem.run_pure,Result.andThen_ok,invoke];rw[Gk hc.1];simp
  .rename_i l e;rw[e]at hF;have hU:AN Ad=Fq:=by funext i;unfold AN Fq Ad;simp
   refine yl l _ hF.v_eq (TG (C:=YieldAt Fence.wide 0 cx.P l (args.map a.eval) w) (R:=fun e w'=>∃v,e=.returned v/\next (a.put dst v) w') YieldAt.imp hS.inv (fun pX=>hc g w _ Ca (fun i av x h1 h2=>by rw[hU];exact JU i av x h1 h2) pX trivial)
    (fun v r h' g' w' hq _ hI Hp hr=>⟨v,rfl,hn r _ g' w' v (hQ r h' hq).2 hI Hp (hr.up _)⟩) (fun r h' hq=>(hQ r h' hq).1)) fun _ _ h=>h
  .exact hc.elim
 have pure:(∃res,Qr cx.P (str st.h (ev st.t f)) ((args.toList.map (ev st.t)).map (str st.h)) res/\K res st.h)->Oper.wpIn (In ro) 0 cx.P ⟨dst,.call ⟨.value f,args,Hd⟩,ty,pos,after,gd⟩ a w next Q:=by
  rintro⟨res,h1,h2⟩
  refine go (fun r h'=>r=res/\h'=Ad) (fun r h' hq=>⟨hq.2,by rw[hq.1];exact h2⟩) ?_;unfold Qr at h1;unfold Gx;split at h1
  .rename_i fn e;rw[e];exact h1
  .rename_i fn caps e;rw[e];exact h1
  .exact h1.elim
 unfold GL at hk
 .obtain⟨m,hm⟩:=hk;cases m with
  |pure=>exact pure hm
  |rel=>exact go _ (fun r h' hq=>hq) hm
  |gen σ nn=>
   simp only at hm;cases d with
   |none=>exact hm.elim
   |some d=>
    simp only at hm;obtain⟨FY,hc⟩:=hm;have hσ:Ef σ=true:=by simp only[Af]at FY;exact FY.1.1
    obtain⟨hR,_⟩:=Ub hS.inv hσ;have l8:=(hS.eval f).ren hR;have Uc:∀(i:Nat) (av:AV) (x:Value),((args.toList.map (ev st.t)).map (ren (Cc σ) st.h))[i]?=some av->(args.map a.eval)[i]?=some x->Br (CL σ g) w (AN (Ft σ st.h)) av x:=by
     intro i av x h1 h2;rw[Aw,Aw]at h1;rw[OZ]at h2;cases ho:args[i]? with
     |none=>rw[ho]at h2;simp at h2
     |some y=>
      rw[ho]at h2;have hy:args.toList[i]?=some y:=by simpa using ho
      rw[hy]at h1;simp only[HZ,Bk]at h1 h2;subst h1;subst h2;exact(hS.eval y).ren hR
    have Mt:(args.map a.eval).size=((args.toList.map (ev st.t)).map (ren (Cc σ) st.h)).length:=by simp
    have fin:∀{fn:Nat} {l:List AV} {vals:Array Value},Bb cx.P fn l (Ft σ st.h) (fun r h'=>K (ren (Fv σ d nn) h' r) (Ei σ d nn st.h h'))->vals.size=l.length ->
      (∀(i:Nat) (av:AV) (x:Value),l[i]?=some av->vals[i]?=some x->Br (CL σ g) w (AN (Ft σ st.h)) av x) ->
      (execOp a.eval ⟨dst,.call ⟨.value f,args,Hd⟩,ty,pos,after,gd⟩).run cx.P w=.ok (.enter fn vals) w->Oper.wpIn (In ro) 0 cx.P ⟨dst,.call ⟨.value f,args,Hd⟩,ty,pos,after,gd⟩ a w next Q:=by
     intro fn l vals hc hs hv CI;refine NI (fun c e=>by cases e) ?_;unfold Oper.wp;rw[CI];exact lk hS.inv FY hc hs hv (fun v r h' g' w' hq hI Hp hr=>hn _ _ g' w' v hq hI Hp hr)
    unfold Gx at hc;split at hc
    .rename_i fn e;rw[e]at l8;have hx:a.eval f=.func (.func fn) #[] #[]:=l8.v_eq;refine fin hc Mt Uc ?_;simp only[execOp,resolve,hx,Deferred.ofValue,Sem.run_bind,Sem.run_pure,Result.andThen_ok,invoke];rw[Gk hc.1];simp
    .rename_i fn caps e;rw[e]at l8;generalize hx:a.eval f=fv at l8;cases l8 with
     |clo _ _ _ vs D5 KO=>
      refine fin hc (vals:=args.map a.eval++vs) (by simp[D5]) (fun i av x h1 h2=>?_) ?_
      .rw[ML]at h1;rw[Fg]at h2;have hl:((args.toList.map (ev st.t)).map (ren (Cc σ) st.h)).length=(args.map a.eval).size:=Mt.symm;rw[hl]at h1;split at h1
       .rename_i hi;rw[As hi]at h2;exact Uc i av x h1 h2
       .rename_i hi;rw[Ah hi]at h2;exact KO _ av x h1 h2
      .simp only[execOp,resolve,hx,Deferred.ofValue,Sem.run_bind,Sem.run_pure,Result.andThen_ok,invoke];rw[Gk hc.1];simp
    .rename_i l e;rw[e]at l8
     exact yl l _ l8.v_eq (Lj (C:=YieldAt Fence.wide 0 cx.P l (args.map a.eval) w) (R:=fun e w'=>∃v,e=.returned v/\next (a.put dst v) w') YieldAt.imp hS.inv FY (fun pX=>hc (CL σ g) w _ Mt Uc pX (hY l σ _ _ _ hσ hS.inv hS.le))
      (fun v r h' g' w' hq hI Hp hr=>⟨v,rfl,hn _ _ g' w' v hq hI Hp hr⟩)) fun _ _ h=>h
    .exact hc.elim
  |geny σ nn=>
   simp only at hm;cases d with
   |none=>exact hm.elim
   |some d=>
    simp only at hm;obtain⟨FY,hc⟩:=hm;have hσ:Ef σ=true:=by simp only[Af]at FY;exact FY.1.1
    obtain⟨hR,_⟩:=Ub hS.inv hσ;have l8:=(hS.eval f).ren hR;have Uc:∀(i:Nat) (av:AV) (x:Value),((args.toList.map (ev st.t)).map (ren (Cc σ) st.h))[i]?=some av->(args.map a.eval)[i]?=some x->Br (CL σ g) w (AN (Ft σ st.h)) av x:=by
     intro i av x h1 h2;rw[Aw,Aw]at h1;rw[OZ]at h2;cases ho:args[i]? with
     |none=>rw[ho]at h2;simp at h2
     |some y=>
      rw[ho]at h2;have hy:args.toList[i]?=some y:=by simpa using ho
      rw[hy]at h1;simp only[HZ,Bk]at h1 h2;subst h1;subst h2;exact(hS.eval y).ren hR
    have Mt:(args.map a.eval).size=((args.toList.map (ev st.t)).map (ren (Cc σ) st.h)).length:=by simp
    split at hc
    .rename_i fn caps e;rw[e]at l8;generalize hx:a.eval f=fv at l8;cases l8 with
     |clo _ _ _ vs D5 KO=>
      have CI:(execOp a.eval ⟨dst,.call ⟨.value f,args,Hd⟩,ty,pos,after,gd⟩).run cx.P w=.ok (.enter fn (args.map a.eval++vs)) w:=by
       simp only[execOp,resolve,hx,Deferred.ofValue,Sem.run_bind,Sem.run_pure,Result.andThen_ok,invoke];rw[Gk hc.1];simp
      refine NI (fun c e=>by cases e) ?_;unfold Oper.wp;rw[CI];refine Lj (C:=Calls cx.P fn (args.map a.eval++vs) w) (fun h k=>h.mono k) hS.inv FY (fun pX=>hc.2 (CL σ g) w _ (by simp[D5]) (fun i av x h1 h2=>?_) pX (fun l=>hY l σ _ _ _ hσ hS.inv hS.le)) (fun v r h' g' w' hq hI Hp hr=>hn _ _ g' w' v hq hI Hp hr);rw[ML]at h1;rw[Fg]at h2;have hl:((args.toList.map (ev st.t)).map (ren (Cc σ) st.h)).length=(args.map a.eval).size:=Mt.symm;rw[hl]at h1;split at h1
      .rename_i hi;rw[As hi]at h2;exact Uc i av x h1 h2
      .rename_i hi;rw[Ah hi]at h2;exact KO _ av x h1 h2
    .exact hc.elim
end
section
variable {P:Program}{N:Nat}{ds:List Deferred}{w0:World}{g0:Gh}{h0:Nat->HO}{st:St}{g:Gh}{a:Act}{w:World}
theorem Zk(hT:Ci P cx.T){b:Builtin}{dst:Option Nat}{ty:Nat}{gd:Option (Nat×Bool)}{next:Act->World->Prop}{Q:Exit->Act->World->Prop}(hS:SR N ds w0 g0 h0 st g a w)(hk:Gp cx dst st.h b Hd.toList (args.toList.map (ev st.t)) K)(hn:bJ w0 g0 h0 st.h g w K fun x w'=>next (a.put dst x) w'):Oper.wp P ⟨dst,.call ⟨.builtin b,args,Hd⟩,ty,pos,after,gd⟩ a w next Q:=by
 have hI:=hS.inv;have hE:=hS.eval;obtain⟨l⟩:=args;obtain⟨tl⟩:=Hd;unfold Gp at hk;split at hk
 .rename_i x t e1 e2
  match l,e1 with
  | [y],e1=>
   simp only[AK,Eb,Eu,Tw]at e1;subst e1;simp only at e2;subst e2;exact D0 (m:=Builtin.len_ #[t] ty #[a.eval y]) (by simp[execOp,resolve,invoke,builtin]) (BF.does hI (mM hT hI.objs (hE y) hk)) hn
 .rename_i s x t t' e1 e2
  match l,e1 with
  | [y,z],e1=>
   simp only[AK,Eb,Eu,Tw]at e1;obtain⟨rfl,rfl⟩:=e1;simp only at e2;subst e2;split at hk
   .rename_i ht;obtain rfl:=AM ht;exact D0 (m:=Builtin.append_ #[t,t] ty #[a.eval y,a.eval z]) (by simp[execOp,resolve,invoke,builtin]) (bT hI hT (hE y) (hE z) hk) hn
   .exact hk.elim
 .rename_i x y Hd e1
  match l,e1 with
  | [y,z],e1=>
   simp only[AK,Eb,Eu,Tw]at e1;obtain⟨rfl,rfl⟩:=e1;exact D0 (m:=Builtin.max_ ⟨tl⟩ ty #[a.eval y,a.eval z]) (by simp[execOp,resolve,invoke,builtin]) (BF.does hI (qD (hE y) (hE z) hk)) hn
 .rename_i x y Hd e1
  match l,e1 with
  | [y,z],e1=>
   simp only[AK,Eb,Eu,Tw]at e1;obtain⟨rfl,rfl⟩:=e1;exact D0 (m:=Builtin.min_ ⟨tl⟩ ty #[a.eval y,a.eval z]) (by simp[execOp,resolve,invoke,builtin]) (BF.does hI (qF (hE y) (hE z) hk)) hn
 .exact hk.elim
theorem pe(hT:Ci P cx.T){next:Act->World->Prop}{Q:Exit->Act->World->Prop}(hS:SR N ds w0 g0 h0 st g a w)(hk:F9 cx dr o st K)(hv:∀f args Hd,o.op≠.call ⟨.value f,args,Hd⟩)(hn:bJ w0 g0 h0 st.h g w K fun x w'=>next (a.put o.dst x) w'):o.wp P a w next Q:=by
 have hI:=hS.inv;have hE:=hS.eval;obtain⟨dst,op,ty,pos,after,gd⟩:=o;unfold F9 at hk;cases op with
 |move x=>exact fU hI (x:=a.eval x) rfl hk (hE x) hn
 |assign x=>
  obtain⟨g',av,h',q1,q2,q3,q4⟩:=bV hI (hE x) hk;exact hn _ _ _ _ _ q1 q2 q3 q4
 |pick c x y=>exact D0 (m:=do pure (if <-asBool (a.eval c)then a.eval x else a.eval y)) (by simp[execOp]) (BF.does hI (nC (hE c) (hE x) (hE y) hk)) hn
 |alloc e=>exact D0 rfl (gc hI hT hk) hn
 |box e x=>exact D0 rfl (pp hI (hE x) hk) hn
 |build t ps=>exact D0 rfl (BF.does hI (gG hT hE hk)) hn
 |buildSlice t n ps=>exact D0 rfl (TF hI hT hE hk) hn
 |insert t m k x=>exact YX rfl (Od hI hT (hE m) (hE k) (hE x) hk) hn
 |load t x=>exact D0 rfl (BF.does hI (WJ hI.objs hT (hE x) hk)) hn
 |store t p x=>exact YX rfl (jT hI hT (hE p) (hE x) hk) hn
 |nilCheck x=>
  obtain⟨h1,h2⟩:=YB (P:=P) (w:=w) (hE x) hk (pos:=pos) (after:=after) (gd:=gd) (dst:=dst) (ty:=ty) (ρ:=a.eval) rfl;exact fU hI h1 h2 (hE x) hn
 |binOp op t x y u=>exact D0 rfl (BF.does hI (kZ hT (hE x) (hE y) (fun v e=>by subst e;rfl) hk)) hn
 |unOp op t x=>exact D0 rfl (BF.does hI (oq (hE x) hk)) hn
 |convert s t x=>
  cases dr with
  |true=>exact D0 rfl (BF.does hI (Zs hT (hE x) hk)) hn
  |false=>exact D0 rfl (gP hI hT (hE x) hk) hn
 |makeFunc fn first cap=>exact D0 rfl (BF.does hI (Yv hI.objs hE hk)) hn
 |makeMap t r=>
  cases r with
  |some r=>exact hk.elim
  |none=>exact D0 rfl (aG hI hk) hn
 |makeSlice t n c=>exact D0 rfl (VT hI hT (hE n) (hE c) hk) hn
 |slice t x lo hi mx=>
  cases dr with
  |true=>
   cases hp:Om cx.pl.tok dst with
   |none=>
    have hk' : GT cx dst st.h t (ev st.t x) (Cf st.t lo) (Cf st.t hi) (Cf st.t mx) K:=by
     have IA:(match Om cx.pl.tok dst with
      |none=>GT cx dst st.h t (ev st.t x) (Cf st.t lo) (Cf st.t hi) (Cf st.t mx) K
      |some _=>PZ cx dst st.h t (ev st.t x) lo (Cf st.t hi) mx K):=hk
     rw[hp]at IA;exact IA
    exact D0 rfl (Xe hI hT hE (hE x) hk') hn
   |some _=>
    have hk' : PZ cx dst st.h t (ev st.t x) lo (Cf st.t hi) mx K:=by
     have IA:(match Om cx.pl.tok dst with
      |none=>GT cx dst st.h t (ev st.t x) (Cf st.t lo) (Cf st.t hi) (Cf st.t mx) K
      |some _=>PZ cx dst st.h t (ev st.t x) lo (Cf st.t hi) mx K):=hk
     rw[hp]at IA;exact IA
    unfold PZ at hk';split at hk'
    .exact D0 rfl (fB hI hT hE (hE x) hk') hn
    .exact hk'.elim
  |false=>
   cases hp:Om cx.pl.tok dst with
   |none=>
    have hk' : GT cx dst st.h t (ev st.t x) (Cf st.t lo) (Cf st.t hi) (Cf st.t mx) K:=by
     have IA:(match Om cx.pl.tok dst with
      |none=>GT cx dst st.h t (ev st.t x) (Cf st.t lo) (Cf st.t hi) (Cf st.t mx) K
      |some _=>bt cx dst st.h t (ev st.t x) st.t lo hi mx K):=hk
     rw[hp]at IA;exact IA
    exact D0 rfl (Xe hI hT hE (hE x) hk') hn
   |some _=>
    have hk' : bt cx dst st.h t (ev st.t x) st.t lo hi mx K:=by
     have IA:(match Om cx.pl.tok dst with
      |none=>GT cx dst st.h t (ev st.t x) (Cf st.t lo) (Cf st.t hi) (Cf st.t mx) K
      |some _=>bt cx dst st.h t (ev st.t x) st.t lo hi mx K):=hk
     rw[hp]at IA;exact IA
    cases lo with
    |some lo=>exact D0 rfl (bu hI hT hE (hE x) hk') hn
    |none=>
     unfold bt at hk';dsimp only at hk';split at hk'
     .exact D0 rfl (BF.does hI (gv hI.objs hT (hE x) hk')) hn
     .unfold PZ at hk';split at hk'
      .exact D0 rfl (fB hI hT hE (hE x) hk') hn
      .exact hk'.elim
 |fieldAddr s x f=>exact D0 rfl (BF.does hI (gX hT (hE x) hk)) hn
 |field s x f=>exact D0 rfl (BF.does hI (cw hT (hE x) hk)) hn
 |indexAddr t x i=>exact D0 rfl (BF.does hI (VP hT (hE x) (hE i) hk)) hn
 |index t x i=>exact D0 rfl (BF.does hI (iE hT (hE x) (hE i) hk)) hn
 |lookup t x i ok=>
  have hk:NE cx.T st.h t (ev st.t x) (ev st.t i) ok fun v=>K v st.h:=by
   cases dr with
   |true=>exact iP hk
   |false=>exact hk
  exact D0 rfl (BF.does hI (da hT hI.objs (hE x) (hE i) hk)) hn
 |mapUpdate t m k x=>exact YX rfl (Od hI hT (hE m) (hE k) (hE x) hk) hn
 |range t x=>
  simp only at hk;split at hk
  .rename_i kt e ht;exact D0 rfl (jC hI hT ht (hE x) hk) hn
  .exact hk.elim
 |next it s=>
  cases s with
  |true=>exact hk.elim
  |false=>exact D0 rfl (m6 hI (hE it) hk) hn
 |entry it=>exact D0 rfl (BF.does hI (gU hI.objs (hE it) hk)) hn
 |extract x i=>exact D0 rfl (BF.does hI (ZD (hE x) hk)) hn
 |call c=>
  obtain⟨te,args,Hd⟩:=c;cases te with
  |builtin b=>exact Zk hT hS hk hn
  |value f=>exact absurd rfl (hv f args Hd)
  |invoke r m=>exact hk.elim
 |_=>exact hk.elim
theorem kH(hP:cx.P=P)(hY:∀l σ h g w,Ef σ=true->Dr w0 g0 h0 h g w->Le h0 g0 w0 h g w->cx.yp l σ (CL σ g) w){ro:Option Nat}(hT:Ci P cx.T){next:Act->World->Prop}{Q:Exit->Act->World->Prop}(hS:SR N ds w0 g0 h0 st g a w)(hk:F9 cx dr o st K)(hn:bJ w0 g0 h0 st.h g w K fun x w'=>next (a.put o.dst x) w'):o.wpIn (In ro) 0 P a w next Q:=by
 by_cases hv:∃f args Hd,o.op=.call ⟨.value f,args,Hd⟩
 .obtain⟨f,args,Hd,e⟩:=hv;obtain⟨dst,op,ty,pos,after,gd⟩:=o;cases e;exact lj hP hY hS hk hn
 .refine NI (fun c e=>?_) (pe hT hS hk (fun f args Hd e=>hv ⟨f,args,Hd,e⟩) hn);obtain⟨dst,op,ty,pos,after,gd⟩:=o;cases e;exact hk.elim
theorem r7{p:Nat->Prop}(h:∃n,p n):∃n,p n/\∀m,m<n->¬p m:=by
 apply Bc;intro hc
 have:∀n,¬p n:=fun n=>by
  induction n using Nat.strongRecOn with
  |_ n ih=>exact fun hp=>hc ⟨n,hp,ih⟩
 obtain⟨n,hn⟩:=h;exact this n hn
theorem SU{m:Nat}{c:Code}{Q:Exit->Act->World->Prop}(I:Nat->Act->World->Prop)(k:Nat)(h0:I k a w)(round:∀n a w,I n a w->c.wpIn F m P (Exit.then (fun a' w'=>∃n',n' < n/\I n' a' w') Q) a w):(Code.loop c).wpIn F m P Q a w:=by
 classical
 have hex:∀a w,(∃n,I n a w)->∃n,I n a w/\∀n',n' < n->¬I n' a w:=fun a w h=>r7 h;refine wpIn_loop (fun a w=>∃n,I n a w) (fun a w=>if h:∃n,I n a w then(hex a w h).choose else 0) ⟨k,h0⟩ fun a w h=>?_;have hs:=(hex a w h).choose_spec;refine wpIn_mono (round _ a w hs.1) fun e a' w' q=>?_;cases e with
 |normal=>
  obtain⟨n',Dx,hn⟩:=q;have h' : ∃n,I n a' w':=⟨n',hn⟩;refine⟨h',?_⟩;simp only[dif_pos h,dif_pos h'];refine Nat.lt_of_le_of_lt ?_ Dx;apply Hh;intro hc;exact(hex a' w' h').choose_spec.2 n' hc hn
 |_=>exact q
end
section
variable {P:Program}{N:Nat}{ds:List Deferred}{w0:World}{g0:Gh}{h0:Nat->HO}{st:St}{g:Gh}{a:Act}{w:World}
theorem gK(hT:Ci P T){ty e k ty2 b o n c:Nat}(ht:(T ty).d=.slice e)(hk:(T e).size=k+1)(hz:(T e).zc.length=k+1)(PJ:∀v∈(T e).zc,v.oneCell'=true){Db:Array Value}{E:TypeId}(hb:w.heap[b]?=some (.cells Db E (0,0)))(hn:0<n)(Hp:o+n*(k+1)<=Db.size) :
  (Builtin.clear_ #[ty] ty2 #[.slice (some ⟨b,o,none⟩) n c]).run P w=.ok (.tuple #[]) (w.setRow b (over Db.toList o (List.replicate n (T e).zc).flatten).toArray):=by
 obtain⟨z,z1,z2⟩:=Xv (w:=w) hT hk;have qq:(T e).zc≠[]:=fun e0=>by rw[e0]at hz;cases hz
 have ua:(Builtin.zeroCells z.cells n).toList=(List.replicate n (T e).zc).flatten:=by
  rw[Ig n _ qq,hz,z2];have e6:z.cells.size=k+1:=by rw[<-hz,z2];simp
  unfold Builtin.zeroCells;simp[e6,Array.getElem!_eq_getD]
 have Ca:(List.replicate n (T e).zc).flatten.length=n*(k+1):=by
  rw[Dm (n:=k+1) (fun c hc=>by rw[Ck hc];exact hz),Bv]
 have Il:=run_storeCells_at P b o E (List.replicate n (T e).zc).flatten 0 Db w hb (by rw[Ca];simpa using Hp) (fun v hv=>by
  obtain⟨l,hl,hv⟩:=DQ.1 hv;rw[Ck hl]at hv;exact PJ v hv)
 simp only[DX]at Il;rw[NK _ _ _ (by rw[Ca];simpa using Hp)];obtain⟨m,rfl⟩:∃m,n=m+1:=⟨n-1,by omega⟩;simp only[Builtin.clear_,Sem.run_bind,Gu,A4,run_underlying (hT.slice ht),Result.andThen_ok,z1,ua,Il,Sem.run_pure]
theorem cj(hT:Ci P T){ty e ty2 c:Nat}(ht:(T ty).d=.slice e)(x:Option Addr) :
  (Builtin.clear_ #[ty] ty2 #[.slice x 0 c]).run P w=.ok (.tuple #[]) w:=by
 cases x<;>simp only[Builtin.clear_,Sem.run_bind,Gu,A4,run_underlying (hT.slice ht),Result.andThen_ok,Sem.run_pure]
theorem nK{d:Nat}(hd:d<a.tmps.size):(a.put (some d) x).eval (.tmp d)=x:=by
 show(a.tmps.setIfInBounds d x).getD d undef=x;rw[Ce,Array.getElem?_setIfInBounds_self,As hd];rfl
theorem mr(h:Nat->HO)(r:Nat):AR h r (h r)=h:=funext fun i=>by
 by_cases e:i=r
 .subst e;exact A3 ..
 .exact BR _ _ _ _ e
theorem cV(h:Us o o2=true):∃ty x lo d ty2 pos after u6 q8 XF,o=⟨some d,.slice ty x (some lo) none none,ty2,pos,after,none⟩/\o2=⟨none,.call ⟨.builtin .clear,#[.tmp d],#[ty]⟩,u6,q8,XF,none⟩:=by
 obtain⟨dst,op,t2,p1,a1,gd⟩:=o;obtain⟨Afu,op2,t3,p2,a2,zz⟩:=o2;unfold Us at h;split at h
 .rename_i c e1;split at h
  .rename_i e2;split at h
   .rename_i ty x lo e3;split at h
    .rename_i d d' ty' e4 e5 e6 e7 e8 e9;obtain⟨te,⟨args⟩,⟨Hd⟩⟩:=c;simp only at e1 e2 e3 e4 e5 e6 e7 e8 e9;simp only[Af]at h;obtain rfl:=AM h.1;obtain rfl:=AM h.2;subst e1 e2 e3 e4 e5 e6 e7 e8 e9;exact⟨_,_,_,_,_,_,_,_,_,_,rfl,rfl⟩
    .cases h
   .cases h
  .cases h
 .cases h
theorem pF(hT:Ci P cx.T){ro:Option Nat}(hd:∀i,o.dst=some i->i<N)(hc:Us o o2=true){K:St->Prop}(hS:SR N ds w0 g0 h0 st g a w)(hk:gM cx o st K){next:Act->World->Prop}{Q:Exit->Act->World->Prop}(hn:∀En g' a' w',K En->SR N ds w0 g0 h0 En g' a' w'->next a' w') :
  o.guard=none/\o2.guard=none/\o.wpIn (In ro) 0 P a w (fun a1 w1=>o2.wpIn (In ro) 0 P a1 w1 next Q) Q:=by
 obtain⟨ty,x,lo,d,ty2,pos,after,u6,q8,XF,rfl,rfl⟩:=cV hc;refine⟨rfl,rfl,?_⟩;have hI:=hS.inv;have hE:=hS.eval;have hdN:d<a.tmps.size:=by rw[hS.size];exact hd d rfl
 -- what is to be zg of the two operations
 have two:∀(v:Value) (En : St) (g' : Gh) (w' : World),(Instr.sliceAt ty (a.eval x) (some (a.eval lo)) none none).run P w=.ok v w->(Builtin.clear_ #[ty] u6 #[v]).run P w=.ok (.tuple #[]) w'->K ⟨HC st.t d .junk,En.h⟩->Dr w0 g0 h0 En.h g' w'->Le st.h g w En.h g' w' ->
   Oper.wpIn (In ro) 0 P ⟨some d,.slice ty x (some lo) none none,ty2,pos,after,none⟩ a w (fun a1 w1=>Oper.wpIn (In ro) 0 P ⟨none,.call ⟨.builtin .clear,#[.tmp d],#[ty]⟩,u6,q8,XF,none⟩ a1 w1 next Q) Q:=by
  intro v En g' w' r1 r2 hk hI' Hp;refine NI (by intro c e;cases e) ?_;unfold Oper.wp;have hx:execOp a.eval ⟨some d,.slice ty x (some lo) none none,ty2,pos,after,none⟩=(do pure (Next.value (<-Instr.sliceAt ty (a.eval x) (some (a.eval lo)) none none))):=rfl;rw[hx,Sem.run_bind,r1];refine NI (by intro c e;cases e) ?_;unfold Oper.wp;have kp:execOp (a.put (some d) v).eval ⟨none,.call ⟨.builtin .clear,#[.tmp d],#[ty]⟩,u6,q8,XF,none⟩=(do pure (Next.value (<-Builtin.clear_ #[ty] u6 #[v]))):=by
   simp[execOp,resolve,invoke,builtin,nK hdN]
  rw[kp,Sem.run_bind,r2];have S1:SR N ds w0 g0 h0 (st.put (some d) .junk st.h) g (a.put (some d) v) w:=hS.put hd hI (.refl _ _ _) (.junk _ _);have S2:SR N ds w0 g0 h0 ((st.put (some d) .junk st.h).put none (.v (.tuple #[])) En.h) g' ((a.put (some d) v).put none (.tuple #[])) w':=S1.put (by intro i e;cases e) hI' Hp (.v _ _);exact hn _ g' _ w' hk S2
 unfold gM at hk;simp only at hk;split at hk
 .rename_i e hs;split at hk
  .rename_i r n ex;split at hk
   .rename_i i ei;split at hk
    .rename_i sz es er;split at hk
     .rename_i hb;obtain rfl:=AM hb;split at hk
      .exact hk.elim
      .rename_i k D5;split at hk
       .rename_i QQ;have QQ:=AM QQ;obtain⟨⟨rfl,i0,i1⟩,hk⟩:=hk;unfold wZ at hk;split at hk
        .rename_i FN;have FN:∀v∈(cx.T e).zc,v.oneCell'=true:=AP.1 FN;have ho:=hI.objs r;rw[er]at ho;obtain⟨t1,l1,al,a2⟩:=ho;have iA:=hE x;rw[ex]at iA;have zM:=hE lo;rw[ei]at zM;have zM:=zM.v_eq;generalize hvx:a.eval x=vx at iA two;rw[zM]at two;cases iA with
         |msl _ _ _ ad cap hu ht' ae ha ME=>
          have hv:=ME l1.symm;have KO:es.length<=cap:=by
           rcases a2 with ⟨b1,_,_⟩ | ⟨b,Ln,E,vs,b1,_,b3,_⟩
           .subst b1;exact AE _
           .rw[b1]at hv;cases hv;exact b3
          have CI:=E5 (P:=P) (w:=w) hT hs D5 ad es.length cap (some i) none none (.inl rfl) (by simpa using i0) (by simpa using i1) (by simpa using KO) B0;simp only[CB,Ed,BE,HZ,Option.map_none]at CI
          by_cases hz:i.toNat=es.length
          .-- nothing is cleared
           have e1:es.length-i.toNat=0:=by omega
           rw[e1]at CI hk;refine two _ st g w CI (cj hT hs _) ?_ hI (.refl _ _ _);have e2:es.take i.toNat++List.replicate 0 ((cx.T e).zc.map AV.v)=es:=by rw[List.replicate_zero,BZ,hz,CK]
           rw[e2,<-er,mr]at hk;exact hk
          .have Dx:i.toNat<es.length:=by omega
           rcases a2 with ⟨b1,_⟩ | ⟨b,Ln,E,vs,b1,b2,b3,b4,b5,b6,b7⟩
           .subst b1;simp at Dx
           .rw[b1]at hv;cases hv;have Dv:¬cap=i.toNat:=by omega
            rw[Ah Dv]at CI;have Aby:Option.map (fun x:Addr=>x.add (i.toNat*(cx.T e).size)) (some ⟨b,0,none⟩)=some ⟨b,i.toNat*(cx.T e).size,none⟩:=by simp[Addr.add];omega
            rw[Aby]at CI;have QO:es.length*(cx.T e).size<=cap*(cx.T e).size:=Bh _ b3;have SI:i.toNat*(cx.T e).size+(es.length-i.toNat)*(cx.T e).size=es.length*(cx.T e).size:=by rw[<-E8];congr 1;omega
            have hcl:=gK (w:=w) (ty2:=u6) (c:=cap-i.toNat) hT hs D5 (QQ.trans D5) FN b4 (n:=es.length-i.toNat) (o:=i.toNat*(cx.T e).size) ch (by rw[show k+1=(cx.T e).size from D5.symm,SI,b5];exact QO);have hl:(st.h r).live:=by rw[er];trivial
            generalize hZ:(List.replicate (es.length-i.toNat) (cx.T e).zc).flatten=Z at hcl;have zE:Z.length=(es.length-i.toNat)*(cx.T e).size:=by
             rw[<-hZ,Dm (n:=(cx.T e).size) (fun c hc=>by rw[Ck hc];exact QQ),Bv]
            have Mt:(es.take i.toNat++List.replicate (es.length-i.toNat) ((cx.T e).zc.map AV.v)).length=es.length:=by
             rw[Ac,AA,Bv];omega
            have Abz:∀c∈es.take i.toNat++List.replicate (es.length-i.toNat) ((cx.T e).zc.map AV.v),c.length=(cx.T e).size:=fun c hc=>by
             rcases AT.1 hc with h1 | h1
             .exact al c (DG h1)
             .rw[Ck h1,AS];exact QQ
            have Acm:vs.toList.length=cap*(cx.T e).size:=by rw[BB];exact b5
            have hfl:(es.take i.toNat++List.replicate (es.length-i.toNat) ((cx.T e).zc.map AV.v)).flatten=over es.flatten (i.toNat*(cx.T e).size) (Z.map AV.v):=by
             rw[NK _ _ _ (by rw[AS,zE,SI,Dm al];exact Ai _),Cs,Ow al,AS,zE,SI,EW (by rw[Dm al];exact Ai _),BZ,<-hZ,Tr,List.map_replicate]
            have oY:((over vs.toList (i.toNat*(cx.T e).size) Z).toArray.toList.take (es.length*(cx.T e).size))=over (vs.toList.take (es.length*(cx.T e).size)) (i.toNat*(cx.T e).size) Z:=
             WS _ _ _ _ (by rw[zE,SI];exact Ai _) (by rw[Acm];exact QO)
            have hZr:CJ g w Fq (Z.map AV.v) Z:=CJ.vals (by
             have xw : ∀l:List AV,(∀a∈l,one a=true)->G7 l=true:=by
              intro l
              induction l with
              |nil=>intro _;rfl
              |cons a l ih=>intro h;simp[G7,h a (List.mem_cons_self ..),ih (fun b hb=>h b (List.mem_cons_of_mem _ hb))]
             refine xw _ fun q hq=>?_;obtain⟨y,hy,rfl⟩:=Ak.1 hq;rw[<-hZ]at hy;obtain⟨l,hl,hy⟩:=DQ.1 hy;rw[Ck hl]at hy;exact FN y hy)
            have t6:CJ g w Fq (over es.flatten (i.toNat*(cx.T e).size) (Z.map AV.v)) (over (vs.toList.take (es.length*(cx.T e).size)) (i.toNat*(cx.T e).size) Z):=
             b6.over hZr _ (by rw[AS,zE,SI,Dm al];exact Ai _)
            obtain⟨k1,k2⟩:=hI.write hl b2 (.arr (cx.T e).size (es.take i.toNat++List.replicate (es.length-i.toNat) ((cx.T e).zc.map AV.v))) b4 (over vs.toList (i.toNat*(cx.T e).size) Z).toArray (g.ln r) (g.own r) g.S B0 rfl (fun b' e=>by rw[b2]at e;cases e;rfl) (fun _ _ h=>h)
             (fun b' o hs=>.inl hs) (fun o hs=>absurd hs (b7 o)) (fun hg Io ER=>by
              obtain⟨u1,u2,u3,u4⟩:=Bq g r (g.ρ r) (g.ln r) (g.tk r) (g.own r) g.S;refine⟨u3.trans t1,u2.trans (by rw[Mt];exact l1),Abz,.inr ⟨b,cap,E,_,?_,u4.trans b2,by rw[Mt];exact b3,ER,?_,?_,b7⟩⟩
              .rw[u1,b1,Mt]
              .simp only[DW,F1,BB];exact b5
              .rw[Mt,oY,hfl];exact t6.mono Io (fun _ h=>h) (fun _ h=>h.elim))
            exact two _ ⟨st.t,_⟩ _ _ CI hcl hk k1 k2
        .exact hk.elim
       .exact hk.elim
     .exact hk.elim
    .exact hk.elim
   .exact hk.elim
  .exact hk.elim
 .exact hk.elim
end
end Go.Eng
