/- Lemmas 11. -/
import Derived.Test.YtkjhcikodmiceaaGreatDoorRA10
namespace Go.Eng
variable {o:Oper}{K:HK}{args:Array Operand}{cx:Cx}{GI:Array TypeId}{after:Array Edge}{dr:Bool}{pos:String}{x:Value}{F:Fence}{o2:Oper}{T:Gf}
structure SR(N:Nat)(ds:List Deferred)(w0:World)(g0:Gh)(h0:Nat->HO)(st:St)(g:Gh)(a:Act)(w:World):Prop where
 inv:CA w0 g0 h0 st.h g w
 le:Le h0 g0 w0 st.h g w
 dfs:a.defers=ds
 size:a.tmps.size=N
 slots:∀i,A3 g w (AI st.h) (st.t i) (a.tmps.getD i undef)
section
variable {P:Program}{N:Nat}{ds:List Deferred}{w0:World}{g0:Gh}{h0:Nat->HO}{st:St}{g:Gh}{a:Act}{w:World}
theorem SR.eval(hS:SR N ds w0 g0 h0 st g a w)(x:Operand):A3 g w (AI st.h) (ev st.t x) (a.eval x):=by
 cases x with
 |tmp i=>exact hS.slots i
 |const v=>exact .v _ _
 |global b=>exact .v _ _
 |func f=>exact .v _ _
theorem SR.put(hS:SR N ds w0 g0 h0 st g a w){d:Option Nat}(hd:∀i,d=some i->i<N){v:AV}{x:Value}{h' : Nat->HO}{g' : Gh}{w' : World}(hI:CA w0 g0 h0 h' g' w')(Ig:Le st.h g w h' g' w')(hr:A3 g' w' (AI h') v x) :
  SR N ds w0 g0 h0 (st.put d v h') g' (a.put d x) w':=by
 have old:∀i,A3 g' w' (AI h') (st.t i) (a.tmps.getD i undef):=fun i=>(hS.slots i).le Ig;cases d with
 |none=>exact⟨hI,hS.le.trans Ig,hS.dfs,hS.size,old⟩
 |some d=>
  have hdN:=hd d rfl;refine⟨hI,hS.le.trans Ig,hS.dfs,by simp[Act.put,hS.size],fun i=>?_⟩;simp only[St.put,Act.put,I9]
  by_cases e:i=d
  .subst e
   have:i<a.tmps.size:=by grind [SR.size]
   simp_all
  .simp only[Dx e,Gi];rw[Nh,Array.getElem?_setIfInBounds_ne (Ne.symm e),<-Nh];simp_all
def Zq(w0:World)(g0:Gh)(h0 h:Nat->HO)(g:Gh)(w:World)(K:HK)(next:Value->World->Prop):Prop:=
 ∀v h' g' w' x,K v h'->CA w0 g0 h0 h' g' w'->Le h g w h' g' w'->A3 g' w' (AI h') v x->next x w'
theorem Du{m:Sem Value}{next:Act->World->Prop}{Q:Exit->Act->World->Prop}(hx:execOp a.eval o=(do pure (Next.value (<-m))))(hd:Ni P w0 g0 h0 st.h g w m K)(hn:Zq w0 g0 h0 st.h g w K fun x w'=>next (a.put o.dst x) w'):o.wp P a w next Q:=by
 obtain⟨x,w',g',av,h',h1,h2,h3,h4,h5⟩:=hd;unfold Oper.wp;rw[hx,Sem.run_bind,h1];exact hn av h' g' w' x h2 h3 h4 h5
theorem WP{m:Sem Unit}{next:Act->World->Prop}{Q:Exit->Act->World->Prop}(hx:execOp a.eval o=(do m;pure Next.skip))(hd:gA P w0 g0 h0 st.h g w m K)(hn:Zq w0 g0 h0 st.h g w K fun x w'=>next (a.put o.dst x) w'):o.wp P a w next Q:=by
 obtain⟨w',g',h',h1,h2,h3,h4⟩:=hd;unfold Oper.wp;rw[hx,Sem.run_bind,h1];exact hn _ h' g' w' undef h2 h3 h4 (.v _ _)
theorem cW{next:Act->World->Prop}{Q:Exit->Act->World->Prop}{v:AV}(hI:CA w0 g0 h0 st.h g w)(hx:(execOp a.eval o).run P w=.ok (.value x) w)(hk:K v st.h)(hr:A3 g w (AI st.h) v x)(hn:Zq w0 g0 h0 st.h g w K fun x w'=>next (a.put o.dst x) w'):o.wp P a w next Q:=by
 unfold Oper.wp;rw[hx];exact hn _ _ _ _ _ hk hI (.refl _ _ _) hr
theorem Se{C:(Ending->World->Prop)->Prop}(hm:∀{R R' : Ending->World->Prop},C R->(∀e w,R e w->R' e w)->C R')(hI:CA w0 g0 h0 st.h g w){Q:AV->(Nat->HO)->Prop}
  (hc:CA w g Ad Ad g w->C (fun e w'=>∃v r h' g',e=Ending.returned v/\Q r h'/\A3 g' w' (AI h') r v/\CA w g Ad h' g' w'/\Le Ad g w h' g' w')) {R:Ending->World->Prop}
  (hR:∀v r h' g' w',Q r h'->h'=Ad->CA w0 g0 h0 st.h g' w'->Le st.h g w st.h g' w'->A3 g' w' DR r v->R (.returned v) w') (hQ:∀r h',Q r h'->h'=Ad):C R:=by
 have hU:AI Ad=DR:=by grind [AI,DR,Ad]
 have mi:CA w g Ad Ad g w:=⟨rfl,rfl,rfl,Ai _,fun _ _ _=>rfl,hI.slt,fun _=>trivial,fun _ _ _ h=>h.elim,fun _ _ h=>h.elim,fun _ _ h=>.inl h,hI.glob⟩;refine hm (hc mi) ?_
 rintro e w' ⟨v,r,h',g',rfl,q1,q2,q3,q4⟩
 obtain rfl:=hQ r h' q1;rw[hU]at q2
 -- the caller's ghost,with the callee's stable cells
 have hk:D2 g w ⟨g.ρ,g.ln,g.tk,g.own,g'.S⟩ w':=q4.keeps;have hg:JA g ⟨g.ρ,g.ln,g.tk,g.own,g'.S⟩ (AI st.h):=fun _ _=>⟨rfl,Ai _,fun _=>rfl,fun _=>rfl⟩;have Rs:∀b,b<w.heap.size->w'.heap[b]?=w.heap[b]?:=fun b hb=>q3.frame b hb (fun _ h=>h.elim);have hSs:∀b o,g'.S b o->b<w.heap.size->g.S b o:=fun b o hs hb=>by
  rcases q3.sg b o hs with h1 | h1 | ⟨_,h1,_⟩
  .exact h1
  .omega
  .exact h1.elim
 refine hR v r Ad ⟨g.ρ,g.ln,g.tk,g.own,g'.S⟩ w' q1 rfl ⟨q3.os.trans hI.os,q3.tape.trans hI.tape,q3.output.trans hI.output,AO hI.size q3.size,fun b hb hn=>?_,q3.slt,fun i=>?_,hI.inj,fun i b hl ho=>?_,fun b o hs=>?_,hI.glob.keep hk⟩ ⟨hg,fun _ h=>h,hk⟩ ?_
 .exact(Rs b (AA hb hI.size)).trans (hI.frame b hb hn)
 .refine(hI.objs i).same hk (fun _ h=>h) hg rfl rfl rfl rfl (fun b hl ho=>?_);have BW:=(hI.loc i b hl ho).1;simp_all
 .obtain⟨h1,h2⟩:=hI.loc i b hl ho<;>grind [Nat.lt_of_lt_of_le]
 .rcases q3.sg b o hs with h1 | h1 | ⟨_,h1,_⟩
  .grind [CA.sg]
  .exact .inr (.inl (AO hI.size h1))
  .exact h1.elim
 .have:D2 g' w' ⟨g.ρ,g.ln,g.tk,g.own,g'.S⟩ w':=fun b o h=>⟨h,rfl,fun _ _ h=>h⟩
  exact q2.mono this (fun _ h=>h) (fun _ h=>h.elim)
theorem dy(hI:CA w0 g0 h0 st.h g w){f:Nat}{args:List AV}{Q:AV->(Nat->HO)->Prop}(hc:Bd P f args Ad Q){vals:Array Value}(hs:vals.size=args.length)
  (hv:∀(i:Nat) (av:AV) (x:Value),args[i]?=some av->vals[i]?=some x->A3 g w DR av x) {R:Ending->World->Prop}
  (hR:∀v r h' g' w',Q r h'->h'=Ad->CA w0 g0 h0 st.h g' w'->Le st.h g w st.h g' w'->A3 g' w' DR r v->R (.returned v) w') (hQ:∀r h',Q r h'->h'=Ad):Calls P f vals w R:=
 have hU:AI Ad=DR:=by grind [AI,DR,Ad]
 Se (C:=Calls P f vals w) (fun h k=>h.mono k) hI (hc.2 g w vals hs (fun i av x h1 h2=>by grind)) hR hQ
theorem YieldAt.imp{m:Nat}{P:Program}{l:Nat}{args:Array Value}{W:World}{R R' : Ending->World->Prop}(h:YieldAt F m P l args W R)(hr:∀e w,R e w->R' e w):YieldAt F m P l args W R':=
 let ⟨fn,t,a,b,h1,h2⟩:=h
 ⟨fn,t,a,b,h1,h2.mono hr⟩
theorem It.imp{Y:Gh->World->Prop}{l:Nat}{args:List AV}{h0:Nat->HO}{Q Q' : AV->(Nat->HO)->Prop}(h:It P Y l args h0 Q)(hq:∀r h',Q r h'->Q' r h'):It P Y l args h0 Q':=
 fun g w vals q1 q2 q3 q4=>YieldAt.imp (h g w vals q1 q2 q3 q4) fun _ _ ⟨v,r,h',g',e1,e2,rest⟩=>⟨v,r,h',g',e1,hq _ _ e2,rest⟩
theorem FM.imp{Y:Nat->Gh->World->Prop}{F:AV}{args:List AV}{h0:Nat->HO}{Q Q' : AV->(Nat->HO)->Prop}(h:FM P Y F args h0 Q)(hq:∀r h',Q r h'->Q' r h'):FM P Y F args h0 Q':=by
 have one:∀{f:Nat} {l:List AV},Bd P f l h0 Q->Bd P f l h0 Q':=fun hc=>
  ⟨hc.1,fun g w vals q1 q2 q3=>(hc.2 g w vals q1 q2 q3).mono fun _ _ ⟨v,r,h',g',e1,e2,rest⟩=>⟨v,r,h',g',e1,hq _ _ e2,rest⟩⟩
 unfold FM at h⊢
 grind [It.imp]
abbrev Jh(ro:Option Nat):Fence:={ Fence.wide with round:=ro }
theorem MD{ro:Option Nat}{a:Act}{w:World}{next:Act->World->Prop}{Q:Exit->Act->World->Prop}(hd:∀c,o.op≠.defer c)(h:o.wp P a w next Q):o.wpIn (Jh ro) 0 P a w next Q:=by
 refine⟨fun _ _=>trivial,?_⟩;have e:o.semAt (Jh ro).round a.eval=execOp a.eval o:=Oper.semAt_eq ro a.eval o hd;rw[e];unfold Oper.wp at h;have key:∀res:Result Next,o.upon P a next Q res->o.uponIn (Jh ro) 0 P a next Q res:=fun res h=>by
  cases res with
  |ok n w'=>cases n with
   |enter f args=>exact(show(_->_)/\CallsIn (Jh ro) 0 P f args w' _ from⟨fun e=>by(cases e),callsIn_wide.2 h⟩)
   |row r args=>exact(show(_->_)/\RowsIn (Jh ro) 0 P r args w' _ from⟨fun e=>by(cases e),fun c cs _=>by
     obtain⟨v,cV,r',s⟩:=h c cs;exact⟨v,cV,r',stepsIn_wide.2 s⟩⟩)
   |round _ _ _ _ _=>exact h.elim
   |_=>exact h
  |halt x w'=>cases x<;>exact h
 simp_all
theorem Gq{f:Nat}{args:Array Value}(h:FN P f)(w:World):(callFunc f args).run P w=.ok (.enter f args) w:=by
 obtain⟨fn,h1,h2,h3⟩:=h<;>grind [callFunc,Sem.run_bind,run_program,Result.andThen_ok,Sem.run_pure]
theorem TJ{h:Nat->HO}{a:AV}(ha:cp a=true):ren (Cn []) h a=str h a:=by
 have h0:∀a,ren0 (Cn []) h a=str0 h a:=fun a=>by
  cases a with
  |slice tk es=>cases tk<;>rfl
  |_=>rfl
 cases a with
 |tup cs=>cases ha
 |agg cs=>show AV.agg _=AV.agg _;simp_all
 |clo f cs=>show AV.clo f _=AV.clo f _;simp_all
 |v x=>exact h0 (.v x)
 |slice tk es=>exact h0 (.slice tk es)
 |msl r n=>exact h0 (.msl r n)
 |cptr cs=>exact h0 (.cptr cs)
 |ref r o=>exact h0 (.ref r o)
 |eref r n sz i o=>exact h0 (.eref r n sz i o)
 |mref r=>exact h0 (.mref r)
 |cmap sh l=>exact h0 (.cmap sh l)
 |junk=>rfl
theorem Qc{h:Nat->HO}:∀{l:List AV},Tr l=true->l.map (ren (Cn []) h)=l.map (str h)
 | [],_=>rfl
 |a::l,e=>by
  unfold Tr at e;split at e
  .rename_i e1;rw[Bb,Bb,TJ e1,Qc e]
  simp_all
theorem Qt:∀{l:List AV} {vs:List Value},Vu l=some vs->l=vs.map .v
 | [],vs,h=>by cases h;rfl
 |.v x::r,vs,h=>by
  unfold Vu at h;split at h
  .rename_i l e;cases h;rw[Bb,<-Qt e]
  simp_all
theorem dx{d:Option Nat}{st:St}{F:AV}{args:List AV}(hk:F2 cx true d st F args K):F2 cx false d st F args K:=by
 unfold F2 at hk;simp only at hk;split at hk
 .exact⟨.pure,hk⟩
 .split at hk
  .simp_all
  .rename_i d _;obtain⟨n,sz,es,h1,h2,h3⟩:=hk;simp only[Aj]at h1;refine⟨.gen [] 1,?_⟩;show(D4 []&&DN st.h d 1&&CI [] d 1)=true/\_;refine⟨by grind [D4,CI],?_⟩;rw[TJ h1.1.2,Qc h1.2];show FM cx.P (fun l=>cx.yp l []) _ _ Ad _;refine FM.imp h2 ?_
   rintro r h' ⟨e2,e3⟩
   subst e2;subst e3;have e1:ren (EV [] d 1) (Ag [(2000,.arr sz es)] Ad) (.msl 2000 n)=.msl (BM d 0) n:=rfl;have e2:DS [] d 1 st.h (Ag [(2000,.arr sz es)] Ad)=AP st.h (BM d 0) (.arr sz es):=by
    funext i
    by_cases e:i=BM d 0
    .subst e;rw[A2];have hb:(Nat.ble (BM d 0) (BM d 0)&&Nat.blt (BM d 0) (BM d 1))=true:=by
      grind [BM,Nat.ble_eq,Nat.blt_eq]
     simp only[DS,Cn,hb,DF];rfl
    grind [BQ,BM,Nat.ble_eq,Nat.blt_eq,DS,Cn]
   simp_all
 .split at hk
  .unfold WK at hk;split at hk
   .simp_all
   .rename_i d _;obtain⟨sz,es,h1,h2,h3⟩:=hk;simp only[Aj]at h1;refine⟨.gen [] 1,?_⟩;show(D4 []&&DN st.h d 1&&CI [] d 1)=true/\_;refine⟨by grind [D4,CI],?_⟩;rw[TJ h1.1.2,Qc h1.2];show FM cx.P (fun l=>cx.yp l []) _ _ Ad _;refine FM.imp h2 ?_
    rintro r h' ⟨e2,e3⟩
    subst e2;subst e3;have e1:ren (EV [] d 1) (Ag [(2000,.tok sz es.length)] Ad) (.slice (.id 2000 sz) es)=.slice (.id (BM d 0) sz) es:=rfl;have e2:DS [] d 1 st.h (Ag [(2000,.tok sz es.length)] Ad)=AP st.h (BM d 0) (.tok sz es.length):=by
     funext i
     by_cases e:i=BM d 0
     .subst e;rw[A2];have hb:(Nat.ble (BM d 0) (BM d 0)&&Nat.blt (BM d 0) (BM d 1))=true:=by
       grind [BM,Nat.ble_eq,Nat.blt_eq]
      simp only[DS,Cn,hb,DF];rfl
     grind [BQ,BM,Nat.ble_eq,Nat.blt_eq,DS,Cn]
    simp_all
  split at hk
  .unfold T2 at hk;split at hk
   .rename_i d l vs e2 z1;have hl:=Qt e2;split at hk
    .rename_i r sz es cP n e3 e4;obtain⟨⟨rfl,rfl⟩,v,Fp,n',h1,h2⟩:=hk;refine⟨.gen [(1000,1000),(1001,1001)] 0,?_⟩;show(D4 [(1000,1000),(1001,1001)]&&DN st.h d 0&&CI [(1000,1000),(1001,1001)] d 0)=true/\_;refine⟨?_,?_⟩
     .have:CI [(1000,1000),(1001,1001)] d 0=true:=by
       grind [Nat.ble_eq,Nat.blt_eq,CI]
      rw[this];rfl
     have f1:args.map (ren (Cn [(1000,1000),(1001,1001)]) st.h)=vs.map .v:=by rw[hl,BI];rfl
     have f2:Ff [(1000,1000),(1001,1001)] st.h=Ag [(1000,.cells [.slice (.id 1001 cP) es]),(1001,.tok cP n)] Ad:=by
      unfold Ff WA WA WA;rw[e3,e4];rfl
     rw[f1,f2];refine It.imp h1 ?_
     rintro r h' ⟨g1,g2⟩
     subst g1;subst g2;have f3:DS [(1000,1000),(1001,1001)] d 0 st.h (Ag [(1000,.cells [.slice (.id 1001 cP) Fp]),(1001,.tok cP n')] Ad)=AP (AP st.h 1001 (.tok cP n')) 1000 (.cells [.slice (.id 1001 cP) Fp]):=by
      funext i
      by_cases e:i=1000
      .subst e;rw[A2];rfl
      .rw[BQ _ _ _ _ e]
       by_cases e' : i=1001
       .subst e';rw[A2];rfl
       .rw[BQ _ _ _ _ e'];have hn:Cn [(1000,1000),(1001,1001)] i=none:=by simp[Cn,Dx (Ne.symm e),Dx (Ne.symm e')]
        have:(Nat.ble (BM d 0) i&&Nat.blt i (BM d 0))=false:=by
         grind [Nat.ble_eq,Nat.blt_eq]
        grind [DS]
     rw[f3];exact h2
    simp_all
   simp_all
  unfold Rc at hk;split at hk
  .unfold XF at hk;split at hk
   .rename_i d f caps oF _;obtain⟨σ,H0,Hn,args',res,g1,g2,g3,g4⟩:=hk;simp only[Aj]at g2;obtain⟨k1,k2⟩:=g1 st.h fun _ _=>rfl;refine⟨.gen σ 0,?_⟩;show(D4 σ&&DN st.h d 0&&CI σ d 0)=true/\_;refine⟨by rw[g2.1.1,g2.1.2];rfl,?_⟩;have key:FM cx.P (fun l=>cx.yp l σ) (ren (Cn σ) st.h F) (args.map (ren (Cn σ) st.h)) (Ag H0 Ad) (fun r h'=>r=res/\h'=Ag Hn Ad):=by
     rw[<-k2]at g3;unfold iC at oF;split at oF
     .cases oF
      rw[G4,B5]at g3;exact g3
     .cases oF
      exact g3
     simp_all
    grind [FM.imp]
   simp_all
  unfold Rf at hk;split at hk
  .rename_i dd f r n l _;split at hk
   .rename_i vs bV;have hl:=Qt bV;subst hl;split at hk
    .rename_i sz es hr;have hf:Cn [(r,1000)] r=some 1000:=by simp[Cn]
     have e1:ren (Cn [(r,1000)]) st.h (.v (.func (.func f) ⟨[]⟩ ⟨[]⟩))=.v (.func (.func f) ⟨[]⟩ ⟨[]⟩):=rfl;have e2:(AV.msl r n::vs.map AV.v).map (ren (Cn [(r,1000)]) st.h)=.msl 1000 n::vs.map .v:=by
      rw[Bb]
      congr 1
      .grind [ren,ren1,ren0]
      .rw[BI];rfl
     have e3:Ff [(r,1000)] st.h=Ag [(1000,.arr sz es)] Ad:=by
      unfold Ff WA;rw[hr];rfl
     split at hk
     .obtain⟨n',Fp,h1,h2⟩:=hk;refine⟨.gen [(r,1000)] 0,?_⟩;show(D4 [(r,1000)]&&DN st.h dd 0&&CI [(r,1000)] dd 0)=true/\_;refine⟨?_,?_⟩
      .have:CI [(r,1000)] dd 0=true:=by
        grind [CI,Nat.ble_eq,Nat.blt_eq]
       rw[this];rfl
      rw[e1,e2,e3];refine⟨h1.1,fun g w vals q1 q2 q3=>(h1.2 g w vals q1 q2 q3).mono fun _ _ ⟨v,r',h',g',e1,⟨e2,e3⟩,rest⟩=>⟨v,r',h',g',e1,?_,rest⟩⟩;subst e2;subst e3;have f1:ren (EV [(r,1000)] dd 0) (Ag [(1000,.arr sz Fp)] Ad) (.msl 1000 n')=.msl r n':=rfl;have f2:DS [(r,1000)] dd 0 st.h (Ag [(1000,.arr sz Fp)] Ad)=AP st.h r (.arr sz Fp):=by
       funext i
       by_cases e:i=r
       .grind [A2,DS,Ag,HO.ren,Nat.beq_refl]
       .rw[BQ _ _ _ _ e];have hn:Cn [(r,1000)] i=none:=by grind [Cn,Dx]
        have:(Nat.ble (BM dd 0) i&&Nat.blt i (BM dd 0))=false:=by
         grind [Nat.ble_eq,Nat.blt_eq]
        grind [DS]
      simp_all
     .obtain⟨n',Fp,h0,h1,h2⟩:=hk;simp only[Aj,FD,E7]at h0;have hrd:r≠BM dd 0:=fun e=>by simp_all
      refine⟨.gen [(r,1000)] 1,?_⟩;show(D4 [(r,1000)]&&DN st.h dd 1&&CI [(r,1000)] dd 1)=true/\_;refine⟨?_,?_⟩
      .have:CI [(r,1000)] dd 1=true:=by
        grind [CI,BM,Nat.ble_eq,Nat.blt_eq]
       rw[this,h0.1.1];rfl
      rw[e1,e2,e3];refine⟨h1.1,fun g w vals q1 q2 q3=>(h1.2 g w vals q1 q2 q3).mono fun _ _ ⟨v,r',h',g',e1,⟨e2,e3⟩,rest⟩=>⟨v,r',h',g',e1,?_,rest⟩⟩;subst e2;subst e3;have f1:ren (EV [(r,1000)] dd 1) (Ag [(1000,.dead),(2000,.arr sz Fp)] Ad) (.msl 2000 n')=.msl (BM dd 0) n':=rfl;have f2:DS [(r,1000)] dd 1 st.h (Ag [(1000,.dead),(2000,.arr sz Fp)] Ad)=AP (AP st.h r .dead) (BM dd 0) (.arr sz Fp):=by
       funext i
       by_cases e:i=BM dd 0
       .subst e;rw[A2];have hn:Cn [(r,1000)] (BM dd 0)=none:=by grind [Cn]
        have hb:(Nat.ble (BM dd 0) (BM dd 0)&&Nat.blt (BM dd 0) (BM dd 1))=true:=by
         grind [BM,Nat.ble_eq,Nat.blt_eq]
        simp only[DS,hn,hb,DF];rfl
       .rw[BQ _ _ _ _ e]
        by_cases e4:i=r
        .grind [A2,DS,Ag,HO.ren,Nat.beq_refl]
        .rw[BQ _ _ _ _ e4];have hn:Cn [(r,1000)] i=none:=by grind [Cn,Dx]
         have:(Nat.ble (BM dd 0) i&&Nat.blt i (BM dd 1))=false:=by
          grind [Nat.ble_eq,Nat.blt_eq,BM]
         grind [DS]
      simp_all
    simp_all
   simp_all
  simp_all
theorem gU{d:Option Nat}{f:Operand}{dst:Option Nat}{ty:Nat}{gd:Option (Nat×Bool)}{next:Act->World->Prop}{Q:Exit->Act->World->Prop}(hP:cx.P=P)(hY:∀l σ h g w,D4 σ=true->CA w0 g0 h0 h g w->Le h0 g0 w0 h g w->cx.yp l σ (DB σ g) w){ro:Option Nat}(hS:SR N ds w0 g0 h0 st g a w)(hk:F2 cx dr d st (ev st.t f) (args.toList.map (ev st.t)) K)(hn:Zq w0 g0 h0 st.h g w K fun x w'=>next (a.put dst x) w'):Oper.wpIn (Jh ro) 0 P ⟨dst,.call ⟨.value f,args,GI⟩,ty,pos,after,gd⟩ a w next Q:=by
 subst hP;have hk:F2 cx false d st (ev st.t f) (args.toList.map (ev st.t)) K:=by
  cases dr<;>grind [dx]
 have KY:∀(i:Nat) (av:AV) (x:Value),((args.toList.map (ev st.t)).map (str st.h))[i]?=some av->(args.map a.eval)[i]?=some x->A3 g w DR av x:=by
  intro i av x h1 h2;rw[BE,BE]at h1;rw[Array.getElem?_map]at h2;cases ho:args[i]? with
  |none=>simp_all
  |some y=>
   rw[ho]at h2;have hy:args.toList[i]?=some y:=Wk
   rw[hy]at h1;simp only[Option.map_some,Dq]at h1 h2;subst h1;subst h2;exact A3.str hS.inv.objs (hS.eval y)
 have CF:(args.map a.eval).size=((args.toList.map (ev st.t)).map (str st.h)).length:=aa0
 have hF:=A3.str hS.inv.objs (hS.eval f)
 -- a call of yield
 have yl:∀(l:Nat) (R:Ending->World->Prop),a.eval f=.func (.yield l) #[] #[]->YieldAt Fence.wide 0 cx.P l (args.map a.eval) w R->(∀e w',R e w'->∃v,e=.returned v/\next (a.put dst v) w') ->
   Oper.wpIn (Jh ro) 0 cx.P ⟨dst,.call ⟨.value f,args,GI⟩,ty,pos,after,gd⟩ a w next Q:=by
  rintro l R hx ⟨fn,tm,Gv,bd,h1,h2⟩ hR
  refine⟨fun _ _=>trivial,?_⟩;have e:(⟨dst,.call ⟨.value f,args,GI⟩,ty,pos,after,gd⟩:Oper).semAt (Jh ro).round a.eval=execOp a.eval ⟨dst,.call ⟨.value f,args,GI⟩,ty,pos,after,gd⟩:=Oper.semAt_eq ro a.eval _ (fun c e=>by cases e);have Cu:(execOp a.eval ⟨dst,.call ⟨.value f,args,GI⟩,ty,pos,after,gd⟩).run cx.P w=.ok (.round l fn tm Gv bd) w:=by
   grind [execOp,resolve,Deferred.ofValue,invoke]
  rw[e,Cu];refine(show(_->_)/\RoundIn (Jh ro) 0 cx.P l fn tm Gv bd w _ from⟨fun e=>by(cases e),RoundIn.mono h2 fun e w' h=>?_⟩)
  grind
 -- the call itself
 have go:∀(Q' : AV->(Nat->HO)->Prop),(∀r h',Q' r h'->h'=Ad/\K r st.h)->FM cx.P (fun _ _ _=>True) (str st.h (ev st.t f)) ((args.toList.map (ev st.t)).map (str st.h)) Ad Q' ->
   Oper.wpIn (Jh ro) 0 cx.P ⟨dst,.call ⟨.value f,args,GI⟩,ty,pos,after,gd⟩ a w next Q:=by
  intro Q' hQ hc
  have fin:∀{fn:Nat} {l:List AV} {vals:Array Value},Bd cx.P fn l Ad Q'->vals.size=l.length->(∀(i:Nat) (av:AV) (x:Value),l[i]?=some av->vals[i]?=some x->A3 g w DR av x) ->
    (execOp a.eval ⟨dst,.call ⟨.value f,args,GI⟩,ty,pos,after,gd⟩).run cx.P w=.ok (.enter fn vals) w->Oper.wpIn (Jh ro) 0 cx.P ⟨dst,.call ⟨.value f,args,GI⟩,ty,pos,after,gd⟩ a w next Q:=by
   intro fn l vals hc hs hv Cu;refine MD (fun c e=>by cases e) ?_;unfold Oper.wp;rw[Cu];exact dy hS.inv hc hs hv (fun v r h' g' w' hq _ hI Ig hr=>hn r _ g' w' v (hQ r h' hq).2 hI Ig (hr.up _)) (fun r h' hq=>(hQ r h' hq).1)
  unfold FM at hc;split at hc
  .rename_i fn e;rw[e]at hF;have hx:=hF.v_eq;refine fin hc CF KY ?_;have PG : a.eval f=.func (.func fn) #[] #[]:=hx;simp only[execOp,resolve,PG,Deferred.ofValue,Sem.run_bind,Sem.run_pure,Result.andThen_ok,invoke];rw[Gq hc.1];simp
  .rename_i fn caps e;rw[e]at hF;generalize hx:a.eval f=fv at hF;cases hF with
   |clo _ _ _ vs EQ OE=>
    refine fin hc (vals:=args.map a.eval++vs) Wk (fun i av x h1 h2=>?_) ?_
    .grind
    .simp only[execOp,resolve,hx,Deferred.ofValue,Sem.run_bind,Sem.run_pure,Result.andThen_ok,invoke];rw[Gq hc.1];simp
  .rename_i l e;rw[e]at hF;have hU:AI Ad=DR:=by grind [AI,DR,Ad]
   refine yl l _ hF.v_eq (Se (C:=YieldAt Fence.wide 0 cx.P l (args.map a.eval) w) (R:=fun e w'=>∃v,e=.returned v/\next (a.put dst v) w') YieldAt.imp hS.inv (fun mi=>hc g w _ CF (fun i av x h1 h2=>by grind) mi trivial)
    (fun v r h' g' w' hq _ hI Ig hr=>⟨v,rfl,hn r _ g' w' v (hQ r h' hq).2 hI Ig (hr.up _)⟩) (fun r h' hq=>(hQ r h' hq).1)) fun _ _ h=>h
  simp_all
 have pure:(∃res,Pm cx.P (str st.h (ev st.t f)) ((args.toList.map (ev st.t)).map (str st.h)) res/\K res st.h)->Oper.wpIn (Jh ro) 0 cx.P ⟨dst,.call ⟨.value f,args,GI⟩,ty,pos,after,gd⟩ a w next Q:=by
  rintro⟨res,h1,h2⟩
  refine go (fun r h'=>r=res/\h'=Ad) (fun r h' hq=>⟨hq.2,by simp_all⟩) ?_;unfold Pm at h1;unfold FM;split at h1
  .rename_i fn e;rw[e];exact h1
  .rename_i fn caps e;rw[e];exact h1
  simp_all
 unfold F2 at hk
 .obtain⟨m,hm⟩:=hk;cases m with
  |pure=>grind
  |rel=>grind
  |gen σ nn=>
   simp only at hm;cases d with
   |none=>simp_all
   |some d=>
    simp only at hm;obtain⟨DY,hc⟩:=hm;have hσ:D4 σ=true:=Wk
    obtain⟨hR,_⟩:=V6 hS.inv hσ;have iK:=(hS.eval f).ren hR;have ae:∀(i:Nat) (av:AV) (x:Value),((args.toList.map (ev st.t)).map (ren (Cn σ) st.h))[i]?=some av->(args.map a.eval)[i]?=some x->A3 (DB σ g) w (AI (Ff σ st.h)) av x:=by
     grind [A3.ren,SR.eval]
    have SP:(args.map a.eval).size=((args.toList.map (ev st.t)).map (ren (Cn σ) st.h)).length:=aa0
    have fin:∀{fn:Nat} {l:List AV} {vals:Array Value},Bd cx.P fn l (Ff σ st.h) (fun r h'=>K (ren (EV σ d nn) h' r) (DS σ d nn st.h h'))->vals.size=l.length ->
      (∀(i:Nat) (av:AV) (x:Value),l[i]?=some av->vals[i]?=some x->A3 (DB σ g) w (AI (Ff σ st.h)) av x) ->
      (execOp a.eval ⟨dst,.call ⟨.value f,args,GI⟩,ty,pos,after,gd⟩).run cx.P w=.ok (.enter fn vals) w->Oper.wpIn (Jh ro) 0 cx.P ⟨dst,.call ⟨.value f,args,GI⟩,ty,pos,after,gd⟩ a w next Q:=by
     intro fn l vals hc hs hv Cu;refine MD (fun c e=>by cases e) ?_;unfold Oper.wp;rw[Cu];exact gV hS.inv DY hc hs hv (fun v r h' g' w' hq hI Ig hr=>hn _ _ g' w' v hq hI Ig hr)
    unfold FM at hc;split at hc
    .rename_i fn e;rw[e]at iK;have hx:a.eval f=.func (.func fn) #[] #[]:=iK.v_eq;refine fin hc SP ae ?_;simp only[execOp,resolve,hx,Deferred.ofValue,Sem.run_bind,Sem.run_pure,Result.andThen_ok,invoke];rw[Gq hc.1];simp
    .rename_i fn caps e;rw[e]at iK;generalize hx:a.eval f=fv at iK;cases iK with
     |clo _ _ _ vs EQ OE=>
      refine fin hc (vals:=args.map a.eval++vs) Wk (fun i av x h1 h2=>?_) ?_
      .grind
      .simp only[execOp,resolve,hx,Deferred.ofValue,Sem.run_bind,Sem.run_pure,Result.andThen_ok,invoke];rw[Gq hc.1];simp
    .rename_i l e;rw[e]at iK
     exact yl l _ iK.v_eq (Mo (C:=YieldAt Fence.wide 0 cx.P l (args.map a.eval) w) (R:=fun e w'=>∃v,e=.returned v/\next (a.put dst v) w') YieldAt.imp hS.inv DY (fun mi=>hc (DB σ g) w _ SP ae mi (hY l σ _ _ _ hσ hS.inv hS.le))
      (fun v r h' g' w' hq hI Ig hr=>⟨v,rfl,hn _ _ g' w' v hq hI Ig hr⟩)) fun _ _ h=>h
    simp_all
  |geny σ nn=>
   simp only at hm;cases d with
   |none=>simp_all
   |some d=>
    simp only at hm;obtain⟨DY,hc⟩:=hm;have hσ:D4 σ=true:=Wk
    obtain⟨hR,_⟩:=V6 hS.inv hσ;have iK:=(hS.eval f).ren hR;have ae:∀(i:Nat) (av:AV) (x:Value),((args.toList.map (ev st.t)).map (ren (Cn σ) st.h))[i]?=some av->(args.map a.eval)[i]?=some x->A3 (DB σ g) w (AI (Ff σ st.h)) av x:=by
     grind [A3.ren,SR.eval]
    have SP:(args.map a.eval).size=((args.toList.map (ev st.t)).map (ren (Cn σ) st.h)).length:=aa0
    split at hc
    .rename_i fn caps e;rw[e]at iK;generalize hx:a.eval f=fv at iK;cases iK with
     |clo _ _ _ vs EQ OE=>
      have Cu:(execOp a.eval ⟨dst,.call ⟨.value f,args,GI⟩,ty,pos,after,gd⟩).run cx.P w=.ok (.enter fn (args.map a.eval++vs)) w:=by
       simp only[execOp,resolve,hx,Deferred.ofValue,Sem.run_bind,Sem.run_pure,Result.andThen_ok,invoke];rw[Gq hc.1];simp
      refine MD (fun c e=>by cases e) ?_;unfold Oper.wp;rw[Cu];refine Mo (C:=Calls cx.P fn (args.map a.eval++vs) w) (fun h k=>h.mono k) hS.inv DY (fun mi=>hc.2 (DB σ g) w _ Wk (fun i av x h1 h2=>?_) mi (fun l=>hY l σ _ _ _ hσ hS.inv hS.le)) (fun v r h' g' w' hq hI Ig hr=>hn _ _ g' w' v hq hI Ig hr)
      grind
    simp_all
end
section
variable {P:Program}{N:Nat}{ds:List Deferred}{w0:World}{g0:Gh}{h0:Nat->HO}{st:St}{g:Gh}{a:Act}{w:World}
theorem Xa(hT:Cb P cx.T){b:Builtin}{dst:Option Nat}{ty:Nat}{gd:Option (Nat×Bool)}{next:Act->World->Prop}{Q:Exit->Act->World->Prop}(hS:SR N ds w0 g0 h0 st g a w)(hk:FF cx dst st.h b GI.toList (args.toList.map (ev st.t)) K)(hn:Zq w0 g0 h0 st.h g w K fun x w'=>next (a.put dst x) w'):Oper.wp P ⟨dst,.call ⟨.builtin b,args,GI⟩,ty,pos,after,gd⟩ a w next Q:=by
 have hI:=hS.inv;have hE:=hS.eval;obtain⟨l⟩:=args;obtain⟨tl⟩:=GI;unfold FF at hk;split at hk
 .rename_i x t e1 e2
  match l,e1 with
  | [y],e1=>
   simp only[Bb,G4,Jb,and_true]at e1;subst e1;simp only at e2;subst e2;exact Du (m:=Builtin.len_ #[t] ty #[a.eval y]) (by simp[execOp,resolve,invoke,builtin]) (Bs.does hI (jo hT hI.objs (hE y) hk)) hn
 .rename_i s x t t' e1 e2
  match l,e1 with
  | [y,z],e1=>
   simp only[Bb,G4,Jb,and_true]at e1;obtain⟨rfl,rfl⟩:=e1;simp only at e2;subst e2;split at hk
   .rename_i ht;obtain rfl:=AT ht;exact Du (m:=Builtin.append_ #[t,t] ty #[a.eval y,a.eval z]) (by simp[execOp,resolve,invoke,builtin]) (ZC hI hT (hE y) (hE z) hk) hn
   simp_all
 .rename_i x y GI e1
  match l,e1 with
  | [y,z],e1=>
   simp only[Bb,G4,Jb,and_true]at e1;obtain⟨rfl,rfl⟩:=e1;exact Du (m:=Builtin.max_ ⟨tl⟩ ty #[a.eval y,a.eval z]) (by simp[execOp,resolve,invoke,builtin]) (Bs.does hI (mY (hE y) (hE z) hk)) hn
 .rename_i x y GI e1
  match l,e1 with
  | [y,z],e1=>
   simp only[Bb,G4,Jb,and_true]at e1;obtain⟨rfl,rfl⟩:=e1;exact Du (m:=Builtin.min_ ⟨tl⟩ ty #[a.eval y,a.eval z]) (by simp[execOp,resolve,invoke,builtin]) (Bs.does hI (m5 (hE y) (hE z) hk)) hn
 simp_all
theorem lu(hT:Cb P cx.T){next:Act->World->Prop}{Q:Exit->Act->World->Prop}(hS:SR N ds w0 g0 h0 st g a w)(hk:FB cx dr o st K)(hv:∀f args GI,o.op≠.call ⟨.value f,args,GI⟩)(hn:Zq w0 g0 h0 st.h g w K fun x w'=>next (a.put o.dst x) w'):o.wp P a w next Q:=by
 have hI:=hS.inv;have hE:=hS.eval;obtain⟨dst,op,ty,pos,after,gd⟩:=o;unfold FB at hk;cases op with
 |move x=>exact cW hI (x:=a.eval x) rfl hk (hE x) hn
 |assign x=>
  obtain⟨g',av,h',q1,q2,q3,q4⟩:=ZE hI (hE x) hk;exact hn _ _ _ _ _ q1 q2 q3 q4
 |pick c x y=>exact Du (m:=do pure (if <-asBool (a.eval c)then a.eval x else a.eval y)) (by simp[execOp]) (Bs.does hI (jR (hE c) (hE x) (hE y) hk)) hn
 |alloc e=>exact Du rfl (dg hI hT hk) hn
 |box e x=>exact Du rfl (lE hI (hE x) hk) hn
 |build t ps=>exact Du rfl (Bs.does hI (dw hT hE hk)) hn
 |buildSlice t n ps=>exact Du rfl (Sd hI hT hE hk) hn
 |insert t m k x=>exact WP rfl (M6 hI hT (hE m) (hE k) (hE x) hk) hn
 |load t x=>exact Du rfl (Bs.does hI (Vb hI.objs hT (hE x) hk)) hn
 |store t p x=>exact WP rfl (gm hI hT (hE p) (hE x) hk) hn
 |nilCheck x=>
  obtain⟨h1,h2⟩:=Wu (P:=P) (w:=w) (hE x) hk (pos:=pos) (after:=after) (gd:=gd) (dst:=dst) (ty:=ty) (ρ:=a.eval) rfl<;>grind [cW]
 |binOp op t x y u=>exact Du rfl (Bs.does hI (gO hT (hE x) (hE y) (fun v e=>by subst e;rfl) hk)) hn
 |unOp op t x=>exact Du rfl (Bs.does hI (kQ (hE x) hk)) hn
 |convert s t x=>
  cases dr with
  |true=>exact Du rfl (Bs.does hI (Xg hT (hE x) hk)) hn
  |false=>exact Du rfl (dE hI hT (hE x) hk) hn
 |makeFunc fn first cap=>exact Du rfl (Bs.does hI (Wr hI.objs hE hk)) hn
 |makeMap t r=>
  cases r with
  |some r=>simp_all
  |none=>exact Du rfl (X9 hI hk) hn
 |makeSlice t n c=>exact Du rfl (Un hI hT (hE n) (hE c) hk) hn
 |slice t x lo hi mx=>
  cases dr with
  |true=>
   cases hp:RZ cx.pl.tok dst with
   |none=>
    have hk' : HQ cx dst st.h t (ev st.t x) (Cw st.t lo) (Cw st.t hi) (Cw st.t mx) K:=by
     simp_all
    exact Du rfl (Vn hI hT hE (hE x) hk') hn
   |some _=>
    have hk' : TE cx dst st.h t (ev st.t x) lo (Cw st.t hi) mx K:=by
     simp_all
    unfold TE at hk';split at hk'
    .exact Du rfl (cC hI hT hE (hE x) hk') hn
    simp_all
  |false=>
   cases hp:RZ cx.pl.tok dst with
   |none=>
    have hk' : HQ cx dst st.h t (ev st.t x) (Cw st.t lo) (Cw st.t hi) (Cw st.t mx) K:=by
     simp_all
    exact Du rfl (Vn hI hT hE (hE x) hk') hn
   |some _=>
    have hk' : kh cx dst st.h t (ev st.t x) st.t lo hi mx K:=by
     simp_all
    cases lo with
    |some lo=>exact Du rfl (YC hI hT hE (hE x) hk') hn
    |none=>
     unfold kh at hk';dsimp only at hk';split at hk'
     .exact Du rfl (Bs.does hI (dn hI.objs hT (hE x) hk')) hn
     .unfold TE at hk';split at hk'
      .exact Du rfl (cC hI hT hE (hE x) hk') hn
      simp_all
 |fieldAddr s x f=>exact Du rfl (Bs.does hI (dL hT (hE x) hk)) hn
 |field s x f=>exact Du rfl (Bs.does hI (ZV hT (hE x) hk)) hn
 |indexAddr t x i=>exact Du rfl (Bs.does hI (Ul hT (hE x) (hE i) hk)) hn
 |index t x i=>exact Du rfl (Bs.does hI (eH hT (hE x) (hE i) hk)) hn
 |lookup t x i ok=>
  have hk:MA cx.T st.h t (ev st.t x) (ev st.t i) ok fun v=>K v st.h:=by
   grind [fc]
  exact Du rfl (Bs.does hI (ax hT hI.objs (hE x) (hE i) hk)) hn
 |mapUpdate t m k x=>exact WP rfl (M6 hI hT (hE m) (hE k) (hE x) hk) hn
 |range t x=>
  simp only at hk;split at hk
  .rename_i kt e ht;exact Du rfl (fT hI hT ht (hE x) hk) hn
  simp_all
 |next it s=>
  cases s with
  |true=>simp_all
  |false=>exact Du rfl (jA hI (hE it) hk) hn
 |entry it=>exact Du rfl (Bs.does hI (dJ hI.objs (hE it) hk)) hn
 |extract x i=>exact Du rfl (Bs.does hI (Xv (hE x) hk)) hn
 |call c=>
  obtain⟨rG,args,GI⟩:=c<;>grind [Xa]
 |_=>simp_all
theorem gK(hP:cx.P=P)(hY:∀l σ h g w,D4 σ=true->CA w0 g0 h0 h g w->Le h0 g0 w0 h g w->cx.yp l σ (DB σ g) w){ro:Option Nat}(hT:Cb P cx.T){next:Act->World->Prop}{Q:Exit->Act->World->Prop}(hS:SR N ds w0 g0 h0 st g a w)(hk:FB cx dr o st K)(hn:Zq w0 g0 h0 st.h g w K fun x w'=>next (a.put o.dst x) w'):o.wpIn (Jh ro) 0 P a w next Q:=by
 by_cases hv:∃f args GI,o.op=.call ⟨.value f,args,GI⟩
 .obtain⟨f,args,GI,e⟩:=hv;obtain⟨dst,op,ty,pos,after,gd⟩:=o;cases e;exact gU hP hY hS hk hn
 .refine MD (fun c e=>?_) (lu hT hS hk (fun f args GI e=>hv ⟨f,args,GI,e⟩) hn);obtain⟨dst,op,ty,pos,after,gd⟩:=o;cases e;exact hk.elim
theorem un{p:Nat->Prop}(h:∃n,p n):∃n,p n/\∀m,m<n->¬p m:=by
 apply AY;intro hc
 have:∀n,¬p n:=fun n=>by
  induction n using Nat.strongRecOn<;>grind [Nat.strongRecOn]
 simp_all
theorem Ry{m:Nat}{c:Code}{Q:Exit->Act->World->Prop}(I:Nat->Act->World->Prop)(k:Nat)(h0:I k a w)(round:∀n a w,I n a w->c.wpIn F m P (Exit.then (fun a' w'=>∃n',n' < n/\I n' a' w') Q) a w):(Code.loop c).wpIn F m P Q a w:=by
 classical
 have hex:∀a w,(∃n,I n a w)->∃n,I n a w/\∀n',n' < n->¬I n' a w:=fun a w h=>un h;refine wpIn_loop (fun a w=>∃n,I n a w) (fun a w=>if h:∃n,I n a w then(hex a w h).choose else 0) ⟨k,h0⟩ fun a w h=>?_;have hs:=(hex a w h).choose_spec;refine wpIn_mono (round _ a w hs.1) fun e a' w' q=>?_;cases e with
 |normal=>
  obtain⟨n',BW,hn⟩:=q;have h' : ∃n,I n a' w':=⟨n',hn⟩;refine⟨h',?_⟩
  grind
 |_=>exact q
end
section
variable {P:Program}{N:Nat}{ds:List Deferred}{w0:World}{g0:Gh}{h0:Nat->HO}{st:St}{g:Gh}{a:Act}{w:World}
theorem dA(hT:Cb P T){ty e k ty2 b o n c:Nat}(ht:(T ty).d=.slice e)(hk:(T e).size=k+1)(hz:(T e).zc.length=k+1)(Ho:∀v∈(T e).zc,v.oneCell'=true){Dn:Array Value}{E:TypeId}(hb:w.heap[b]?=some (.cells Dn E (0,0)))(hn:0<n)(Ig:o+n*(k+1)<=Dn.size) :
  (Builtin.clear_ #[ty] ty2 #[.slice (some ⟨b,o,none⟩) n c]).run P w=.ok (.tuple #[]) (w.setRow b (over Dn.toList o (List.replicate n (T e).zc).flatten).toArray):=by
 obtain⟨z,z1,z2⟩:=Vx (w:=w) hT hk;have T6:(T e).zc≠[]:=fun e0=>by simp_all
 have DC:(Builtin.zeroCells z.cells n).toList=(List.replicate n (T e).zc).flatten:=by
  rw[Hv n _ T6,hz,z2];have e6:z.cells.size=k+1:=Wk
  unfold Builtin.zeroCells;simp[e6,Array.getElem!_eq_getD]
 have CF:(List.replicate n (T e).zc).flatten.length=n*(k+1):=by
  simp_all
 have IM:=run_storeCells_at P b o E (List.replicate n (T e).zc).flatten 0 Dn w hb B0 (fun v hv=>by
  grind [List.mem_flatten])
 simp only[Dp]at IM;rw[MF _ _ _ Wk];obtain⟨m,rfl⟩:∃m,n=m+1:=⟨n-1,by omega⟩;simp only[Builtin.clear_,Sem.run_bind,List.getElem?_toArray,Dw,run_underlying (hT.slice ht),Result.andThen_ok,z1,DC,IM,Sem.run_pure]
theorem ZN(hT:Cb P T){ty e ty2 c:Nat}(ht:(T ty).d=.slice e)(x:Option Addr) :
  (Builtin.clear_ #[ty] ty2 #[.slice x 0 c]).run P w=.ok (.tuple #[]) w:=by
 cases x<;>simp only[Builtin.clear_,Sem.run_bind,List.getElem?_toArray,Dw,run_underlying (hT.slice ht),Result.andThen_ok,Sem.run_pure]
theorem j7{d:Nat}(hd:d<a.tmps.size):(a.put (some d) x).eval (.tmp d)=x:=by
 show(a.tmps.setIfInBounds d x).getD d undef=x;simp_all
theorem iX(h:Nat->HO)(r:Nat):AP h r (h r)=h:=funext fun i=>by
 grind [A2,BQ]
theorem ar(h:X1 o o2=true):∃ty x lo d ty2 pos after rr nE VF,o=⟨some d,.slice ty x (some lo) none none,ty2,pos,after,none⟩/\o2=⟨none,.call ⟨.builtin .clear,#[.tmp d],#[ty]⟩,rr,nE,VF,none⟩:=by
 obtain⟨dst,op,t2,p1,a1,gd⟩:=o;obtain⟨AcK,op2,t3,p2,a2,gd2⟩:=o2;unfold X1 at h;split at h
 .rename_i c e1;split at h
  .rename_i e2;split at h
   .rename_i ty x lo e3;split at h
    .rename_i d d' ty' e4 e5 e6 e7 e8 e9;obtain⟨rG,⟨args⟩,⟨GI⟩⟩:=c;simp only at e1 e2 e3 e4 e5 e6 e7 e8 e9;simp only[Aj]at h;obtain rfl:=AT h.1;obtain rfl:=AT h.2;subst e1 e2 e3 e4 e5 e6 e7 e8 e9
     grind
    simp_all
   simp_all
  simp_all
 simp_all
theorem lQ(hT:Cb P cx.T){ro:Option Nat}(hd:∀i,o.dst=some i->i<N)(hc:X1 o o2=true){K:St->Prop}(hS:SR N ds w0 g0 h0 st g a w)(hk:lP cx o st K){next:Act->World->Prop}{Q:Exit->Act->World->Prop}(hn:∀Ef g' a' w',K Ef->SR N ds w0 g0 h0 Ef g' a' w'->next a' w') :
  o.guard=none/\o2.guard=none/\o.wpIn (Jh ro) 0 P a w (fun a1 w1=>o2.wpIn (Jh ro) 0 P a1 w1 next Q) Q:=by
 obtain⟨ty,x,lo,d,ty2,pos,after,rr,nE,VF,rfl,rfl⟩:=ar hc;refine⟨rfl,rfl,?_⟩;have hI:=hS.inv;have hE:=hS.eval;have hdN:d<a.tmps.size:=by grind [SR.size]
 -- what is to be shown of the two operations
 have two:∀(v:Value) (Ef : St) (g' : Gh) (w' : World),(Instr.sliceAt ty (a.eval x) (some (a.eval lo)) none none).run P w=.ok v w->(Builtin.clear_ #[ty] rr #[v]).run P w=.ok (.tuple #[]) w'->K ⟨I9 st.t d .junk,Ef.h⟩->CA w0 g0 h0 Ef.h g' w'->Le st.h g w Ef.h g' w' ->
   Oper.wpIn (Jh ro) 0 P ⟨some d,.slice ty x (some lo) none none,ty2,pos,after,none⟩ a w (fun a1 w1=>Oper.wpIn (Jh ro) 0 P ⟨none,.call ⟨.builtin .clear,#[.tmp d],#[ty]⟩,rr,nE,VF,none⟩ a1 w1 next Q) Q:=by
  intro v Ef g' w' r1 r2 hk hI' Ig;refine MD Wk ?_;unfold Oper.wp;have hx:execOp a.eval ⟨some d,.slice ty x (some lo) none none,ty2,pos,after,none⟩=(do pure (Next.value (<-Instr.sliceAt ty (a.eval x) (some (a.eval lo)) none none))):=rfl;rw[hx,Sem.run_bind,r1];refine MD Wk ?_;unfold Oper.wp;have uh:execOp (a.put (some d) v).eval ⟨none,.call ⟨.builtin .clear,#[.tmp d],#[ty]⟩,rr,nE,VF,none⟩=(do pure (Next.value (<-Builtin.clear_ #[ty] rr #[v]))):=by
   grind [execOp,resolve,invoke,builtin,j7]
  rw[uh,Sem.run_bind,r2];have S1:SR N ds w0 g0 h0 (st.put (some d) .junk st.h) g (a.put (some d) v) w:=hS.put hd hI (.refl _ _ _) (.junk _ _);have S2:SR N ds w0 g0 h0 ((st.put (some d) .junk st.h).put none (.v (.tuple #[])) Ef.h) g' ((a.put (some d) v).put none (.tuple #[])) w':=S1.put Wk hI' Ig (.v _ _);exact hn _ g' _ w' hk S2
 unfold lP at hk;simp only at hk;split at hk
 .rename_i e hs;split at hk
  .rename_i r n ex;split at hk
   .rename_i i ei;split at hk
    .rename_i sz es er;split at hk
     .rename_i hb;obtain rfl:=AT hb;split at hk
      .simp_all
      .rename_i k EQ;split at hk
       .rename_i WU;have WU:=AT WU;obtain⟨⟨rfl,i0,i1⟩,hk⟩:=hk;unfold sM at hk;split at hk
        .rename_i GP;have GP:∀v∈(cx.T e).zc,v.oneCell'=true:=A9.1 GP;have ho:=hI.objs r;rw[er]at ho;obtain⟨t1,l1,al,a2⟩:=ho;have ja:=hE x;rw[ex]at ja;have wi:=hE lo;rw[ei]at wi;have wi:=wi.v_eq;generalize hvx:a.eval x=vx at ja two;rw[wi]at two;cases ja with
         |msl _ _ _ ad cap hu ht' bS ha PG=>
          have hv:=PG l1.symm;have OE:es.length<=cap:=by
           grind
          have Cu:=Ez (P:=P) (w:=w) hT hs EQ ad es.length cap (some i) none none (.inl rfl) Wk Wk Wk aa0;simp only[Ec,Ld,DQ,Option.map_some,Option.map_none]at Cu
          by_cases hz:i.toNat=es.length
          .-- nothing is cleared
           have e1:es.length-i.toNat=0:=B0
           rw[e1]at Cu hk;refine two _ st g w Cu (ZN hT hs _) ?_ hI (.refl _ _ _);have e2:es.take i.toNat++List.replicate 0 ((cx.T e).zc.map AV.v)=es:=Wk
           rw[e2,<-er,iX]at hk;exact hk
          .have BW:i.toNat<es.length:=B0
           rcases a2 with ⟨b1,_⟩ | ⟨b,Ko,E,vs,b1,b2,b3,b4,b5,b6,b7⟩
           .simp_all
           .rw[b1]at hv;cases hv;have CU:¬cap=i.toNat:=B0
            rw[AB CU]at Cu;have ym:Option.map (fun x:Addr=>x.add (i.toNat*(cx.T e).size)) (some ⟨b,0,none⟩)=some ⟨b,i.toNat*(cx.T e).size,none⟩:=by grind [Addr.add]
            rw[ym]at Cu;have Wf:es.length*(cx.T e).size<=cap*(cx.T e).size:=AZ _ b3;have mK:i.toNat*(cx.T e).size+(es.length-i.toNat)*(cx.T e).size=es.length*(cx.T e).size:=by rw[<-H2];simp_all
            have hcl:=dA (w:=w) (ty2:=rr) (c:=cap-i.toNat) hT hs EQ (WU.trans EQ) GP b4 (n:=es.length-i.toNat) (o:=i.toNat*(cx.T e).size) B0 Wk;have hl:(st.h r).live:=by rw[er];trivial
            generalize hZ:(List.replicate (es.length-i.toNat) (cx.T e).zc).flatten=Z at hcl;have yk:Z.length=(es.length-i.toNat)*(cx.T e).size:=by
             rw[<-hZ,CZ (n:=(cx.T e).size) (fun c hc=>by simp_all),List.length_replicate]
            have SP:(es.take i.toNat++List.replicate (es.length-i.toNat) ((cx.T e).zc.map AV.v)).length=es.length:=by
             simp_all
            have yo:∀c∈es.take i.toNat++List.replicate (es.length-i.toNat) ((cx.T e).zc.map AV.v),c.length=(cx.T e).size:=fun c hc=>by
             grind
            have Ael:vs.toList.length=cap*(cx.T e).size:=B0
            have hfl:(es.take i.toNat++List.replicate (es.length-i.toNat) ((cx.T e).zc.map AV.v)).flatten=over es.flatten (i.toNat*(cx.T e).size) (Z.map AV.v):=by
             rw[MF _ _ _ (by rw[AW,yk,mK,CZ al];omega),CM,Nw al,AW,yk,mK,Fo (by rw[CZ al];omega),B5,<-hZ,List.map_flatten,List.map_replicate]
            have wy:((over vs.toList (i.toNat*(cx.T e).size) Z).toArray.toList.take (es.length*(cx.T e).size))=over (vs.toList.take (es.length*(cx.T e).size)) (i.toNat*(cx.T e).size) Z:=
             Vj _ _ _ _ B0 B0
            have hZr:Cg g w DR (Z.map AV.v) Z:=Cg.vals (by
             have tj : ∀l:List AV,(∀a∈l,one a=true)->Gu l=true:=by
              intro l
              induction l with
              |nil=>intro _;rfl
              |cons a l ih=>intro h;simp[Gu,h a (List.mem_cons_self ..),ih (fun b hb=>h b (List.mem_cons_of_mem _ hb))]
             refine tj _ fun q hq=>?_;obtain⟨y,hy,rfl⟩:=Ar.1 hq;rw[<-hZ]at hy;obtain⟨l,hl,hy⟩:=Fy.1 hy;rw[List.eq_of_mem_replicate hl]at hy;exact GP y hy)
            have qz:Cg g w DR (over es.flatten (i.toNat*(cx.T e).size) (Z.map AV.v)) (over (vs.toList.take (es.length*(cx.T e).size)) (i.toNat*(cx.T e).size) Z):=
             b6.over hZr _ (by rw[AW,yk,mK,CZ al];omega)
            obtain⟨k1,k2⟩:=hI.write hl b2 (.arr (cx.T e).size (es.take i.toNat++List.replicate (es.length-i.toNat) ((cx.T e).zc.map AV.v))) b4 (over vs.toList (i.toNat*(cx.T e).size) Z).toArray (g.ln r) (g.own r) g.S aa0 rfl (fun b' e=>by simp_all) (fun _ _ h=>h)
             (fun b' o hs=>.inl hs) (fun o hs=>absurd hs (b7 o)) (fun hg If Db=>by
              obtain⟨u1,u2,u3,u4⟩:=Bl g r (g.ρ r) (g.ln r) (g.tk r) (g.own r) g.S;refine⟨u3.trans t1,u2.trans B0,yo,.inr ⟨b,cap,E,_,?_,u4.trans b2,by omega,Db,?_,?_,b7⟩⟩
              .simp_all
              .simp only[List.size_toArray,FI,Array.length_toList];exact b5
              .rw[SP,wy,hfl];exact qz.mono If (fun _ h=>h) (fun _ h=>h.elim))
            exact two _ ⟨st.t,_⟩ _ _ Cu hcl hk k1 k2
        simp_all
       simp_all
     simp_all
    simp_all
   simp_all
  simp_all
 simp_all
end
end Go.Eng
