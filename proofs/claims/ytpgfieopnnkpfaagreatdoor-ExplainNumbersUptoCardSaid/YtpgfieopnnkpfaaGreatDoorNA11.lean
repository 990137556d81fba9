/- Lemmas for the claims of this seat, without a condition: part 11 (EngZA, EngZB, EngZC). -/
import Derived.Test.YtpgfieopnnkpfaaGreatDoorNA10
namespace Go.Eng

structure SR (N:Nat) (ds:List Deferred) (w0:World) (g0:Gh) (h0:Nat→HO) (st:St) (g:Gh) (a:Act) (w:World):Prop where
 inv:Inv w0 g0 h0 st.h g w
 le:Le h0 g0 w0 st.h g w
 dfs:a.defers=ds
 size:a.tmps.size=N
 slots:∀ i,Rep g w (used st.h) (st.t i) (a.tmps.getD i undef)

section
variable {P:Program} {N:Nat} {ds:List Deferred} {w0:World} {g0:Gh} {h0:Nat→HO} {st:St} {g:Gh} {a:Act} {w:World}

theorem SR.eval (hS:SR N ds w0 g0 h0 st g a w) (x:Operand):Rep g w (used st.h) (ev st.t x) (a.eval x):=by
 cases x with
 | tmp i=>exact hS.slots i
 | const v=>exact .v _ _
 | global b=>exact .v _ _
 | func f=>exact .v _ _
theorem SR.put (hS:SR N ds w0 g0 h0 st g a w) {d:Option Nat} (hd:∀ i,d=some i→i<N) {v:AV} {x:Value} {h' : Nat→HO} {g' : Gh} {w' : World} (hI:Inv w0 g0 h0 h' g' w') (hle:Le st.h g w h' g' w') (hr:Rep g' w' (used h') v x) :
  SR N ds w0 g0 h0 (st.put d v h') g' (a.put d x) w':=by
 have old:∀ i,Rep g' w' (used h') (st.t i) (a.tmps.getD i undef):=fun i=>(hS.slots i).le hle;cases d with
 | none=>exact ⟨hI,hS.le.trans hle,hS.dfs,hS.size,old⟩
 | some d =>
  have hdN:=hd d rfl;refine ⟨hI,hS.le.trans hle,hS.dfs,by simp [Act.put,hS.size],fun i=>?_⟩;simp only [St.put,Act.put,tput]
  by_cases e:i=d
  ·subst e
   have:i<a.tmps.size:=by rw [hS.size]; exact hdN
   simp only [Nat.beq_refl,cond_true];rw [Array.getD_eq_getD_getElem?,Array.getElem?_setIfInBounds_self,if_pos this];exact hr
  ·simp only [beq_ne e,cond_false];rw [Array.getD_eq_getD_getElem?,Array.getElem?_setIfInBounds_ne (Ne.symm e),← Array.getD_eq_getD_getElem?];exact old i

def Goes (w0:World) (g0:Gh) (h0 h:Nat→HO) (g:Gh) (w:World) (K:HK) (next:Value→World→Prop):Prop :=
 ∀ v h' g' w' x,K v h'→Inv w0 g0 h0 h' g' w'→Le h g w h' g' w'→Rep g' w' (used h') v x→next x w'

theorem wp_val {o:Oper} {m:Sem Value} {K:HK} {next:Act→World→Prop} {Q:Exit→Act→World→Prop} (hx:execOp a.eval o=(do pure (Next.value (← m)))) (hd:Does P w0 g0 h0 st.h g w m K)
  (hn:Goes w0 g0 h0 st.h g w K fun x w'=>next (a.put o.dst x) w'):o.wp P a w next Q:=by
 obtain ⟨x,w',g',av,h',h1,h2,h3,h4,h5⟩:=hd;unfold Oper.wp;rw [hx,Sem.run_bind,h1];exact hn av h' g' w' x h2 h3 h4 h5
theorem wp_unit {o:Oper} {m:Sem Unit} {K:HK} {next:Act→World→Prop} {Q:Exit→Act→World→Prop} (hx:execOp a.eval o=(do m; pure Next.skip)) (hd:DoesU P w0 g0 h0 st.h g w m K)
  (hn:Goes w0 g0 h0 st.h g w K fun x w'=>next (a.put o.dst x) w'):o.wp P a w next Q:=by
 obtain ⟨w',g',h',h1,h2,h3,h4⟩:=hd;unfold Oper.wp;rw [hx,Sem.run_bind,h1];exact hn _ h' g' w' undef h2 h3 h4 (.v _ _)
theorem wp_same {o:Oper} {K:HK} {next:Act→World→Prop} {Q:Exit→Act→World→Prop} {v:AV} {x:Value} (hI:Inv w0 g0 h0 st.h g w) (hx:(execOp a.eval o).run P w=.ok (.value x) w) (hk:K v st.h) (hr:Rep g w (used st.h) v x)
  (hn:Goes w0 g0 h0 st.h g w K fun x w'=>next (a.put o.dst x) w'):o.wp P a w next Q:=by
 unfold Oper.wp;rw [hx];exact hn _ _ _ _ _ hk hI (.refl _ _ _) hr

theorem call_freeC {C:(Ending→World→Prop)→Prop} (hm:∀ {R R' : Ending→World→Prop},C R→(∀ e w,R e w→R' e w)→C R') (hI:Inv w0 g0 h0 st.h g w) {Q:AV→(Nat→HO)→Prop}
  (hc:Inv w g hfree hfree g w→C (fun e w'=>∃ v r h' g',e=Ending.returned v∧Q r h'∧Rep g' w' (used h') r v∧Inv w g hfree h' g' w'∧Le hfree g w h' g' w')) {R:Ending→World→Prop}
  (hR:∀ v r h' g' w',Q r h'→h'=hfree→Inv w0 g0 h0 st.h g' w'→Le st.h g w st.h g' w'→Rep g' w' NoU r v→R (.returned v) w') (hQ:∀ r h',Q r h'→h'=hfree):C R:=by
 have hU:used hfree=NoU:=by funext i; unfold used NoU hfree; simp
 have hI0:Inv w g hfree hfree g w:=⟨rfl,rfl,rfl,Nat.le_refl _,fun _ _ _=>rfl,hI.slt,fun _=>trivial,fun _ _ _ h=>h.elim,fun _ _ h=>h.elim,fun _ _ h=>.inl h,hI.glob⟩;refine hm (hc hI0) ?_
 rintro e w' ⟨v,r,h',g',rfl,q1,q2,q3,q4⟩
 obtain rfl:=hQ r h' q1;rw [hU] at q2
 -- the caller's ghost,with the callee's stable cells
 have hk:Keeps g w ⟨g.ρ,g.ln,g.tk,g.own,g'.S⟩ w':=q4.keeps;have hg:GhLe g ⟨g.ρ,g.ln,g.tk,g.own,g'.S⟩ (used st.h):=fun _ _=>⟨rfl,Nat.le_refl _,fun _=>rfl,fun _=>rfl⟩;have hfr:∀ b,b<w.heap.size→w'.heap[b]?=w.heap[b]?:=fun b hb=>q3.frame b hb (fun _ h=>h.elim);have hSs:∀ b o,g'.S b o→b<w.heap.size→g.S b o:=fun b o hs hb=>by
  rcases q3.sg b o hs with h1 | h1 | ⟨_,h1,_⟩
  ·exact h1
  ·omega
  ·exact h1.elim
 refine hR v r hfree ⟨g.ρ,g.ln,g.tk,g.own,g'.S⟩ w' q1 rfl ⟨q3.os.trans hI.os,q3.tape.trans hI.tape,q3.output.trans hI.output,Nat.le_trans hI.size q3.size,fun b hb hn=>?_,q3.slt,fun i=>?_,hI.inj,fun i b hl ho=>?_,fun b o hs=>?_,hI.glob.keep hk⟩ ⟨hg,fun _ h=>h,hk⟩ ?_
 ·exact (hfr b (Nat.lt_of_lt_of_le hb hI.size)).trans (hI.frame b hb hn)
 ·refine (hI.objs i).same hk (fun _ h=>h) hg rfl rfl rfl rfl (fun b hl ho=>?_);have hlt:=(hI.loc i b hl ho).1;exact ⟨hfr b hlt,fun k hs=>hSs b k hs hlt⟩
 ·obtain ⟨h1,h2⟩:=hI.loc i b hl ho;exact ⟨Nat.lt_of_lt_of_le h1 q3.size,h2⟩
 ·rcases q3.sg b o hs with h1 | h1 | ⟨_,h1,_⟩
  ·exact hI.sg b o h1
  ·exact .inr (.inl (Nat.le_trans hI.size h1))
  ·exact h1.elim
 ·have:Keeps g' w' ⟨g.ρ,g.ln,g.tk,g.own,g'.S⟩ w':=fun b o h=>⟨h,rfl,fun _ _ h=>h⟩
  exact q2.mono this (fun _ h=>h) (fun _ h=>h.elim)

theorem call_free (hI:Inv w0 g0 h0 st.h g w) {f:Nat} {args:List AV} {Q:AV→(Nat→HO)→Prop} (hc:ACall P f args hfree Q) {vals:Array Value} (hs:vals.size=args.length)
  (hv:∀ (i:Nat) (av:AV) (x:Value),args[i]?=some av→vals[i]?=some x→Rep g w NoU av x) {R:Ending→World→Prop}
  (hR:∀ v r h' g' w',Q r h'→h'=hfree→Inv w0 g0 h0 st.h g' w'→Le st.h g w st.h g' w'→Rep g' w' NoU r v→R (.returned v) w') (hQ:∀ r h',Q r h'→h'=hfree):Calls P f vals w R :=
 have hU:used hfree=NoU:=by funext i; unfold used NoU hfree; simp
 call_freeC (C:=Calls P f vals w) (fun h k=>h.mono k) hI (hc.2 g w vals hs (fun i av x h1 h2=>by rw [hU]; exact hv i av x h1 h2)) hR hQ
theorem YieldAt.imp {F:Fence} {m:Nat} {P:Program} {l:Nat} {args:Array Value} {W:World} {R R' : Ending→World→Prop} (h:YieldAt F m P l args W R) (hr:∀ e w,R e w→R' e w):YieldAt F m P l args W R' :=
 let ⟨fn,t,a,b,h1,h2⟩:=h
 ⟨fn,t,a,b,h1,h2.mono hr⟩
theorem YCall.imp {Y:Gh→World→Prop} {l:Nat} {args:List AV} {h0:Nat→HO} {Q Q' : AV→(Nat→HO)→Prop} (h:YCall P Y l args h0 Q) (hq:∀ r h',Q r h'→Q' r h'):YCall P Y l args h0 Q' :=
 fun g w vals q1 q2 q3 q4=>YieldAt.imp (h g w vals q1 q2 q3 q4) fun _ _ ⟨v,r,h',g',e1,e2,rest⟩=>⟨v,r,h',g',e1,hq _ _ e2,rest⟩
theorem ACallV.imp {Y:Nat→Gh→World→Prop} {F:AV} {args:List AV} {h0:Nat→HO} {Q Q' : AV→(Nat→HO)→Prop} (h:ACallV P Y F args h0 Q) (hq:∀ r h',Q r h'→Q' r h'):ACallV P Y F args h0 Q':=by
 have one:∀ {f:Nat} {l:List AV},ACall P f l h0 Q→ACall P f l h0 Q':=fun hc =>
  ⟨hc.1,fun g w vals q1 q2 q3=>(hc.2 g w vals q1 q2 q3).mono fun _ _ ⟨v,r,h',g',e1,e2,rest⟩=>⟨v,r,h',g',e1,hq _ _ e2,rest⟩⟩
 unfold ACallV at h ⊢;split at h
 ·exact one h
 ·exact one h
 ·exact YCall.imp h hq
 ·exact h.elim
abbrev fro (ro:Option Nat):Fence:={ Fence.wide with round:=ro }
theorem opIn_of {ro:Option Nat} {o:Oper} {a:Act} {w:World} {next:Act→World→Prop} {Q:Exit→Act→World→Prop} (hd:∀ c,o.op≠.defer c) (h:o.wp P a w next Q):o.wpIn (fro ro) 0 P a w next Q:=by
 refine ⟨fun _ _=>trivial,?_⟩;have e:o.semAt (fro ro).round a.eval=execOp a.eval o:=Oper.semAt_eq ro a.eval o hd;rw [e];unfold Oper.wp at h;have key:∀ res:Result Next,o.upon P a next Q res→o.uponIn (fro ro) 0 P a next Q res:=fun res h=>by
  cases res with
  | ok n w'=>cases n with
   | enter f args=>exact (show (_→_)∧CallsIn (fro ro) 0 P f args w' _ from ⟨fun e=>by (cases e),callsIn_wide.2 h⟩)
   | row r args=>exact (show (_→_)∧RowsIn (fro ro) 0 P r args w' _ from ⟨fun e=>by (cases e),fun c cs _=>by
     obtain ⟨v,w'',r',s⟩:=h c cs;exact ⟨v,w'',r',stepsIn_wide.2 s⟩⟩)
   | round _ _ _ _ _=>exact h.elim
   | _=>exact h
  | halt x w'=>cases x <;> exact h
 exact key _ h
theorem run_callFunc {f:Nat} {args:Array Value} (h:Enters P f) (w:World):(callFunc f args).run P w=.ok (.enter f args) w:=by
 obtain ⟨fn,h1,h2,h3⟩:=h;simp only [callFunc,Sem.run_bind,run_program,h1,Result.andThen_ok,h2,h3,Bool.false_eq_true,if_false,Sem.run_pure]

theorem ren_none {h:Nat→HO} {a:AV} (ha:noTup a=true):ren (rfwd []) h a=str h a:=by
 have h0:∀ a,ren0 (rfwd []) h a=str0 h a:=fun a=>by
  cases a with
  | slice tk es=>cases tk <;> rfl
  | _=>rfl
 cases a with
 | tup cs=>cases ha
 | agg cs=>show AV.agg _=AV.agg _; exact congrArg _ (List.map_congr_left fun c _=>h0 c)
 | clo f cs=>show AV.clo f _=AV.clo f _; exact congrArg _ (List.map_congr_left fun c _=>h0 c)
 | v x=>exact h0 (.v x)
 | slice tk es=>exact h0 (.slice tk es)
 | msl r n=>exact h0 (.msl r n)
 | cptr cs=>exact h0 (.cptr cs)
 | ref r o=>exact h0 (.ref r o)
 | eref r n sz i o=>exact h0 (.eref r n sz i o)
 | mref r=>exact h0 (.mref r)
 | cmap sh l=>exact h0 (.cmap sh l)
 | junk=>rfl
theorem ren_nones {h:Nat→HO} : ∀ {l:List AV},noTups l=true→l.map (ren (rfwd []) h)=l.map (str h)
 | [],_=>rfl
 | a :: l,e=>by
  unfold noTups at e;split at e
  ·rename_i e1; rw [List.map_cons,List.map_cons,ren_none e1,ren_nones e]
  ·cases e
theorem valsL_map:∀ {l:List AV} {vs:List Value},valsL l=some vs→l=vs.map .v
 | [],vs,h=>by cases h; rfl
 | .v x :: r,vs,h=>by
  unfold valsL at h;split at h
  ·rename_i l e; cases h; rw [List.map_cons,← valsL_map e]
  ·cases h
theorem callD_gen {cx:Cx} {d:Option Nat} {st:St} {F:AV} {args:List AV} {K:HK} (hk:callK cx true d st F args K):callK cx false d st F args K:=by
 unfold callK at hk;simp only at hk;split at hk
 ·exact ⟨.pure,hk⟩
 ·split at hk
  ·exact hk.elim
  ·rename_i d _;obtain ⟨n,sz,es,h1,h2,h3⟩:=hk;simp only [Bool.and_eq_true] at h1;refine ⟨.gen [] 1,?_⟩;show (renOk []&&newFree st.h d 1&&newApart [] d 1)=true∧_;refine ⟨by simp [renOk,newApart,h1.1.1],?_⟩;rw [ren_none h1.1.2,ren_nones h1.2];show ACallV cx.P (fun l=>cx.yp l []) _ _ hfree _;refine ACallV.imp h2 ?_
   rintro r h' ⟨e2,e3⟩
   subst e2; subst e3;have e1:ren (backId [] d 1) (heapOf [(2000,.arr sz es)] hfree) (.msl 2000 n)=.msl (newId d 0) n:=rfl;have e2:backH [] d 1 st.h (heapOf [(2000,.arr sz es)] hfree)=hput st.h (newId d 0) (.arr sz es):=by
    funext i
    by_cases e:i=newId d 0
    ·subst e;rw [hput_same];have hb:(Nat.ble (newId d 0) (newId d 0)&&Nat.blt (newId d 0) (newId d 1))=true:=by
      unfold newId; simp only [Bool.and_eq_true,Nat.ble_eq,Nat.blt_eq]; omega
     simp only [backH,rfwd,hb,Nat.sub_self]; rfl
    ·rw [hput_ne _ _ _ _ e]
     have:(Nat.ble (newId d 0) i&&Nat.blt i (newId d 1))=false:=by
      unfold newId at e ⊢;rw [Bool.eq_false_iff];simp only [ne_eq,Bool.and_eq_true,Nat.ble_eq,Nat.blt_eq];omega
     simp only [backH,rfwd,this]
   rw [e1,e2]; exact h3
 ·split at hk
  ·unfold tokenK at hk;split at hk
   ·exact hk.elim
   ·rename_i d _;obtain ⟨sz,es,h1,h2,h3⟩:=hk;simp only [Bool.and_eq_true] at h1;refine ⟨.gen [] 1,?_⟩;show (renOk []&&newFree st.h d 1&&newApart [] d 1)=true∧_;refine ⟨by simp [renOk,newApart,h1.1.1],?_⟩;rw [ren_none h1.1.2,ren_nones h1.2];show ACallV cx.P (fun l=>cx.yp l []) _ _ hfree _;refine ACallV.imp h2 ?_
    rintro r h' ⟨e2,e3⟩
    subst e2; subst e3;have e1:ren (backId [] d 1) (heapOf [(2000,.tok sz es.length)] hfree) (.slice (.id 2000 sz) es)=.slice (.id (newId d 0) sz) es:=rfl;have e2:backH [] d 1 st.h (heapOf [(2000,.tok sz es.length)] hfree)=hput st.h (newId d 0) (.tok sz es.length):=by
     funext i
     by_cases e:i=newId d 0
     ·subst e;rw [hput_same];have hb:(Nat.ble (newId d 0) (newId d 0)&&Nat.blt (newId d 0) (newId d 1))=true:=by
       unfold newId; simp only [Bool.and_eq_true,Nat.ble_eq,Nat.blt_eq]; omega
      simp only [backH,rfwd,hb,Nat.sub_self]; rfl
     ·rw [hput_ne _ _ _ _ e]
      have:(Nat.ble (newId d 0) i&&Nat.blt i (newId d 1))=false:=by
       unfold newId at e ⊢;rw [Bool.eq_false_iff];simp only [ne_eq,Bool.and_eq_true,Nat.ble_eq,Nat.blt_eq];omega
      simp only [backH,rfwd,this]
    rw [e1,e2]; exact h3
  split at hk
  ·unfold yieldK at hk;split at hk
   ·rename_i d l vs e2 z1;have hl:=valsL_map e2;split at hk
    ·rename_i r sz es sz2 n e3 e4;obtain ⟨⟨rfl,rfl⟩,v,es',n',h1,h2⟩:=hk;refine ⟨.gen [(1000,1000),(1001,1001)] 0,?_⟩;show (renOk [(1000,1000),(1001,1001)]&&newFree st.h d 0&&newApart [(1000,1000),(1001,1001)] d 0)=true∧_;refine ⟨?_,?_⟩
     ·have:newApart [(1000,1000),(1001,1001)] d 0=true:=by
       have q:∀ r:Nat,(Nat.ble (newId d 0) r&&Nat.blt r (newId d 0))=false:=fun r=>by
        rw [Bool.eq_false_iff]; simp only [ne_eq,Bool.and_eq_true,Nat.ble_eq,Nat.blt_eq]; omega
       simp only [newApart,q,Bool.not_false,Bool.and_self]
      rw [this]; rfl
     have f1:args.map (ren (rfwd [(1000,1000),(1001,1001)]) st.h)=vs.map .v:=by rw [hl,List.map_map]; rfl
     have f2:renH [(1000,1000),(1001,1001)] st.h=heapOf [(1000,.cells [.slice (.id 1001 sz2) es]),(1001,.tok sz2 n)] hfree:=by
      unfold renH renL renL renL;rw [e3,e4]; rfl
     rw [f1,f2];refine YCall.imp h1 ?_
     rintro r h' ⟨g1,g2⟩
     subst g1; subst g2;have f3:backH [(1000,1000),(1001,1001)] d 0 st.h (heapOf [(1000,.cells [.slice (.id 1001 sz2) es']),(1001,.tok sz2 n')] hfree)=hput (hput st.h 1001 (.tok sz2 n')) 1000 (.cells [.slice (.id 1001 sz2) es']):=by
      funext i
      by_cases e:i=1000
      ·subst e; rw [hput_same]; rfl
      ·rw [hput_ne _ _ _ _ e]
       by_cases e' : i=1001
       ·subst e'; rw [hput_same]; rfl
       ·rw [hput_ne _ _ _ _ e'];have hn:rfwd [(1000,1000),(1001,1001)] i=none:=by simp [rfwd,beq_ne (Ne.symm e),beq_ne (Ne.symm e')]
        have:(Nat.ble (newId d 0) i&&Nat.blt i (newId d 0))=false:=by
         rw [Bool.eq_false_iff]; simp only [ne_eq,Bool.and_eq_true,Nat.ble_eq,Nat.blt_eq]; omega
        simp only [backH,hn,this]
     rw [f3]; exact h2
    ·exact hk.elim
   ·exact hk.elim
  unfold turnK at hk;split at hk
  ·rename_i dd f r n l _;split at hk
   ·rename_i vs hvs;have hl:=valsL_map hvs;subst hl;split at hk
    ·rename_i sz es hr;have hf:rfwd [(r,1000)] r=some 1000:=by simp [rfwd]
     have e1:ren (rfwd [(r,1000)]) st.h (.v (.func (.func f) ⟨[]⟩ ⟨[]⟩))=.v (.func (.func f) ⟨[]⟩ ⟨[]⟩):=rfl;have e2:(AV.msl r n :: vs.map AV.v).map (ren (rfwd [(r,1000)]) st.h)=.msl 1000 n :: vs.map .v:=by
      rw [List.map_cons]
      congr 1
      ·simp [ren,ren1,ren0,hf]
      ·rw [List.map_map]; rfl
     have e3:renH [(r,1000)] st.h=heapOf [(1000,.arr sz es)] hfree:=by
      unfold renH renL;rw [hr]; rfl
     split at hk
     ·obtain ⟨n',es',h1,h2⟩:=hk;refine ⟨.gen [(r,1000)] 0,?_⟩;show (renOk [(r,1000)]&&newFree st.h dd 0&&newApart [(r,1000)] dd 0)=true∧_;refine ⟨?_,?_⟩
      ·have:newApart [(r,1000)] dd 0=true:=by
        unfold newApart
        have:(Nat.ble (newId dd 0) r&&Nat.blt r (newId dd 0))=false:=by
         rw [Bool.eq_false_iff]; simp only [ne_eq,Bool.and_eq_true,Nat.ble_eq,Nat.blt_eq]; omega
        rw [this]; rfl
       rw [this]; rfl
      rw [e1,e2,e3];refine ⟨h1.1,fun g w vals q1 q2 q3=>(h1.2 g w vals q1 q2 q3).mono fun _ _ ⟨v,r',h',g',e1,⟨e2,e3⟩,rest⟩=>⟨v,r',h',g',e1,?_,rest⟩⟩;subst e2; subst e3;have f1:ren (backId [(r,1000)] dd 0) (heapOf [(1000,.arr sz es')] hfree) (.msl 1000 n')=.msl r n':=rfl;have f2:backH [(r,1000)] dd 0 st.h (heapOf [(1000,.arr sz es')] hfree)=hput st.h r (.arr sz es'):=by
       funext i
       by_cases e:i=r
       ·subst e;rw [hput_same];simp [backH,hf,heapOf,HO.ren]
       ·rw [hput_ne _ _ _ _ e];have hn:rfwd [(r,1000)] i=none:=by simp [rfwd,beq_ne (Ne.symm e)]
        have:(Nat.ble (newId dd 0) i&&Nat.blt i (newId dd 0))=false:=by
         rw [Bool.eq_false_iff]; simp only [ne_eq,Bool.and_eq_true,Nat.ble_eq,Nat.blt_eq]; omega
        simp only [backH,hn,this]
      rw [f1,f2]; exact h2
     ·obtain ⟨n',es',h0,h1,h2⟩:=hk;simp only [Bool.and_eq_true,Nat.blt_eq,Bool.not_eq_true'] at h0;have hrd:r≠newId dd 0:=fun e=>by have:=h0.2; rw [e] at this; simp at this
      refine ⟨.gen [(r,1000)] 1,?_⟩;show (renOk [(r,1000)]&&newFree st.h dd 1&&newApart [(r,1000)] dd 1)=true∧_;refine ⟨?_,?_⟩
      ·have:newApart [(r,1000)] dd 1=true:=by
        unfold newApart
        have:(Nat.ble (newId dd 0) r&&Nat.blt r (newId dd 1))=false:=by
         rw [Bool.eq_false_iff]; simp only [ne_eq,Bool.and_eq_true,Nat.ble_eq,Nat.blt_eq]; unfold newId at hrd ⊢; omega
        rw [this]; rfl
       rw [this,h0.1.1]; rfl
      rw [e1,e2,e3];refine ⟨h1.1,fun g w vals q1 q2 q3=>(h1.2 g w vals q1 q2 q3).mono fun _ _ ⟨v,r',h',g',e1,⟨e2,e3⟩,rest⟩=>⟨v,r',h',g',e1,?_,rest⟩⟩;subst e2; subst e3;have f1:ren (backId [(r,1000)] dd 1) (heapOf [(1000,.dead),(2000,.arr sz es')] hfree) (.msl 2000 n')=.msl (newId dd 0) n':=rfl;have f2:backH [(r,1000)] dd 1 st.h (heapOf [(1000,.dead),(2000,.arr sz es')] hfree)=hput (hput st.h r .dead) (newId dd 0) (.arr sz es'):=by
       funext i
       by_cases e:i=newId dd 0
       ·subst e;rw [hput_same];have hn:rfwd [(r,1000)] (newId dd 0)=none:=by simp [rfwd,beq_ne hrd]
        have hb:(Nat.ble (newId dd 0) (newId dd 0)&&Nat.blt (newId dd 0) (newId dd 1))=true:=by
         unfold newId; simp only [Bool.and_eq_true,Nat.ble_eq,Nat.blt_eq]; omega
        simp only [backH,hn,hb,Nat.sub_self]; rfl
       ·rw [hput_ne _ _ _ _ e]
        by_cases e4:i=r
        ·subst e4;rw [hput_same];simp [backH,hf,heapOf,HO.ren]
        ·rw [hput_ne _ _ _ _ e4];have hn:rfwd [(r,1000)] i=none:=by simp [rfwd,beq_ne (Ne.symm e4)]
         have:(Nat.ble (newId dd 0) i&&Nat.blt i (newId dd 1))=false:=by
          rw [Bool.eq_false_iff]; simp only [ne_eq,Bool.and_eq_true,Nat.ble_eq,Nat.blt_eq]; unfold newId at e ⊢; omega
         simp only [backH,hn,this]
      rw [f1,f2]; exact h2
    ·exact hk.elim
   ·exact hk.elim
  ·exact hk.elim
theorem callK_ok {cx:Cx} {dr:Bool} {d:Option Nat} {f:Operand} {args:Array Operand} {tys:Array TypeId} {dst:Option Nat} {ty:Nat} {pos:String} {after:Array Edge} {gd:Option (Nat × Bool)} {K:HK} {next:Act→World→Prop} {Q:Exit→Act→World→Prop}
  (hP:cx.P=P) (hY:∀ l σ h g w,renOk σ=true→Inv w0 g0 h0 h g w→Le h0 g0 w0 h g w→cx.yp l σ (ghFwd σ g) w) {ro:Option Nat} (hS:SR N ds w0 g0 h0 st g a w) (hk:callK cx dr d st (ev st.t f) (args.toList.map (ev st.t)) K)
  (hn:Goes w0 g0 h0 st.h g w K fun x w'=>next (a.put dst x) w'):Oper.wpIn (fro ro) 0 P ⟨dst,.call ⟨.value f,args,tys⟩,ty,pos,after,gd⟩ a w next Q:=by
 subst hP;have hk:callK cx false d st (ev st.t f) (args.toList.map (ev st.t)) K:=by
  cases dr with
  | true=>exact callD_gen hk
  | false=>exact hk
 have hargs:∀ (i:Nat) (av:AV) (x:Value),((args.toList.map (ev st.t)).map (str st.h))[i]?=some av→(args.map a.eval)[i]?=some x→Rep g w NoU av x:=by
  intro i av x h1 h2;rw [List.getElem?_map,List.getElem?_map] at h1;rw [Array.getElem?_map] at h2;cases ho:args[i]? with
  | none=>rw [ho] at h2; simp at h2
  | some y =>
   rw [ho] at h2;have hy:args.toList[i]?=some y:=by simpa using ho
   rw [hy] at h1;simp only [Option.map_some,Option.some.injEq] at h1 h2;subst h1; subst h2;exact Rep.str hS.inv.objs (hS.eval y)
 have hlen:(args.map a.eval).size=((args.toList.map (ev st.t)).map (str st.h)).length:=by simp
 have hF:=Rep.str hS.inv.objs (hS.eval f)
 -- a call of yield
 have yl:∀ (l:Nat) (R:Ending→World→Prop),a.eval f=.func (.yield l) #[] #[]→YieldAt Fence.wide 0 cx.P l (args.map a.eval) w R→(∀ e w',R e w'→∃ v,e=.returned v∧next (a.put dst v) w') →
   Oper.wpIn (fro ro) 0 cx.P ⟨dst,.call ⟨.value f,args,tys⟩,ty,pos,after,gd⟩ a w next Q:=by
  rintro l R hx ⟨fn,tm,asg,bd,h1,h2⟩ hR
  refine ⟨fun _ _=>trivial,?_⟩;have e:(⟨dst,.call ⟨.value f,args,tys⟩,ty,pos,after,gd⟩ : Oper).semAt (fro ro).round a.eval=execOp a.eval ⟨dst,.call ⟨.value f,args,tys⟩,ty,pos,after,gd⟩:=Oper.semAt_eq ro a.eval _ (fun c e=>by cases e);have hrun:(execOp a.eval ⟨dst,.call ⟨.value f,args,tys⟩,ty,pos,after,gd⟩).run cx.P w=.ok (.round l fn tm asg bd) w:=by
   simp only [execOp,resolve,hx,Deferred.ofValue,Sem.run_bind,Sem.run_pure,Result.andThen_ok,invoke];simpa using h1
  rw [e,hrun];refine (show (_→_)∧RoundIn (fro ro) 0 cx.P l fn tm asg bd w _ from ⟨fun e=>by (cases e),RoundIn.mono h2 fun e w' h=>?_⟩);obtain ⟨v,rfl,hn⟩:=hR e w' h;exact hn
 -- the call itself
 have go:∀ (Q' : AV→(Nat→HO)→Prop),(∀ r h',Q' r h'→h'=hfree∧K r st.h)→ACallV cx.P (fun _ _ _=>True) (str st.h (ev st.t f)) ((args.toList.map (ev st.t)).map (str st.h)) hfree Q' →
   Oper.wpIn (fro ro) 0 cx.P ⟨dst,.call ⟨.value f,args,tys⟩,ty,pos,after,gd⟩ a w next Q:=by
  intro Q' hQ hc
  have fin:∀ {fn:Nat} {l:List AV} {vals:Array Value},ACall cx.P fn l hfree Q'→vals.size=l.length→(∀ (i:Nat) (av:AV) (x:Value),l[i]?=some av→vals[i]?=some x→Rep g w NoU av x) →
    (execOp a.eval ⟨dst,.call ⟨.value f,args,tys⟩,ty,pos,after,gd⟩).run cx.P w=.ok (.enter fn vals) w→Oper.wpIn (fro ro) 0 cx.P ⟨dst,.call ⟨.value f,args,tys⟩,ty,pos,after,gd⟩ a w next Q:=by
   intro fn l vals hc hs hv hrun;refine opIn_of (fun c e=>by cases e) ?_;unfold Oper.wp;rw [hrun];exact call_free hS.inv hc hs hv (fun v r h' g' w' hq _ hI hle hr=>hn r _ g' w' v (hQ r h' hq).2 hI hle (hr.up _)) (fun r h' hq=>(hQ r h' hq).1)
  unfold ACallV at hc;split at hc
  ·rename_i fn e;rw [e] at hF;have hx:=hF.v_eq;refine fin hc hlen hargs ?_;have hx' : a.eval f=.func (.func fn) #[] #[]:=hx;simp only [execOp,resolve,hx',Deferred.ofValue,Sem.run_bind,Sem.run_pure,Result.andThen_ok,invoke];rw [run_callFunc hc.1];simp
  ·rename_i fn caps e;rw [e] at hF;generalize hx:a.eval f=fv at hF;cases hF with
   | clo _ _ _ vs hsz hcap =>
    refine fin hc (vals:=args.map a.eval++vs) (by simp [hsz]) (fun i av x h1 h2=>?_) ?_
    ·rw [List.getElem?_append] at h1;rw [Array.getElem?_append] at h2;have hl:((args.toList.map (ev st.t)).map (str st.h)).length=(args.map a.eval).size:=hlen.symm;rw [hl] at h1;split at h1
     ·rename_i hi;rw [if_pos hi] at h2;exact hargs i av x h1 h2
     ·rename_i hi;rw [if_neg hi] at h2;exact hcap _ av x h1 h2
    ·simp only [execOp,resolve,hx,Deferred.ofValue,Sem.run_bind,Sem.run_pure,Result.andThen_ok,invoke];rw [run_callFunc hc.1];simp
  ·rename_i l e;rw [e] at hF;have hU:used hfree=NoU:=by funext i; unfold used NoU hfree; simp
   refine yl l _ hF.v_eq (call_freeC (C:=YieldAt Fence.wide 0 cx.P l (args.map a.eval) w) (R:=fun e w'=>∃ v,e=.returned v∧next (a.put dst v) w') YieldAt.imp hS.inv (fun hI0=>hc g w _ hlen (fun i av x h1 h2=>by rw [hU]; exact hargs i av x h1 h2) hI0 trivial)
    (fun v r h' g' w' hq _ hI hle hr=>⟨v,rfl,hn r _ g' w' v (hQ r h' hq).2 hI hle (hr.up _)⟩) (fun r h' hq=>(hQ r h' hq).1)) fun _ _ h=>h
  ·exact hc.elim
 have pure:(∃ res,PCallV cx.P (str st.h (ev st.t f)) ((args.toList.map (ev st.t)).map (str st.h)) res∧K res st.h)→Oper.wpIn (fro ro) 0 cx.P ⟨dst,.call ⟨.value f,args,tys⟩,ty,pos,after,gd⟩ a w next Q:=by
  rintro ⟨res,h1,h2⟩
  refine go (fun r h'=>r=res∧h'=hfree) (fun r h' hq=>⟨hq.2,by rw [hq.1]; exact h2⟩) ?_;unfold PCallV at h1;unfold ACallV;split at h1
  ·rename_i fn e; rw [e]; exact h1
  ·rename_i fn caps e; rw [e]; exact h1
  ·exact h1.elim
 unfold callK at hk
 ·obtain ⟨m,hm⟩:=hk;cases m with
  | pure=>exact pure hm
  | rel=>exact go _ (fun r h' hq=>hq) hm
  | gen σ nn =>
   simp only at hm;cases d with
   | none=>exact hm.elim
   | some d =>
    simp only at hm;obtain ⟨hok,hc⟩:=hm;have hσ:renOk σ=true:=by simp only [Bool.and_eq_true] at hok; exact hok.1.1
    obtain ⟨hR,_⟩:=fwd_ok hS.inv hσ;have hF2:=(hS.eval f).ren hR;have hargs2:∀ (i:Nat) (av:AV) (x:Value),((args.toList.map (ev st.t)).map (ren (rfwd σ) st.h))[i]?=some av→(args.map a.eval)[i]?=some x→Rep (ghFwd σ g) w (used (renH σ st.h)) av x:=by
     intro i av x h1 h2;rw [List.getElem?_map,List.getElem?_map] at h1;rw [Array.getElem?_map] at h2;cases ho:args[i]? with
     | none=>rw [ho] at h2; simp at h2
     | some y =>
      rw [ho] at h2;have hy:args.toList[i]?=some y:=by simpa using ho
      rw [hy] at h1;simp only [Option.map_some,Option.some.injEq] at h1 h2;subst h1; subst h2;exact (hS.eval y).ren hR
    have hlen2:(args.map a.eval).size=((args.toList.map (ev st.t)).map (ren (rfwd σ) st.h)).length:=by simp
    have fin:∀ {fn:Nat} {l:List AV} {vals:Array Value},ACall cx.P fn l (renH σ st.h) (fun r h'=>K (ren (backId σ d nn) h' r) (backH σ d nn st.h h'))→vals.size=l.length →
      (∀ (i:Nat) (av:AV) (x:Value),l[i]?=some av→vals[i]?=some x→Rep (ghFwd σ g) w (used (renH σ st.h)) av x) →
      (execOp a.eval ⟨dst,.call ⟨.value f,args,tys⟩,ty,pos,after,gd⟩).run cx.P w=.ok (.enter fn vals) w→Oper.wpIn (fro ro) 0 cx.P ⟨dst,.call ⟨.value f,args,tys⟩,ty,pos,after,gd⟩ a w next Q:=by
     intro fn l vals hc hs hv hrun;refine opIn_of (fun c e=>by cases e) ?_;unfold Oper.wp;rw [hrun];exact call_gen hS.inv hok hc hs hv (fun v r h' g' w' hq hI hle hr=>hn _ _ g' w' v hq hI hle hr)
    unfold ACallV at hc;split at hc
    ·rename_i fn e;rw [e] at hF2;have hx:a.eval f=.func (.func fn) #[] #[]:=hF2.v_eq;refine fin hc hlen2 hargs2 ?_;simp only [execOp,resolve,hx,Deferred.ofValue,Sem.run_bind,Sem.run_pure,Result.andThen_ok,invoke];rw [run_callFunc hc.1];simp
    ·rename_i fn caps e;rw [e] at hF2;generalize hx:a.eval f=fv at hF2;cases hF2 with
     | clo _ _ _ vs hsz hcap =>
      refine fin hc (vals:=args.map a.eval++vs) (by simp [hsz]) (fun i av x h1 h2=>?_) ?_
      ·rw [List.getElem?_append] at h1;rw [Array.getElem?_append] at h2;have hl:((args.toList.map (ev st.t)).map (ren (rfwd σ) st.h)).length=(args.map a.eval).size:=hlen2.symm;rw [hl] at h1;split at h1
       ·rename_i hi;rw [if_pos hi] at h2;exact hargs2 i av x h1 h2
       ·rename_i hi;rw [if_neg hi] at h2;exact hcap _ av x h1 h2
      ·simp only [execOp,resolve,hx,Deferred.ofValue,Sem.run_bind,Sem.run_pure,Result.andThen_ok,invoke];rw [run_callFunc hc.1];simp
    ·rename_i l e;rw [e] at hF2
     exact yl l _ hF2.v_eq (call_genC (C:=YieldAt Fence.wide 0 cx.P l (args.map a.eval) w) (R:=fun e w'=>∃ v,e=.returned v∧next (a.put dst v) w') YieldAt.imp hS.inv hok (fun hI0=>hc (ghFwd σ g) w _ hlen2 hargs2 hI0 (hY l σ _ _ _ hσ hS.inv hS.le))
      (fun v r h' g' w' hq hI hle hr=>⟨v,rfl,hn _ _ g' w' v hq hI hle hr⟩)) fun _ _ h=>h
    ·exact hc.elim
end
end Go.Eng

namespace Go.Eng

section
variable {P:Program} {N:Nat} {ds:List Deferred} {w0:World} {g0:Gh} {h0:Nat→HO} {st:St} {g:Gh} {a:Act} {w:World}

theorem builtinK_ok {cx:Cx} (hT:TabOk P cx.T) {b:Builtin} {args:Array Operand} {tys:Array TypeId} {dst:Option Nat} {ty:Nat} {pos:String} {after:Array Edge} {gd:Option (Nat × Bool)} {K:HK} {next:Act→World→Prop} {Q:Exit→Act→World→Prop}
  (hS:SR N ds w0 g0 h0 st g a w) (hk:builtinK cx dst st.h b tys.toList (args.toList.map (ev st.t)) K)
  (hn:Goes w0 g0 h0 st.h g w K fun x w'=>next (a.put dst x) w'):Oper.wp P ⟨dst,.call ⟨.builtin b,args,tys⟩,ty,pos,after,gd⟩ a w next Q:=by
 have hI:=hS.inv;have hE:=hS.eval;obtain ⟨l⟩:=args;obtain ⟨tl⟩:=tys;unfold builtinK at hk;split at hk
 ·rename_i x t e1 e2
  match l,e1 with
  | [y],e1 =>
   simp only [List.map_cons,List.map_nil,List.cons.injEq,and_true] at e1;subst e1;simp only at e2;subst e2;exact wp_val (m:=Builtin.len_ #[t] ty #[a.eval y]) (by simp [execOp,resolve,invoke,builtin]) (Gives.does hI (lenHK_ok hT hI.objs (hE y) hk)) hn
 ·rename_i s x t t' e1 e2
  match l,e1 with
  | [y,z],e1 =>
   simp only [List.map_cons,List.map_nil,List.cons.injEq,and_true] at e1;obtain ⟨rfl,rfl⟩:=e1;simp only at e2;subst e2;split at hk
   ·rename_i ht;obtain rfl:=Nat.eq_of_beq_eq_true ht;exact wp_val (m:=Builtin.append_ #[t,t] ty #[a.eval y,a.eval z]) (by simp [execOp,resolve,invoke,builtin]) (appendK_ok hI hT (hE y) (hE z) hk) hn
   ·exact hk.elim
 ·rename_i x y tys e1
  match l,e1 with
  | [y,z],e1 =>
   simp only [List.map_cons,List.map_nil,List.cons.injEq,and_true] at e1;obtain ⟨rfl,rfl⟩:=e1;exact wp_val (m:=Builtin.max_ ⟨tl⟩ ty #[a.eval y,a.eval z]) (by simp [execOp,resolve,invoke,builtin]) (Gives.does hI (maxK_ok (hE y) (hE z) hk)) hn
 ·rename_i x y tys e1
  match l,e1 with
  | [y,z],e1 =>
   simp only [List.map_cons,List.map_nil,List.cons.injEq,and_true] at e1;obtain ⟨rfl,rfl⟩:=e1;exact wp_val (m:=Builtin.min_ ⟨tl⟩ ty #[a.eval y,a.eval z]) (by simp [execOp,resolve,invoke,builtin]) (Gives.does hI (minK_ok (hE y) (hE z) hk)) hn
 ·exact hk.elim

theorem aop_ok0 {cx:Cx} (hT:TabOk P cx.T) {dr:Bool} {o:Oper} {K:HK} {next:Act→World→Prop} {Q:Exit→Act→World→Prop} (hS:SR N ds w0 g0 h0 st g a w) (hk:aop cx dr o st K)
  (hv:∀ f args tys,o.op≠.call ⟨.value f,args,tys⟩) (hn:Goes w0 g0 h0 st.h g w K fun x w'=>next (a.put o.dst x) w'):o.wp P a w next Q:=by
 have hI:=hS.inv;have hE:=hS.eval;obtain ⟨dst,op,ty,pos,after,gd⟩:=o;unfold aop at hk;cases op with
 | move x=>exact wp_same hI (x:=a.eval x) rfl hk (hE x) hn
 | assign x =>
  obtain ⟨g',av,h',q1,q2,q3,q4⟩:=assignK_ok hI (hE x) hk;exact hn _ _ _ _ _ q1 q2 q3 q4
 | pick c x y=>exact wp_val (m:=do pure (if ← asBool (a.eval c) then a.eval x else a.eval y)) (by simp [execOp]) (Gives.does hI (pickK_ok (hE c) (hE x) (hE y) hk)) hn
 | alloc e=>exact wp_val rfl (allocK_ok hI hT hk) hn
 | box e x=>exact wp_val rfl (boxK_ok hI (hE x) hk) hn
 | build t ps=>exact wp_val rfl (Gives.does hI (buildK_ok hT hE hk)) hn
 | buildSlice t n ps=>exact wp_val rfl (buildSliceK_ok hI hT hE hk) hn
 | insert t m k x=>exact wp_unit rfl (mapUpdateK_ok hI hT (hE m) (hE k) (hE x) hk) hn
 | load t x=>exact wp_val rfl (Gives.does hI (loadHK_ok hI.objs hT (hE x) hk)) hn
 | store t p x=>exact wp_unit rfl (storeK_ok hI hT (hE p) (hE x) hk) hn
 | nilCheck x =>
  obtain ⟨h1,h2⟩:=nilCheckK_ok (P:=P) (w:=w) (hE x) hk (pos:=pos) (after:=after) (gd:=gd) (dst:=dst) (ty:=ty) (ρ:=a.eval) rfl;exact wp_same hI h1 h2 (hE x) hn
 | binOp op t x y u=>exact wp_val rfl (Gives.does hI (binK2_ok hT (hE x) (hE y) (fun v e=>by subst e; rfl) hk)) hn
 | unOp op t x=>exact wp_val rfl (Gives.does hI (unopK_ok (hE x) hk)) hn
 | convert s t x=>exact wp_val rfl (Gives.does hI (convK_ok hT (hE x) hk)) hn
 | makeFunc fn first cap=>exact wp_val rfl (Gives.does hI (makeFuncK_ok hI.objs hE hk)) hn
 | makeMap t r =>
  cases r with
  | some r=>exact hk.elim
  | none=>exact wp_val rfl (makeMapK_ok hI hk) hn
 | makeSlice t n c=>exact wp_val rfl (makeSliceK_ok hI hT (hE n) (hE c) hk) hn
 | slice t x lo hi mx =>
  cases dr with
  | true=>exact wp_val rfl (sliceK_ok hI hT hE (hE x) hk) hn
  | false =>
   cases hp:asgO cx.pl.tok dst with
   | none =>
    have hk' : sliceK cx dst st.h t (ev st.t x) (optInt st.t lo) (optInt st.t hi) (optInt st.t mx) K:=by
     have hk2:(match asgO cx.pl.tok dst with
      | none=>sliceK cx dst st.h t (ev st.t x) (optInt st.t lo) (optInt st.t hi) (optInt st.t mx) K
      | some _=>resliceK cx dst st.h t (ev st.t x) (optInt st.t lo) hi mx K):=hk
     rw [hp] at hk2; exact hk2
    exact wp_val rfl (sliceK_ok hI hT hE (hE x) hk') hn
   | some _ =>
    have hk' : resliceK cx dst st.h t (ev st.t x) (optInt st.t lo) hi mx K:=by
     have hk2:(match asgO cx.pl.tok dst with
      | none=>sliceK cx dst st.h t (ev st.t x) (optInt st.t lo) (optInt st.t hi) (optInt st.t mx) K
      | some _=>resliceK cx dst st.h t (ev st.t x) (optInt st.t lo) hi mx K):=hk
     rw [hp] at hk2; exact hk2
    exact wp_val rfl (resliceK_ok hI hT hE (hE x) hk') hn
 | fieldAddr s x f=>exact wp_val rfl (Gives.does hI (fieldK_ok hT (hE x) hk)) hn
 | field s x f=>exact wp_val rfl (Gives.does hI (fieldVK_ok hT (hE x) hk)) hn
 | indexAddr t x i=>exact wp_val rfl (Gives.does hI (indexAddrK_ok hT (hE x) (hE i) hk)) hn
 | index t x i=>exact wp_val rfl (Gives.does hI (indexK_ok hT (hE x) (hE i) hk)) hn
 | lookup t x i ok =>
  have hk:lookupK cx.T st.h t (ev st.t x) (ev st.t i) ok fun v=>K v st.h:=by
   cases dr with
   | true=>exact lookupD_K hk
   | false=>exact hk
  exact wp_val rfl (Gives.does hI (lookupK_ok hT hI.objs (hE x) (hE i) hk)) hn
 | mapUpdate t m k x=>exact wp_unit rfl (mapUpdateK_ok hI hT (hE m) (hE k) (hE x) hk) hn
 | range t x =>
  simp only at hk;split at hk
  ·rename_i kt e ht;exact wp_val rfl (rangeK_ok hI hT ht (hE x) hk) hn
  ·exact hk.elim
 | next it s =>
  cases s with
  | true=>exact hk.elim
  | false=>exact wp_val rfl (nextK_ok hI (hE it) hk) hn
 | entry it=>exact wp_val rfl (Gives.does hI (entryK_ok hI.objs (hE it) hk)) hn
 | extract x i=>exact wp_val rfl (Gives.does hI (extractK_ok (hE x) hk)) hn
 | call c =>
  obtain ⟨cal,args,tys⟩:=c;cases cal with
  | builtin b=>exact builtinK_ok hT hS hk hn
  | value f=>exact absurd rfl (hv f args tys)
  | invoke r m=>exact hk.elim
 | _=>exact hk.elim
theorem aop_ok {cx:Cx} (hP:cx.P=P) (hY:∀ l σ h g w,renOk σ=true→Inv w0 g0 h0 h g w→Le h0 g0 w0 h g w→cx.yp l σ (ghFwd σ g) w) {ro:Option Nat} (hT:TabOk P cx.T) {dr:Bool} {o:Oper} {K:HK} {next:Act→World→Prop} {Q:Exit→Act→World→Prop} (hS:SR N ds w0 g0 h0 st g a w) (hk:aop cx dr o st K)
  (hn:Goes w0 g0 h0 st.h g w K fun x w'=>next (a.put o.dst x) w'):o.wpIn (fro ro) 0 P a w next Q:=by
 by_cases hv:∃ f args tys,o.op=.call ⟨.value f,args,tys⟩
 ·obtain ⟨f,args,tys,e⟩:=hv;obtain ⟨dst,op,ty,pos,after,gd⟩:=o;cases e;exact callK_ok hP hY hS hk hn
 ·refine opIn_of (fun c e=>?_) (aop_ok0 hT hS hk (fun f args tys e=>hv ⟨f,args,tys,e⟩) hn);obtain ⟨dst,op,ty,pos,after,gd⟩:=o;cases e;exact hk.elim
theorem least {p:Nat→Prop} (h:∃ n,p n):∃ n,p n∧∀ m,m<n→¬ p m:=by
 apply Classical.byContradiction;intro hc
 have:∀ n,¬ p n:=fun n=>by
  induction n using Nat.strongRecOn with
  | _ n ih=>exact fun hp=>hc ⟨n,hp,ih⟩
 obtain ⟨n,hn⟩:=h;exact this n hn
theorem wpIn_loop_ghost {F:Fence} {m:Nat} {c:Code} {Q:Exit→Act→World→Prop} (I:Nat→Act→World→Prop) (k:Nat) (h0:I k a w)
  (round:∀ n a w,I n a w→c.wpIn F m P (Exit.then (fun a' w'=>∃ n',n' < n∧I n' a' w') Q) a w):(Code.loop c).wpIn F m P Q a w:=by
 classical
 have hex:∀ a w,(∃ n,I n a w)→∃ n,I n a w∧∀ n',n' < n→¬ I n' a w:=fun a w h=>least h;refine wpIn_loop (fun a w=>∃ n,I n a w) (fun a w=>if h:∃ n,I n a w then (hex a w h).choose else 0) ⟨k,h0⟩ fun a w h=>?_;have hs:=(hex a w h).choose_spec;refine wpIn_mono (round _ a w hs.1) fun e a' w' q=>?_;cases e with
 | normal =>
  obtain ⟨n',hlt,hn⟩:=q;have h' : ∃ n,I n a' w':=⟨n',hn⟩;refine ⟨h',?_⟩;simp only [dif_pos h,dif_pos h'];refine Nat.lt_of_le_of_lt ?_ hlt;apply Nat.le_of_not_lt;intro hc;exact (hex a' w' h').choose_spec.2 n' hc hn
 | _=>exact q
end
end Go.Eng

namespace Go.Eng

section
variable {P:Program} {N:Nat} {ds:List Deferred} {w0:World} {g0:Gh} {h0 h:Nat→HO} {st:St} {g:Gh} {a:Act} {w:World}

theorem frz1_ok (hI:Inv w0 g0 h0 h g w) (r:Nat):∃ g',Inv w0 g0 h0 (frz1 h r) g' w∧Le h g w (frz1 h r) g' w:=by
 unfold frz1;split
 ·rename_i cs e0;have ho:=hI.objs r;rw [e0] at ho;obtain ⟨t1,b,E,vs,a1,a2,a3,a4,a5⟩:=ho;have hl:(h r).live:=by rw [e0]; trivial
  have hlt:=(hI.loc r b hl a1).1;have hs:=strL_ok hI a4
  obtain ⟨k1,k2⟩:=hI.upd r (.ro (cs.map (str h))) (g.ρ r) (g.ln r) (g.tk r) none (g.more b cs.length) w none ⟨rfl,rfl,rfl,Nat.le_refl _⟩ (fun _ _ _=>rfl) (fun b e=>by cases e) (fun _ _ h=>.inl h)
   (fun b' o hs=>hs.elim .inl (fun hs=>.inr ⟨by rw [hs.1]; exact hlt,.inr ⟨hl,by rw [hs.1]; exact a1⟩⟩)) (fun b o e=>by cases e) (fun b hh _=>by cases hh) (by simp)
   (fun _=>⟨rfl,Nat.le_refl _,fun _=>rfl,fun _=>rfl⟩) (fun hg hk=>by
    obtain ⟨u1,u2,u3,u4⟩:=upd_same g r (g.ρ r) (g.ln r) (g.tk r) none (g.more b cs.length);exact ⟨u3.trans t1,b,u1.trans a2,Rep.cptr_row a3 (hs.mono hk (fun _ h=>h) (fun _ h=>h.elim)) (fun o ho=>.inr ⟨rfl,by simpa using ho⟩)⟩)
  exact ⟨_,k1,k2⟩
 ·rename_i sh kvs e0;have ho:=hI.objs r;rw [e0] at ho;obtain ⟨t1,b,es,ck,a1,a2,a3,a4,a5,a6⟩:=ho;obtain ⟨g1,i1,i2,i3⟩:=mapStill_ok hI e0 a1 a2 a3 a4 a5 t1;exact ⟨g1,i1,i2⟩
 ·rename_i sh kvs e0;have ho:=hI.objs r;rw [e0] at ho;obtain ⟨t1,b,es,ck,a1,a2,a3,a4,a5,a6⟩:=ho;obtain ⟨g1,i1,i2,i3⟩:=mapUStill_ok hI e0 a1 a2 a3 a4 a5 t1;exact ⟨g1,i1,i2⟩
 ·exact ⟨g,hI,.refl _ _ _⟩
theorem frzs_ok:∀ (l:List Nat) {h:Nat→HO} {g:Gh},Inv w0 g0 h0 h g w→∃ g',Inv w0 g0 h0 (frzs h l) g' w∧Le h g w (frzs h l) g' w
 | [],_,g,hI=>⟨g,hI,.refl _ _ _⟩
 | r :: l,_,_,hI =>
  let ⟨_,i1,i2⟩:=frz1_ok hI r
  let ⟨g2,j1,j2⟩:=frzs_ok l i1
  ⟨g2,j1,i2.trans j2⟩
theorem overA_get:∀ (cs:List AV) (k:Nat) (v:AV) (i:Nat) (av:AV),(overA cs k v)[i]?=some av→(i=k∧av=v)∨cs[i]?=some av
 | [],_,_,_,_,h=>by simp [overA] at h
 | c :: cs,0,v,i,av,h=>by
  unfold overA at h;cases i with
  | zero=>simp only [List.getElem?_cons_zero,Option.some.injEq] at h; exact .inl ⟨rfl,h.symm⟩
  | succ i=>exact .inr h
 | c :: cs,k+1,v,i,av,h=>by
  unfold overA at h;cases i with
  | zero=>exact .inr h
  | succ i =>
   rcases overA_get cs k v i av (by simpa using h) with ⟨e1,e2⟩ | e
   ·exact .inl ⟨by omega,e2⟩
   ·exact .inr (by simpa using e)
theorem overA_len:∀ (cs:List AV) (k:Nat) (v:AV),(overA cs k v).length=cs.length
 | [],_,_=>rfl
 | _ :: _,0,_=>rfl
 | _ :: cs,k+1,v=>by unfold overA; simp [overA_len cs k v]
theorem nthA_get:∀ (cs:List AV) (k:Nat) (x:Value),nthA cs k=.v x→cs[k]?=some (.v x)
 | [],_,_,h=>by simp [nthA] at h
 | _ :: _,0,_,h=>by unfold nthA at h; simp [h]
 | _ :: cs,k+1,x,h=>by unfold nthA at h; simpa using nthA_get cs k x h
theorem tz1_ok (hI:Inv w0 g0 h0 h g w) (r k j sz:Nat):∃ g',Inv w0 g0 h0 (tz1 h r k j sz) g' w∧Le h g w (tz1 h r k j sz) g' w:=by
 have same:∃ g',Inv w0 g0 h0 h g' w∧Le h g w h g' w:=⟨g,hI,.refl _ _ _⟩;unfold tz1;split
 ·rename_i cs e0;split
  ·rename_i e1;split
   ·rename_i hj;have hne:r≠j:=fun e=>by rw [e,hj] at e0; cases e0
    obtain ⟨g1,i1,i2,i3⟩:=newFull_ok hI (sz:=sz) (es:=[]) (a:=none) hj (by simp) rfl (.snil _ _ _);have ho:=i1.objs r;rw [hput_ne _ _ _ _ hne,e0] at ho;obtain ⟨t1,b,E,vs,a1,a2,a3,a4,a5⟩:=ho;have hl:(hput h j (.tok sz 0) r).live:=by rw [hput_ne _ _ _ _ hne,e0]; trivial
    have hlt:=(i1.loc r b hl a1).1;have hk0:=nthA_get cs k _ e1
    obtain ⟨k1,k2⟩:=i1.upd r (.cells (overA cs k (.slice (.id j sz) []))) (g1.ρ r) (g1.ln r) (g1.tk r) (g1.own r) g1.S w none ⟨rfl,rfl,rfl,Nat.le_refl _⟩ (fun _ _ _=>rfl) (fun b e=>by cases e) (fun _ _ h=>h) (fun _ _ h=>.inl h)
     (fun b o e=>by cases e) (fun b' _ e=>⟨(i1.loc r b' hl e).1,.inl ⟨hl,e⟩⟩) (by simp) (fun _=>⟨rfl,Nat.le_refl _,fun _=>rfl,fun _=>rfl⟩) (fun hg hk=>by
      obtain ⟨u1,u2,u3,u4⟩:=upd_same g1 r (g1.ρ r) (g1.ln r) (g1.tk r) (g1.own r) g1.S;have hus:∀ i,used (hput h j (.tok sz 0)) i→used (hput (hput h j (.tok sz 0)) r (.cells (overA cs k (.slice (.id j sz) [])))) i:=fun i hi=>used_hput (by simp) i hi;refine ⟨u3.trans t1,b,E,vs,u4.trans a1,u1.trans a2,a3,⟨by rw [overA_len]; exact a4.1,a4.2.1,fun i av x q1 q2=>?_⟩,a5⟩;rcases overA_get cs k _ i av q1 with ⟨rfl,rfl⟩ | q
      ·have:=(a4.2.2 i _ x hk0 q2).v_eq
       subst this;exact i3.mono hk hus hg
      ·exact (a4.2.2 i av x q q2).mono hk hus hg)
    exact ⟨_,k1,i2.trans k2⟩
   ·exact same
  ·exact same
 ·exact same
theorem preFz_ok {cx:Cx} {o:Oper} (hS:SR N ds w0 g0 h0 st g a w):∃ g',SR N ds w0 g0 h0 (preFz cx o st) g' a w:=by
 unfold preFz;split
 ·exact ⟨g,hS⟩
 ·rename_i d _;split
  ·obtain ⟨g',h1,h2⟩:=tz1_ok hS.inv _ _ _ _;exact ⟨g',h1,hS.le.trans h2,hS.dfs,hS.size,fun i=>(hS.slots i).le h2⟩
  split
  ·exact ⟨g,hS⟩
  ·obtain ⟨g',h1,h2⟩:=frzs_ok (asgL cx.pl.fz d) hS.inv;exact ⟨g',h1,hS.le.trans h2,hS.dfs,hS.size,fun i=>(hS.slots i).le h2⟩

theorem nthA_msl:∀ (cs:List AV) (k:Nat) (r n:Nat),nthA cs k=.msl r n→cs[k]?=some (.msl r n)
 | [],_,_,_,h=>by simp [nthA] at h
 | _ :: _,0,_,_,h=>by unfold nthA at h; simp [h]
 | _ :: cs,k+1,r,n,h=>by unfold nthA at h; simpa using nthA_msl cs k r n h
theorem arr_tok (hI:Inv w0 g0 h0 h g w) {r sz:Nat} {es:List (List AV)} (hr:h r=.arr sz es) :
  ∃ g',Inv w0 g0 h0 (hput h r (.tok sz es.length)) g' w∧Le h g w (hput h r (.tok sz es.length)) g' w∧Rep g' w (used (hput h r (.tok sz es.length))) (.slice (.id r sz) es) (g.ρ r)∧g.ln r=es.length:=by
 have ho:=hI.objs r;rw [hr] at ho;obtain ⟨t1,l1,al,a2⟩:=ho;have hl:(h r).live:=by rw [hr]; trivial
 rcases a2 with ⟨b1,b2,b3⟩ | ⟨b,cap,E,vs,b1,b2,b3,b4,b5,b6,b7⟩
 ·subst b1
  obtain ⟨k1,k2⟩:=hI.upd r (.tok sz 0) (g.ρ r) (g.ln r) (g.tk r) (g.own r) g.S w none ⟨rfl,rfl,rfl,Nat.le_refl _⟩ (fun _ _ _=>rfl) (fun b e=>by cases e) (fun _ _ h=>h) (fun _ _ h=>.inl h)
   (fun b o e=>by cases e) (fun b' _ e=>⟨(hI.loc r b' hl e).1,.inl ⟨hl,e⟩⟩) (by simp) (fun _=>⟨rfl,Nat.le_refl _,fun _=>rfl,fun _=>rfl⟩) (fun hg hk=>by
    obtain ⟨u1,u2,u3,u4⟩:=upd_same g r (g.ρ r) (g.ln r) (g.tk r) (g.own r) g.S;exact ⟨u3.trans t1,u2.trans l1,none,0,u1.trans b2,.inl ⟨rfl,u4.trans b3⟩⟩)
  refine ⟨_,k1,k2,?_,l1⟩;rw [b2];exact .tok _ r sz [] _ (.snil _ _ _) (by simp) (by unfold used; rw [List.length_nil,hput_same]; simp) (by simp [Gh.upd,t1]) (by simp) (fun _=>by simp [Gh.upd])
 ·have hlt:=(hI.loc r b hl b2).1
  obtain ⟨k1,k2⟩:=hI.upd r (.tok sz es.length) (g.ρ r) (g.ln r) (g.tk r) (g.own r) (g.more b (es.length*sz)) w none ⟨rfl,rfl,rfl,Nat.le_refl _⟩ (fun _ _ _=>rfl) (fun b e=>by cases e) (fun _ _ h=>.inl h)
   (fun b' o hs=>hs.elim .inl (fun hs=>.inr ⟨by rw [hs.1]; exact hlt,.inr ⟨hl,by rw [hs.1]; exact b2⟩⟩)) (fun b o e=>by cases e) (fun b' _ e=>⟨(hI.loc r b' hl e).1,.inl ⟨hl,e⟩⟩) (by simp)
   (fun _=>⟨rfl,Nat.le_refl _,fun _=>rfl,fun _=>rfl⟩) (fun hg hk=>by
    obtain ⟨u1,u2,u3,u4⟩:=upd_same g r (g.ρ r) (g.ln r) (g.tk r) (g.own r) (g.more b (es.length*sz));exact ⟨u3.trans t1,u2.trans l1,_,cap,u1.trans b1,.inr ⟨b3,b,E,vs,0,rfl,u4.trans b2,b4,by rw [b5,Nat.zero_add],fun o ho=>by
     rcases ho with ho | ⟨_,ho⟩
     ·exact absurd ho (b7 o)
     ·omega⟩⟩)
  refine ⟨_,k1,k2,?_,l1⟩;rw [b1];exact .tok _ r sz es _ (Rep.slice_row b4 al b3 (b6.mono k2.keeps (fun _ h=>h) (fun _ h=>h.elim)) (fun o ho=>.inr ⟨rfl,ho⟩)) al (by unfold used; rw [hput_same]; simp) (by simp [Gh.upd,t1]) (by simp [Gh.upd,l1]) (fun _=>by simp [Gh.upd])
theorem Inv.move {w0:World} {g0:Gh} {h0 h:Nat→HO} {g:Gh} {w:World} (hI:Inv w0 g0 h0 h g w) (r r2:Nat) (hne:r2≠r) (hf:h r2=.free) (hl:(h r).live) {b:Nat} (ho:g.own r=some b) (o' : HO) (x:Value) (n:Nat) (t:Bool) (hn:o'≠.free)
  (hobj:Keeps g w (g.upd r2 x n t (some b) g.S) w→ObjRep (g.upd r2 x n t (some b) g.S) w (used (hput (hput h r .dead) r2 o')) r2 o') :
  Inv w0 g0 h0 (hput (hput h r .dead) r2 o') (g.upd r2 x n t (some b) g.S) w∧Le h g w (hput (hput h r .dead) r2 o') (g.upd r2 x n t (some b) g.S) w:=by
 have hGh:GhLe g (g.upd r2 x n t (some b) g.S) (used h):=by
  intro i hi;have e:i≠r2:=fun e=>hi (by rw [e]; exact hf);refine ⟨by simp [Gh.upd,e],by simp [Gh.upd,e],fun _=>by simp [Gh.upd,e],fun _=>by simp [Gh.upd,e]⟩
 have hK:Keeps g w (g.upd r2 x n t (some b) g.S) w:=fun b o hb=>⟨hb,rfl,fun _ _ h=>h⟩;have hus:∀ i,used h i→used (hput (hput h r .dead) r2 o') i:=fun i hi=>used_hput hn i (used_hput (by simp) i hi);have key:∀ i,i≠r2→(hput (hput h r .dead) r2 o' i).live→i≠r∧(h i).live:=fun i h2 hl=>by
  rw [hput_ne _ _ _ _ h2] at hl
  by_cases e:i=r
  ·subst e; rw [hput_same] at hl; exact hl.elim
  ·rw [hput_ne _ _ _ _ e] at hl; exact ⟨e,hl⟩
 have own:∀ i,i≠r2→(g.upd r2 x n t (some b) g.S).own i=g.own i:=fun i e=>by simp [Gh.upd,e]
 have own2:(g.upd r2 x n t (some b) g.S).own r2=some b:=by simp [Gh.upd]
 refine ⟨⟨hI.os,hI.tape,hI.output,hI.size,hI.frame,hI.slt,fun i=>?_,fun i j c hi hj ei ej=>?_,fun i c hi ei=>?_,hI.sg,hI.glob.keep hK⟩,hGh,hus,hK⟩
 ·by_cases e:i=r2
  ·subst e; rw [hput_same]; exact hobj hK
  ·rw [hput_ne _ _ _ _ e]
   by_cases e1:i=r
   ·subst e1; rw [hput_same]; trivial
   ·rw [hput_ne _ _ _ _ e1];exact (hI.objs i).same hK hus hGh (by simp [Gh.upd,e]) (by simp [Gh.upd,e]) (by simp [Gh.upd,e]) (by simp [Gh.upd,e]) (fun b hl hb=>⟨rfl,fun k hk=>hk⟩)
 ·by_cases e1:i=r2 <;> by_cases e2:j=r2
  ·exact e1.trans e2.symm
  ·subst e1;rw [own2] at ei; rw [own j e2] at ej;cases ei;obtain ⟨a1,a2⟩:=key j e2 hj;exact absurd (hI.inj j r _ a2 hl ej ho) a1
  ·subst e2;rw [own2] at ej; rw [own i e1] at ei;cases ej;obtain ⟨a1,a2⟩:=key i e1 hi;exact absurd (hI.inj i r _ a2 hl ei ho) a1
  ·rw [own i e1] at ei; rw [own j e2] at ej;exact hI.inj i j c (key i e1 hi).2 (key j e2 hj).2 ei ej
 ·by_cases e1:i=r2
  ·subst e1;rw [own2] at ei; cases ei;exact hI.loc r _ hl ho
  ·rw [own i e1] at ei;exact hI.loc i c (key i e1 hi).2 ei
theorem asK_ok (hS:SR N ds w0 g0 h0 st g a w) {s k:Nat} {K:St→Prop} (hk:asK st s k K):∃ st' g',SR N ds w0 g0 h0 st' g' a w∧K st':=by
 have same:K st→∃ st' g',SR N ds w0 g0 h0 st' g' a w∧K st':=fun hk=>⟨st,g,hS,hk⟩;unfold asK at hk;split at hk
 ·rename_i r n ht;have hsl:=hS.slots s;rw [ht] at hsl;split at hk
  ·rename_i sz es hr;have ho:=hS.inv.objs r;rw [hr] at ho;obtain ⟨t1,l1,al,a2⟩:=ho;have hl:(st.h r).live:=by rw [hr]; trivial
   have hval:n=es.length→a.tmps.getD s undef=g.ρ r:=fun hn=>by
    generalize a.tmps.getD s undef=x at hsl;cases hsl with
    | msl _ r n a cap hu ht hn' ha hx=>exact hx (hn.trans l1.symm)
   have fin:∀ (h' : Nat→HO) (v:AV) (g' : Gh),Inv w0 g0 h0 h' g' w→Le st.h g w h' g' w→Rep g' w (used h') v (a.tmps.getD s undef)→SR N ds w0 g0 h0 ⟨tput st.t s v,h'⟩ g' a w:=fun h' v g' i1 i2 i3=>by
    refine ⟨i1,hS.le.trans i2,hS.dfs,hS.size,fun i=>?_⟩;show Rep g' w (used h') (tput st.t s v i) _
    by_cases e:i=s
    ·subst e
     have:tput st.t i v i=v:=by unfold tput; simp
     rw [this]; exact i3
    ·have:tput st.t s v i=st.t i:=by unfold tput; simp [beq_ne e]
     rw [this]; exact (hS.slots i).le i2
   split at hk
   ·obtain ⟨hn,hk⟩:=hk;obtain ⟨g1,i1,i2,i3,i4⟩:=arr_tok hS.inv hr
    obtain ⟨k1,k2⟩:=i1.upd r .dead (g1.ρ r) (g1.ln r) (g1.tk r) (g1.own r) g1.S w none ⟨rfl,rfl,rfl,Nat.le_refl _⟩ (fun _ _ _=>rfl) (fun b e=>by cases e) (fun _ _ h=>h) (fun _ _ h=>.inl h) (fun b o e=>by cases e) (fun b hh _=>by cases hh) (by simp)
     (fun _=>⟨rfl,Nat.le_refl _,fun _=>rfl,fun _=>rfl⟩) (fun _ _=>trivial)
    exact ⟨_,_,fin _ _ _ k1 (i2.trans k2) (by rw [hval hn]; exact (i3.slice_none.up _).le k2),hk⟩
   ·rename_i k;split at hk
    ·exact same hk
    ·rename_i hb;have hne:k+1≠r:=fun e=>by rw [e] at hb; exact absurd (Nat.beq_refl r) (by rw [hb]; decide)
     split at hk
     ·rename_i hf;obtain ⟨hn,hk⟩:=hk;rcases a2 with ⟨b1,b2,b3⟩ | ⟨b,cap,E,vs,b1,b2,b3,b4,b5,b6,b7⟩
      ·subst b1;have hv:=hval hn
       obtain ⟨k1,k2⟩:=hS.inv.upd r .dead (g.ρ r) (g.ln r) (g.tk r) (g.own r) g.S w none ⟨rfl,rfl,rfl,Nat.le_refl _⟩ (fun _ _ _=>rfl) (fun b e=>by cases e) (fun _ _ h=>h) (fun _ _ h=>.inl h) (fun b o e=>by cases e) (fun b hh _=>by cases hh) (by simp)
        (fun _=>⟨rfl,Nat.le_refl _,fun _=>rfl,fun _=>rfl⟩) (fun _ _=>trivial)
       have hf1:hput st.h r .dead (k+1)=.free:=by rw [hput_ne _ _ _ _ hne]; exact hf
       obtain ⟨m1,m2⟩:=k1.upd (k+1) (.arr sz []) (.slice none 0 0) 0 true none (g.upd r (g.ρ r) (g.ln r) (g.tk r) (g.own r) g.S).S w none ⟨rfl,rfl,rfl,Nat.le_refl _⟩ (fun _ _ _=>rfl) (fun b e=>by cases e) (fun _ _ h=>h) (fun _ _ h=>.inl h) (fun b o e=>by cases e) (fun b _ e=>by cases e) (by simp)
        (fun hu=>absurd hf1 hu) (fun _ _=>by
         obtain ⟨u1,u2,u3,u4⟩:=upd_same (g.upd r (g.ρ r) (g.ln r) (g.tk r) (g.own r) g.S) (k+1) (.slice none 0 0) 0 true none (g.upd r (g.ρ r) (g.ln r) (g.tk r) (g.own r) g.S).S;exact ⟨u3,u2,by simp,.inl ⟨rfl,u1,u4⟩⟩)
       refine ⟨_,_,fin _ _ _ m1 (k2.trans m2) ?_,hk⟩;rw [hv,b2,hn];exact .msl _ (k+1) 0 none 0 (by unfold used; rw [hput_same]; simp) (by simp [Gh.upd]) (Nat.zero_le _) (.inl rfl) (fun _=>by simp [Gh.upd])
      ·have hv:=hval hn;obtain ⟨m1,m2⟩:=hS.inv.move r (k+1) hne hf hl b2 (.arr sz es) (g.ρ r) es.length true (by simp) (fun hkp=>by
        obtain ⟨u1,u2,u3,u4⟩:=upd_same g (k+1) (g.ρ r) es.length true (some b) g.S;exact ⟨u3,u2,al,.inr ⟨b,cap,E,vs,u1.trans b1,u4,b3,b4,b5,b6.mono hkp (fun _ h=>h) (fun _ h=>h.elim),b7⟩⟩)
       refine ⟨_,_,fin _ _ _ m1 m2 ?_,hk⟩;rw [hv,b1,hn];exact .msl _ (k+1) es.length _ cap (by unfold used; rw [hput_same]; simp) (by simp [Gh.upd]) (by simp [Gh.upd]) (.inr ⟨b,rfl⟩) (fun _=>by simp [Gh.upd])
     ·exact hk.elim
  ·exact same hk
 ·exact same hk
theorem azK_ok (hS:SR N ds w0 g0 h0 st g a w) {o k:Nat} {K:(Nat→HO)→Prop} (hk:azK st.h o k K):∃ h' g',SR N ds w0 g0 h0 ⟨st.t,h'⟩ g' a w∧K h':=by
 have same:K st.h→∃ h' g',SR N ds w0 g0 h0 ⟨st.t,h'⟩ g' a w∧K h':=fun hk=>⟨st.h,g,hS,hk⟩;unfold azK at hk;split at hk
 ·rename_i cs e0;split at hk
  ·rename_i r n e1;split at hk
   ·rename_i sz es e2;obtain ⟨rfl,hk⟩:=hk;have hne:o≠r:=fun e=>by rw [e,e2] at e0; cases e0
    obtain ⟨g1,i1,i2,i3,i4⟩:=arr_tok hS.inv e2;have ho:=i1.objs o;rw [hput_ne _ _ _ _ hne,e0] at ho;obtain ⟨t1,b,E,vs,a1,a2,a3,a4,a5⟩:=ho;have hl:(hput st.h r (.tok sz es.length) o).live:=by rw [hput_ne _ _ _ _ hne,e0]; trivial
    have hk0:=nthA_msl cs k _ _ e1;have hold:=hS.inv.objs o;rw [e0] at hold;obtain ⟨_,b',E',vs',a1',a2',a3',a4',_⟩:=hold
    obtain ⟨k1,k2⟩:=i1.upd o (.cells (overA cs k (.slice (.id r sz) es))) (g1.ρ o) (g1.ln o) (g1.tk o) (g1.own o) g1.S w none ⟨rfl,rfl,rfl,Nat.le_refl _⟩ (fun _ _ _=>rfl) (fun b e=>by cases e) (fun _ _ h=>h) (fun _ _ h=>.inl h)
     (fun b o e=>by cases e) (fun b' _ e=>⟨(i1.loc o b' hl e).1,.inl ⟨hl,e⟩⟩) (by simp) (fun _=>⟨rfl,Nat.le_refl _,fun _=>rfl,fun _=>rfl⟩) (fun hg hkp=>by
      obtain ⟨u1,u2,u3,u4⟩:=upd_same g1 o (g1.ρ o) (g1.ln o) (g1.tk o) (g1.own o) g1.S;have hus:∀ i,used (hput st.h r (.tok sz es.length)) i→used (hput (hput st.h r (.tok sz es.length)) o (.cells (overA cs k (.slice (.id r sz) es)))) i:=fun i hi=>used_hput (by simp) i hi;refine ⟨u3.trans t1,b,E,vs,u4.trans a1,u1.trans a2,a3,⟨by rw [overA_len]; exact a4.1,a4.2.1,fun i av x q1 q2=>?_⟩,a5⟩;rcases overA_get cs k _ i av q1 with ⟨rfl,rfl⟩ | q
      ·have hx:=a4.2.2 i _ x hk0 q2;have hx0:x=g.ρ r:=by
        have hg1:=i2.gh o (by unfold used; rw [e0]; simp);have hvs:vs=vs':=by
         have e3:g1.ρ o=g.ρ o:=hg1.2.2.1 (by
          have:=(hS.inv.objs o); rw [e0] at this; exact this.1)
         rw [a2,a2'] at e3;cases e3;rw [a3] at a3'; cases a3'; rfl
        subst hvs
        have:=a4'.2.2 i _ x hk0 q2
        cases this with
        | msl _ _ _ _ _ _ _ _ _ hz=>exact hz i4.symm
       rw [hx0];exact i3.mono hkp hus hg
      ·exact (a4.2.2 i av x q q2).mono hkp hus hg)
    exact ⟨_,_,⟨k1,hS.le.trans (i2.trans k2),hS.dfs,hS.size,fun i=>((hS.slots i).le i2).le k2⟩,hk⟩
   ·exact same hk
  ·exact same hk
 ·exact same hk
theorem akK_ok {cx:Cx} {o:Oper} {K:St→Prop} (hS:SR N ds w0 g0 h0 st g a w) (hk:akK cx o st K):∃ st' g',SR N ds w0 g0 h0 st' g' a w∧K st':=by
 have same:K st→∃ st' g',SR N ds w0 g0 h0 st' g' a w∧K st':=fun hk=>⟨st,g,hS,hk⟩;unfold akK at hk;split at hk
 ·exact same hk
 ·split at hk
  ·exact same hk
  ·rename_i s _;split at hk
   ·rename_i r n ht;split at hk
    ·rename_i sz es hr;obtain ⟨hn,hk⟩:=hk;subst hn;have hI:=hS.inv;have ho:=hI.objs r;rw [hr] at ho;obtain ⟨t1,l1,al,a2⟩:=ho;have hl:(st.h r).live:=by rw [hr]; trivial
     have hsl:=hS.slots s;rw [ht] at hsl;have hval:a.tmps.getD s undef=g.ρ r:=by
      generalize a.tmps.getD s undef=x at hsl;cases hsl with
      | msl _ r n a cap hu ht hn ha hx=>exact hx l1.symm
     have fin:∀ g',Inv w0 g0 h0 (hput st.h r (.tok sz es.length)) g' w→Le st.h g w (hput st.h r (.tok sz es.length)) g' w→Rep g' w (used (hput st.h r (.tok sz es.length))) (.slice (.id r sz) es) (g.ρ r) →
       ∃ st' g',SR N ds w0 g0 h0 st' g' a w∧K st':=fun g' i1 i2 i3=>by
      refine ⟨_,g',⟨i1,hS.le.trans i2,hS.dfs,hS.size,fun i=>?_⟩,hk⟩;show Rep g' w (used (hput st.h r (.tok sz es.length))) (tput st.t s (.slice (.id r sz) es) i) _
      by_cases e:i=s
      ·subst e
       have:tput st.t i (.slice (.id r sz) es) i=.slice (.id r sz) es:=by unfold tput; simp
       rw [this,hval]; exact i3
      ·have:tput st.t s (.slice (.id r sz) es) i=st.t i:=by unfold tput; simp [beq_ne e]
       rw [this]; exact (hS.slots i).le i2
     rcases a2 with ⟨b1,b2,b3⟩ | ⟨b,cap,E,vs,b1,b2,b3,b4,b5,b6,b7⟩
     ·subst b1
      obtain ⟨k1,k2⟩:=hI.upd r (.tok sz 0) (g.ρ r) (g.ln r) (g.tk r) (g.own r) g.S w none ⟨rfl,rfl,rfl,Nat.le_refl _⟩ (fun _ _ _=>rfl) (fun b e=>by cases e) (fun _ _ h=>h) (fun _ _ h=>.inl h)
       (fun b o e=>by cases e) (fun b' _ e=>⟨(hI.loc r b' hl e).1,.inl ⟨hl,e⟩⟩) (by simp) (fun _=>⟨rfl,Nat.le_refl _,fun _=>rfl,fun _=>rfl⟩) (fun hg hk=>by
        obtain ⟨u1,u2,u3,u4⟩:=upd_same g r (g.ρ r) (g.ln r) (g.tk r) (g.own r) g.S;exact ⟨u3.trans t1,u2.trans l1,none,0,u1.trans b2,.inl ⟨rfl,u4.trans b3⟩⟩)
      refine fin _ k1 k2 ?_;rw [b2];exact .tok _ r sz [] _ (.snil _ _ _) (by simp) (by unfold used; rw [hput_same]; simp) (by simp [Gh.upd,t1]) (by simp) (fun _=>by simp [Gh.upd])
     ·have hlt:=(hI.loc r b hl b2).1
      obtain ⟨k1,k2⟩:=hI.upd r (.tok sz es.length) (g.ρ r) (g.ln r) (g.tk r) (g.own r) (g.more b (es.length*sz)) w none ⟨rfl,rfl,rfl,Nat.le_refl _⟩ (fun _ _ _=>rfl) (fun b e=>by cases e) (fun _ _ h=>.inl h)
       (fun b' o hs=>hs.elim .inl (fun hs=>.inr ⟨by rw [hs.1]; exact hlt,.inr ⟨hl,by rw [hs.1]; exact b2⟩⟩)) (fun b o e=>by cases e) (fun b' _ e=>⟨(hI.loc r b' hl e).1,.inl ⟨hl,e⟩⟩) (by simp)
       (fun _=>⟨rfl,Nat.le_refl _,fun _=>rfl,fun _=>rfl⟩) (fun hg hk=>by
        obtain ⟨u1,u2,u3,u4⟩:=upd_same g r (g.ρ r) (g.ln r) (g.tk r) (g.own r) (g.more b (es.length*sz));exact ⟨u3.trans t1,u2.trans l1,_,cap,u1.trans b1,.inr ⟨b3,b,E,vs,0,rfl,u4.trans b2,b4,by rw [b5,Nat.zero_add],fun o ho=>by
         rcases ho with ho | ⟨_,ho⟩
         ·exact absurd ho (b7 o)
         ·omega⟩⟩)
      refine fin _ k1 k2 ?_;rw [b1];exact .tok _ r sz es _ (Rep.slice_row b4 al b3 (b6.mono k2.keeps (fun _ h=>h) (fun _ h=>h.elim)) (fun o ho=>.inr ⟨rfl,ho⟩)) al (by unfold used; rw [hput_same]; simp) (by simp [Gh.upd,t1]) (by simp [Gh.upd,l1]) (fun _=>by simp [Gh.upd])
    ·exact same hk
   ·exact same hk

variable {cx:Cx} (hP:cx.P=P) (hT:TabOk P cx.T) (hY:∀ l σ h g w,renOk σ=true→Inv w0 g0 h0 h g w→Le h0 g0 w0 h g w→cx.yp l σ (ghFwd σ g) w) {ro:Option Nat} {ops:Array Oper}
include hP hT hY

theorem aoper_ok {dr:Bool} {o:Oper} (hd:∀ i,o.dst=some i→i<N) {K:St→Prop} {next:Act→World→Prop} {Q:Exit→Act→World→Prop} (hS:SR N ds w0 g0 h0 st g a w) (hk:aoper cx dr ops.toList o st K)
  (hn:∀ st' g' a' w',K st'→SR N ds w0 g0 h0 st' g' a' w'→next a' w'):if Region.wanted o (yielded ops a.tmps) then o.wpIn (fro ro) 0 P a w next Q else next (a.put o.dst undef) w:=by
 have run:aopD cx dr o st K→o.wpIn (fro ro) 0 P a w next Q:=by
  intro hk;unfold aopD at hk;split at hk
  ·exact aop_ok hP hY hT hS hk fun v h' g' w' x q1 q2 q3 q4=>hn _ g' _ _ q1 (hS.put hd q2 q3 q4)
  ·obtain ⟨g1,hS1⟩:=preFz_ok (cx:=cx) (o:=o) hS;obtain ⟨st',g',hS',hk⟩:=akK_ok hS1 hk;exact aop_ok hP hY hT hS' hk fun v h' g' w' x q1 q2 q3 q4=>hn _ g' _ _ q1 (hS'.put hd q2 q3 q4)
 have skip:K (st.put o.dst (.v undef) st.h)→next (a.put o.dst undef) w:=fun hk=>hn _ g _ _ hk (hS.put hd hS.inv (.refl _ _ _) (.v _ _))
 unfold aoper at hk;split at hk
 ·rename_i hg;rw [if_pos (by simp [Region.wanted,hg])];exact run hk
 ·rename_i j want hg;split at hk
  ·exact hk.elim
  ·rename_i d hj;have hy:∀ x:Value,Rep g w (used st.h) (st.t d) x→x=a.tmps.getD d undef→True:=fun _ _ _=>trivial;have hs:=hS.slots d;rw [nthDst_eq] at hj;have key:∀ b:Bool,a.tmps.getD d undef=.bool b→yielded ops a.tmps j=some b:=by
    intro b hb;have hlt:d<a.tmps.size:=by
     apply Nat.lt_of_not_le;intro hge;rw [Array.getD_eq_getD_getElem?,Array.getElem?_eq_none hge] at hb;cases hb
    simp only [yielded,hj,Option.bind_some];rw [Array.getD_eq_getD_getElem?,Array.getElem?_eq_getElem hlt] at hb;rw [Array.getElem?_eq_getElem hlt];simp only [Option.getD_some] at hb;rw [hb]
   have key2:∀ t,a.tmps.getD d undef=.tuple t→yielded ops a.tmps j=none:=by
    intro t hb;simp only [yielded,hj,Option.bind_some];cases he:a.tmps[d]? with
    | none=>rfl
    | some x =>
     rw [Array.getD_eq_getD_getElem?,he] at hb;simp only [Option.getD_some] at hb;rw [hb]
   generalize hx:st.t d=x at hk hs;split at hk
   ·have:=key true hs.v_eq
    rw [if_pos (by simp [Region.wanted,hg,this])];exact run hk
   ·have:=key false hs.v_eq
    rw [if_pos (by simp [Region.wanted,hg,this])];exact run hk
   ·have:=key true hs.v_eq
    rw [if_neg (by simp [Region.wanted,hg,this])];exact skip hk
   ·have:=key false hs.v_eq
    rw [if_neg (by simp [Region.wanted,hg,this])];exact skip hk
   ·have:=key2 _ hs.v_eq
    rw [if_neg (by simp [Region.wanted,hg,this])];exact skip hk
   ·exact hk.elim

theorem aops_ok {Q:Exit→Act→World→Prop} {K:St→Prop} (hQ:∀ st' g' a' w',K st'→SR N ds w0 g0 h0 st' g' a' w'→Q .normal a' w') :
  ∀ (l:List Oper),(∀ o ∈ l,∀ i,o.dst=some i→i<N)→∀ {st:St} {g:Gh} {a:Act} {w:World},SR N ds w0 g0 h0 st g a w→aops cx ops.toList l st K→wpListIn (fro ro) 0 P ops Q l a w
 | [],_,st,g,a,w,hS,hk=>hQ st g a w hk hS
 | o :: l,hd,st,g,a,w,hS,hk=>by
  have:=aoper_ok hP hT hY (ro:=ro) (hd o (List.mem_cons_self ..)) (next:=wpListIn (fro ro) 0 P ops Q l) (Q:=Q) hS hk fun st' g' a' w' q1 q2=>aops_ok hQ l (fun o' ho'=>hd o' (List.mem_cons_of_mem _ ho')) q2 q1
  unfold wpListIn;split
  ·rename_i hw; rw [if_pos hw] at this; exact this
  ·rename_i hw; rw [if_neg hw] at this; exact ⟨fun _ _=>trivial,this⟩

theorem aAny_ok {Q:Exit→Act→World→Prop} {K:St→Prop} {FT:Nat→Foot} (hQ:∀ st' g' a' w',K st'→SR N ds w0 g0 h0 st' g' a' w'→Q .normal a' w') (hd:∀ (j:Nat) (o:Oper),ops[j]?=some o→∀ i,o.dst=some i→i<N) :
  ∀ (fuel:Nat) (listed:Array Bool) {st:St} {g:Gh} {a:Act} {w:World},SR N ds w0 g0 h0 st g a w→aAny cx ops FT K fuel listed st→wpAnyIn (fro ro) 0 P .any ops Q fuel listed a w
 | 0,_,st,g,a,w,hS,hk=>⟨hk.1,hQ st g a w hk.2 hS⟩
 | fuel+1,listed,st,g,a,w,hS,hk=>by
  refine ⟨fun h0=>hQ st g a w (hk.1 h0) hS,fun i hi=>?_⟩;have h1:=hk.2 i hi;unfold aAt at h1;unfold wpOpIn;cases ho:ops[i]? with
  | none=>rw [ho] at h1; exact aAny_ok hQ hd fuel _ hS h1
  | some o =>
   rw [ho] at h1
   have:=aoper_ok hP hT hY (ro:=ro) (hd i o ho) (next:=wpAnyIn (fro ro) 0 P .any ops Q fuel (listed.setIfInBounds i true)) (Q:=Q) hS h1.2 fun st' g' a' w' q1 q2=>aAny_ok hQ hd fuel _ q2 q1
   dsimp only;split
   ·rename_i hw; rw [if_pos hw] at this; exact this
   ·rename_i hw; rw [if_neg hw] at this; exact ⟨fun _ _=>trivial,this⟩
end
end Go.Eng
