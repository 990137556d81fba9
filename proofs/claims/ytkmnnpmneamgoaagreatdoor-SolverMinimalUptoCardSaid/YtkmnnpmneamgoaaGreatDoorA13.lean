/- Lemmas for the claims of this seat, without a condition: part 13 (EngZB, EngZC). -/
import Derived.Test.YtkmnnpmneamgoaaGreatDoorA12
namespace Go.Eng

section
variable {P:Program} {N:Nat} {ds:List Deferred} {w0:World} {g0:Gh} {h0:Nat→HO} {st:St} {g:Gh} {a:Act} {w:World}

theorem builtinK_ok {cx:Cx} (hT:TabOk P cx.T) {b:Builtin} {args:Array Operand} {tys:Array TypeId} {dst:Option Nat} {ty:Nat} {pos:String} {after:Array Edge} {gd:Option (Nat × Bool)} {K:HK} {next:Act→World→Prop} {Q:Exit→Act→World→Prop}
  (hS:SR N ds w0 g0 h0 st g a w) (hk:builtinK cx dst st.h b tys.toList (args.toList.map (ev st.t)) K)
  (hn:Goes w0 g0 h0 st.h g w K fun x w'=>next (a.put dst x) w'):Oper.wp P ⟨dst,.call ⟨.builtin b,args,tys⟩,ty,pos,after,gd⟩ a w next Q:=by
 have hI:=hS.inv;have hE:=hS.eval;obtain ⟨l⟩:=args;obtain ⟨tl⟩:=tys;unfold builtinK at hk;split at hk
 ·rename_i x t e1 e2
  match l,e1 with
  | [y],e1 =>
   simp only [List.map_cons,List.map_nil,List.cons.injEq,and_true] at e1;subst e1;simp only at e2;subst e2;exact wp_val (m:=Builtin.len_ #[t] ty #[a.eval y]) (by simp [execOp,resolve,invoke,builtin]) (Gives.does hI (lenHK_ok hT hI.objs (hE y) hk)) hn
 ·rename_i s x t t' e1 e2
  match l,e1 with
  | [y,z],e1 =>
   simp only [List.map_cons,List.map_nil,List.cons.injEq,and_true] at e1;obtain ⟨rfl,rfl⟩:=e1;simp only at e2;subst e2;split at hk
   ·rename_i ht;obtain rfl:=Nat.eq_of_beq_eq_true ht;exact wp_val (m:=Builtin.append_ #[t,t] ty #[a.eval y,a.eval z]) (by simp [execOp,resolve,invoke,builtin]) (appendK_ok hI hT (hE y) (hE z) hk) hn
   ·exact hk.elim
 ·rename_i x y tys e1
  match l,e1 with
  | [y,z],e1 =>
   simp only [List.map_cons,List.map_nil,List.cons.injEq,and_true] at e1;obtain ⟨rfl,rfl⟩:=e1;exact wp_val (m:=Builtin.max_ ⟨tl⟩ ty #[a.eval y,a.eval z]) (by simp [execOp,resolve,invoke,builtin]) (Gives.does hI (maxK_ok (hE y) (hE z) hk)) hn
 ·rename_i x y tys e1
  match l,e1 with
  | [y,z],e1 =>
   simp only [List.map_cons,List.map_nil,List.cons.injEq,and_true] at e1;obtain ⟨rfl,rfl⟩:=e1;exact wp_val (m:=Builtin.min_ ⟨tl⟩ ty #[a.eval y,a.eval z]) (by simp [execOp,resolve,invoke,builtin]) (Gives.does hI (minK_ok (hE y) (hE z) hk)) hn
 ·exact hk.elim

theorem aop_ok0 {cx:Cx} (hT:TabOk P cx.T) {dr:Bool} {o:Oper} {K:HK} {next:Act→World→Prop} {Q:Exit→Act→World→Prop} (hS:SR N ds w0 g0 h0 st g a w) (hk:aop cx dr o st K)
  (hv:∀ f args tys,o.op≠.call ⟨.value f,args,tys⟩) (hn:Goes w0 g0 h0 st.h g w K fun x w'=>next (a.put o.dst x) w'):o.wp P a w next Q:=by
 have hI:=hS.inv;have hE:=hS.eval;obtain ⟨dst,op,ty,pos,after,gd⟩:=o;unfold aop at hk;cases op with
 | move x=>exact wp_same hI (x:=a.eval x) rfl hk (hE x) hn
 | assign x =>
  obtain ⟨g',av,h',q1,q2,q3,q4⟩:=assignK_ok hI (hE x) hk;exact hn _ _ _ _ _ q1 q2 q3 q4
 | pick c x y=>exact wp_val (m:=do pure (if ← asBool (a.eval c) then a.eval x else a.eval y)) (by simp [execOp]) (Gives.does hI (pickK_ok (hE c) (hE x) (hE y) hk)) hn
 | alloc e=>exact wp_val rfl (allocK_ok hI hT hk) hn
 | box e x=>exact wp_val rfl (boxK_ok hI (hE x) hk) hn
 | build t ps=>exact wp_val rfl (Gives.does hI (buildK_ok hT hE hk)) hn
 | buildSlice t n ps=>exact wp_val rfl (buildSliceK_ok hI hT hE hk) hn
 | insert t m k x=>exact wp_unit rfl (mapUpdateK_ok hI hT (hE m) (hE k) (hE x) hk) hn
 | load t x=>exact wp_val rfl (Gives.does hI (loadHK_ok hI.objs hT (hE x) hk)) hn
 | store t p x=>exact wp_unit rfl (storeK_ok hI hT (hE p) (hE x) hk) hn
 | nilCheck x =>
  obtain ⟨h1,h2⟩:=nilCheckK_ok (P:=P) (w:=w) (hE x) hk (pos:=pos) (after:=after) (gd:=gd) (dst:=dst) (ty:=ty) (ρ:=a.eval) rfl;exact wp_same hI h1 h2 (hE x) hn
 | binOp op t x y u=>exact wp_val rfl (Gives.does hI (binK2_ok hT (hE x) (hE y) (fun v e=>by subst e; rfl) hk)) hn
 | unOp op t x=>exact wp_val rfl (Gives.does hI (unopK_ok (hE x) hk)) hn
 | convert s t x=>exact wp_val rfl (Gives.does hI (convK_ok hT (hE x) hk)) hn
 | makeFunc fn first cap=>exact wp_val rfl (Gives.does hI (makeFuncK_ok hI.objs hE hk)) hn
 | makeMap t r =>
  cases r with
  | some r=>exact hk.elim
  | none=>exact wp_val rfl (makeMapK_ok hI hk) hn
 | makeSlice t n c=>exact wp_val rfl (makeSliceK_ok hI hT (hE n) (hE c) hk) hn
 | slice t x lo hi mx =>
  cases dr with
  | true =>
   cases hp:asgO cx.pl.tok dst with
   | none =>
    have hk' : sliceK cx dst st.h t (ev st.t x) (optInt st.t lo) (optInt st.t hi) (optInt st.t mx) K:=by
     have hk2:(match asgO cx.pl.tok dst with
      | none=>sliceK cx dst st.h t (ev st.t x) (optInt st.t lo) (optInt st.t hi) (optInt st.t mx) K
      | some _=>popDK cx dst st.h t (ev st.t x) lo (optInt st.t hi) mx K):=hk
     rw [hp] at hk2; exact hk2
    exact wp_val rfl (sliceK_ok hI hT hE (hE x) hk') hn
   | some _ =>
    have hk' : popDK cx dst st.h t (ev st.t x) lo (optInt st.t hi) mx K:=by
     have hk2:(match asgO cx.pl.tok dst with
      | none=>sliceK cx dst st.h t (ev st.t x) (optInt st.t lo) (optInt st.t hi) (optInt st.t mx) K
      | some _=>popDK cx dst st.h t (ev st.t x) lo (optInt st.t hi) mx K):=hk
     rw [hp] at hk2; exact hk2
    unfold popDK at hk';split at hk'
    ·exact wp_val rfl (popK_ok hI hT hE (hE x) hk') hn
    ·exact hk'.elim
  | false =>
   cases hp:asgO cx.pl.tok dst with
   | none =>
    have hk' : sliceK cx dst st.h t (ev st.t x) (optInt st.t lo) (optInt st.t hi) (optInt st.t mx) K:=by
     have hk2:(match asgO cx.pl.tok dst with
      | none=>sliceK cx dst st.h t (ev st.t x) (optInt st.t lo) (optInt st.t hi) (optInt st.t mx) K
      | some _=>resliceK cx dst st.h t (ev st.t x) (optInt st.t lo) hi mx K):=hk
     rw [hp] at hk2; exact hk2
    exact wp_val rfl (sliceK_ok hI hT hE (hE x) hk') hn
   | some _ =>
    have hk' : resliceK cx dst st.h t (ev st.t x) (optInt st.t lo) hi mx K:=by
     have hk2:(match asgO cx.pl.tok dst with
      | none=>sliceK cx dst st.h t (ev st.t x) (optInt st.t lo) (optInt st.t hi) (optInt st.t mx) K
      | some _=>resliceK cx dst st.h t (ev st.t x) (optInt st.t lo) hi mx K):=hk
     rw [hp] at hk2; exact hk2
    exact wp_val rfl (resliceK_ok hI hT hE (hE x) hk') hn
 | fieldAddr s x f=>exact wp_val rfl (Gives.does hI (fieldK_ok hT (hE x) hk)) hn
 | field s x f=>exact wp_val rfl (Gives.does hI (fieldVK_ok hT (hE x) hk)) hn
 | indexAddr t x i=>exact wp_val rfl (Gives.does hI (indexAddrK_ok hT (hE x) (hE i) hk)) hn
 | index t x i=>exact wp_val rfl (Gives.does hI (indexK_ok hT (hE x) (hE i) hk)) hn
 | lookup t x i ok =>
  have hk:lookupK cx.T st.h t (ev st.t x) (ev st.t i) ok fun v=>K v st.h:=by
   cases dr with
   | true=>exact lookupD_K hk
   | false=>exact hk
  exact wp_val rfl (Gives.does hI (lookupK_ok hT hI.objs (hE x) (hE i) hk)) hn
 | mapUpdate t m k x=>exact wp_unit rfl (mapUpdateK_ok hI hT (hE m) (hE k) (hE x) hk) hn
 | range t x =>
  simp only at hk;split at hk
  ·rename_i kt e ht;exact wp_val rfl (rangeK_ok hI hT ht (hE x) hk) hn
  ·exact hk.elim
 | next it s =>
  cases s with
  | true=>exact hk.elim
  | false=>exact wp_val rfl (nextK_ok hI (hE it) hk) hn
 | entry it=>exact wp_val rfl (Gives.does hI (entryK_ok hI.objs (hE it) hk)) hn
 | extract x i=>exact wp_val rfl (Gives.does hI (extractK_ok (hE x) hk)) hn
 | call c =>
  obtain ⟨cal,args,tys⟩:=c;cases cal with
  | builtin b=>exact builtinK_ok hT hS hk hn
  | value f=>exact absurd rfl (hv f args tys)
  | invoke r m=>exact hk.elim
 | _=>exact hk.elim
theorem aop_ok {cx:Cx} (hP:cx.P=P) (hY:∀ l σ h g w,renOk σ=true→Inv w0 g0 h0 h g w→Le h0 g0 w0 h g w→cx.yp l σ (ghFwd σ g) w) {ro:Option Nat} (hT:TabOk P cx.T) {dr:Bool} {o:Oper} {K:HK} {next:Act→World→Prop} {Q:Exit→Act→World→Prop} (hS:SR N ds w0 g0 h0 st g a w) (hk:aop cx dr o st K)
  (hn:Goes w0 g0 h0 st.h g w K fun x w'=>next (a.put o.dst x) w'):o.wpIn (fro ro) 0 P a w next Q:=by
 by_cases hv:∃ f args tys,o.op=.call ⟨.value f,args,tys⟩
 ·obtain ⟨f,args,tys,e⟩:=hv;obtain ⟨dst,op,ty,pos,after,gd⟩:=o;cases e;exact callK_ok hP hY hS hk hn
 ·refine opIn_of (fun c e=>?_) (aop_ok0 hT hS hk (fun f args tys e=>hv ⟨f,args,tys,e⟩) hn);obtain ⟨dst,op,ty,pos,after,gd⟩:=o;cases e;exact hk.elim
theorem least {p:Nat→Prop} (h:∃ n,p n):∃ n,p n∧∀ m,m<n→¬ p m:=by
 apply Classical.byContradiction;intro hc
 have:∀ n,¬ p n:=fun n=>by
  induction n using Nat.strongRecOn with
  | _ n ih=>exact fun hp=>hc ⟨n,hp,ih⟩
 obtain ⟨n,hn⟩:=h;exact this n hn
theorem wpIn_loop_ghost {F:Fence} {m:Nat} {c:Code} {Q:Exit→Act→World→Prop} (I:Nat→Act→World→Prop) (k:Nat) (h0:I k a w)
  (round:∀ n a w,I n a w→c.wpIn F m P (Exit.then (fun a' w'=>∃ n',n' < n∧I n' a' w') Q) a w):(Code.loop c).wpIn F m P Q a w:=by
 classical
 have hex:∀ a w,(∃ n,I n a w)→∃ n,I n a w∧∀ n',n' < n→¬ I n' a w:=fun a w h=>least h;refine wpIn_loop (fun a w=>∃ n,I n a w) (fun a w=>if h:∃ n,I n a w then (hex a w h).choose else 0) ⟨k,h0⟩ fun a w h=>?_;have hs:=(hex a w h).choose_spec;refine wpIn_mono (round _ a w hs.1) fun e a' w' q=>?_;cases e with
 | normal =>
  obtain ⟨n',hlt,hn⟩:=q;have h' : ∃ n,I n a' w':=⟨n',hn⟩;refine ⟨h',?_⟩;simp only [dif_pos h,dif_pos h'];refine Nat.lt_of_le_of_lt ?_ hlt;apply Nat.le_of_not_lt;intro hc;exact (hex a' w' h').choose_spec.2 n' hc hn
 | _=>exact q
end
end Go.Eng

namespace Go.Eng

section
variable {P:Program} {N:Nat} {ds:List Deferred} {w0:World} {g0:Gh} {h0 h:Nat→HO} {st:St} {g:Gh} {a:Act} {w:World}

theorem frz1_ok (hI:Inv w0 g0 h0 h g w) (r:Nat):∃ g',Inv w0 g0 h0 (frz1 h r) g' w∧Le h g w (frz1 h r) g' w:=by
 unfold frz1;split
 ·rename_i cs e0;have ho:=hI.objs r;rw [e0] at ho;obtain ⟨t1,b,E,vs,a1,a2,a3,a4,a5⟩:=ho;have hl:(h r).live:=by rw [e0]; trivial
  have hlt:=(hI.loc r b hl a1).1;have hs:=strL_ok hI a4
  obtain ⟨k1,k2⟩:=hI.upd r (.ro (cs.map (str h))) (g.ρ r) (g.ln r) (g.tk r) none (g.more b cs.length) w none ⟨rfl,rfl,rfl,Nat.le_refl _⟩ (fun _ _ _=>rfl) (fun b e=>by cases e) (fun _ _ h=>.inl h)
   (fun b' o hs=>hs.elim .inl (fun hs=>.inr ⟨by rw [hs.1]; exact hlt,.inr ⟨hl,by rw [hs.1]; exact a1⟩⟩)) (fun b o e=>by cases e) (fun b hh _=>by cases hh) (by simp)
   (fun _=>⟨rfl,Nat.le_refl _,fun _=>rfl,fun _=>rfl⟩) (fun hg hk=>by
    obtain ⟨u1,u2,u3,u4⟩:=upd_same g r (g.ρ r) (g.ln r) (g.tk r) none (g.more b cs.length);exact ⟨u3.trans t1,b,u1.trans a2,Rep.cptr_row a3 (hs.mono hk (fun _ h=>h) (fun _ h=>h.elim)) (fun o ho=>.inr ⟨rfl,by simpa using ho⟩)⟩)
  exact ⟨_,k1,k2⟩
 ·rename_i sh kvs e0;have ho:=hI.objs r;rw [e0] at ho;obtain ⟨t1,b,es,ck,a1,a2,a3,a4,a5,a6⟩:=ho;obtain ⟨g1,i1,i2,i3⟩:=mapStill_ok hI e0 a1 a2 a3 a4 a5 t1;exact ⟨g1,i1,i2⟩
 ·rename_i sh kvs e0;have ho:=hI.objs r;rw [e0] at ho;obtain ⟨t1,b,es,ck,a1,a2,a3,a4,a5,a6⟩:=ho;obtain ⟨g1,i1,i2,i3⟩:=mapUStill_ok hI e0 a1 a2 a3 a4 a5 t1;exact ⟨g1,i1,i2⟩
 ·exact ⟨g,hI,.refl _ _ _⟩
theorem frzs_ok:∀ (l:List Nat) {h:Nat→HO} {g:Gh},Inv w0 g0 h0 h g w→∃ g',Inv w0 g0 h0 (frzs h l) g' w∧Le h g w (frzs h l) g' w
 | [],_,g,hI=>⟨g,hI,.refl _ _ _⟩
 | r :: l,_,_,hI =>
  let ⟨_,i1,i2⟩:=frz1_ok hI r
  let ⟨g2,j1,j2⟩:=frzs_ok l i1
  ⟨g2,j1,i2.trans j2⟩
theorem overA_get:∀ (cs:List AV) (k:Nat) (v:AV) (i:Nat) (av:AV),(overA cs k v)[i]?=some av→(i=k∧av=v)∨cs[i]?=some av
 | [],_,_,_,_,h=>by simp [overA] at h
 | c :: cs,0,v,i,av,h=>by
  unfold overA at h;cases i with
  | zero=>simp only [List.getElem?_cons_zero,Option.some.injEq] at h; exact .inl ⟨rfl,h.symm⟩
  | succ i=>exact .inr h
 | c :: cs,k+1,v,i,av,h=>by
  unfold overA at h;cases i with
  | zero=>exact .inr h
  | succ i =>
   rcases overA_get cs k v i av (by simpa using h) with ⟨e1,e2⟩ | e
   ·exact .inl ⟨by omega,e2⟩
   ·exact .inr (by simpa using e)
theorem overA_len:∀ (cs:List AV) (k:Nat) (v:AV),(overA cs k v).length=cs.length
 | [],_,_=>rfl
 | _ :: _,0,_=>rfl
 | _ :: cs,k+1,v=>by unfold overA; simp [overA_len cs k v]
theorem nthA_get:∀ (cs:List AV) (k:Nat) (x:Value),nthA cs k=.v x→cs[k]?=some (.v x)
 | [],_,_,h=>by simp [nthA] at h
 | _ :: _,0,_,h=>by unfold nthA at h; simp [h]
 | _ :: cs,k+1,x,h=>by unfold nthA at h; simpa using nthA_get cs k x h
theorem tz1_ok (hI:Inv w0 g0 h0 h g w) (r k j sz:Nat):∃ g',Inv w0 g0 h0 (tz1 h r k j sz) g' w∧Le h g w (tz1 h r k j sz) g' w:=by
 have same:∃ g',Inv w0 g0 h0 h g' w∧Le h g w h g' w:=⟨g,hI,.refl _ _ _⟩;unfold tz1;split
 ·rename_i cs e0;split
  ·rename_i e1;split
   ·rename_i hj;have hne:r≠j:=fun e=>by rw [e,hj] at e0; cases e0
    obtain ⟨g1,i1,i2,i3⟩:=newFull_ok hI (sz:=sz) (es:=[]) (a:=none) hj (by simp) rfl (.snil _ _ _);have ho:=i1.objs r;rw [hput_ne _ _ _ _ hne,e0] at ho;obtain ⟨t1,b,E,vs,a1,a2,a3,a4,a5⟩:=ho;have hl:(hput h j (.tok sz 0) r).live:=by rw [hput_ne _ _ _ _ hne,e0]; trivial
    have hlt:=(i1.loc r b hl a1).1;have hk0:=nthA_get cs k _ e1
    obtain ⟨k1,k2⟩:=i1.upd r (.cells (overA cs k (.slice (.id j sz) []))) (g1.ρ r) (g1.ln r) (g1.tk r) (g1.own r) g1.S w none ⟨rfl,rfl,rfl,Nat.le_refl _⟩ (fun _ _ _=>rfl) (fun b e=>by cases e) (fun _ _ h=>h) (fun _ _ h=>.inl h)
     (fun b o e=>by cases e) (fun b' _ e=>⟨(i1.loc r b' hl e).1,.inl ⟨hl,e⟩⟩) (by simp) (fun _=>⟨rfl,Nat.le_refl _,fun _=>rfl,fun _=>rfl⟩) (fun hg hk=>by
      obtain ⟨u1,u2,u3,u4⟩:=upd_same g1 r (g1.ρ r) (g1.ln r) (g1.tk r) (g1.own r) g1.S;have hus:∀ i,used (hput h j (.tok sz 0)) i→used (hput (hput h j (.tok sz 0)) r (.cells (overA cs k (.slice (.id j sz) [])))) i:=fun i hi=>used_hput (by simp) i hi;refine ⟨u3.trans t1,b,E,vs,u4.trans a1,u1.trans a2,a3,⟨by rw [overA_len]; exact a4.1,a4.2.1,fun i av x q1 q2=>?_⟩,a5⟩;rcases overA_get cs k _ i av q1 with ⟨rfl,rfl⟩ | q
      ·have:=(a4.2.2 i _ x hk0 q2).v_eq
       subst this;exact i3.mono hk hus hg
      ·exact (a4.2.2 i av x q q2).mono hk hus hg)
    exact ⟨_,k1,i2.trans k2⟩
   ·exact same
  ·exact same
 ·exact same
theorem preFz_ok {cx:Cx} {o:Oper} (hS:SR N ds w0 g0 h0 st g a w):∃ g',SR N ds w0 g0 h0 (preFz cx o st) g' a w:=by
 unfold preFz;split
 ·exact ⟨g,hS⟩
 ·rename_i d _;split
  ·obtain ⟨g',h1,h2⟩:=tz1_ok hS.inv _ _ _ _;exact ⟨g',h1,hS.le.trans h2,hS.dfs,hS.size,fun i=>(hS.slots i).le h2⟩
  split
  ·exact ⟨g,hS⟩
  ·obtain ⟨g',h1,h2⟩:=frzs_ok (asgL cx.pl.fz d) hS.inv;exact ⟨g',h1,hS.le.trans h2,hS.dfs,hS.size,fun i=>(hS.slots i).le h2⟩

theorem nthA_msl:∀ (cs:List AV) (k:Nat) (r n:Nat),nthA cs k=.msl r n→cs[k]?=some (.msl r n)
 | [],_,_,_,h=>by simp [nthA] at h
 | _ :: _,0,_,_,h=>by unfold nthA at h; simp [h]
 | _ :: cs,k+1,r,n,h=>by unfold nthA at h; simpa using nthA_msl cs k r n h
theorem arr_tok (hI:Inv w0 g0 h0 h g w) {r sz:Nat} {es:List (List AV)} (hr:h r=.arr sz es) :
  ∃ g',Inv w0 g0 h0 (hput h r (.tok sz es.length)) g' w∧Le h g w (hput h r (.tok sz es.length)) g' w∧Rep g' w (used (hput h r (.tok sz es.length))) (.slice (.id r sz) es) (g.ρ r)∧g.ln r=es.length:=by
 have ho:=hI.objs r;rw [hr] at ho;obtain ⟨t1,l1,al,a2⟩:=ho;have hl:(h r).live:=by rw [hr]; trivial
 rcases a2 with ⟨b1,b2,b3⟩ | ⟨b,cap,E,vs,b1,b2,b3,b4,b5,b6,b7⟩
 ·subst b1
  obtain ⟨k1,k2⟩:=hI.upd r (.tok sz 0) (g.ρ r) (g.ln r) (g.tk r) (g.own r) g.S w none ⟨rfl,rfl,rfl,Nat.le_refl _⟩ (fun _ _ _=>rfl) (fun b e=>by cases e) (fun _ _ h=>h) (fun _ _ h=>.inl h)
   (fun b o e=>by cases e) (fun b' _ e=>⟨(hI.loc r b' hl e).1,.inl ⟨hl,e⟩⟩) (by simp) (fun _=>⟨rfl,Nat.le_refl _,fun _=>rfl,fun _=>rfl⟩) (fun hg hk=>by
    obtain ⟨u1,u2,u3,u4⟩:=upd_same g r (g.ρ r) (g.ln r) (g.tk r) (g.own r) g.S;exact ⟨u3.trans t1,u2.trans l1,none,0,u1.trans b2,.inl ⟨rfl,u4.trans b3⟩⟩)
  refine ⟨_,k1,k2,?_,l1⟩;rw [b2];exact .tok _ r sz [] _ (.snil _ _ _) (by simp) (by unfold used; rw [List.length_nil,hput_same]; simp) (by simp [Gh.upd,t1]) (by simp) (fun _=>by simp [Gh.upd])
 ·have hlt:=(hI.loc r b hl b2).1
  obtain ⟨k1,k2⟩:=hI.upd r (.tok sz es.length) (g.ρ r) (g.ln r) (g.tk r) (g.own r) (g.more b (es.length*sz)) w none ⟨rfl,rfl,rfl,Nat.le_refl _⟩ (fun _ _ _=>rfl) (fun b e=>by cases e) (fun _ _ h=>.inl h)
   (fun b' o hs=>hs.elim .inl (fun hs=>.inr ⟨by rw [hs.1]; exact hlt,.inr ⟨hl,by rw [hs.1]; exact b2⟩⟩)) (fun b o e=>by cases e) (fun b' _ e=>⟨(hI.loc r b' hl e).1,.inl ⟨hl,e⟩⟩) (by simp)
   (fun _=>⟨rfl,Nat.le_refl _,fun _=>rfl,fun _=>rfl⟩) (fun hg hk=>by
    obtain ⟨u1,u2,u3,u4⟩:=upd_same g r (g.ρ r) (g.ln r) (g.tk r) (g.own r) (g.more b (es.length*sz));exact ⟨u3.trans t1,u2.trans l1,_,cap,u1.trans b1,.inr ⟨b3,b,E,vs,0,rfl,u4.trans b2,b4,by rw [b5,Nat.zero_add],fun o ho=>by
     rcases ho with ho | ⟨_,ho⟩
     ·exact absurd ho (b7 o)
     ·omega⟩⟩)
  refine ⟨_,k1,k2,?_,l1⟩;rw [b1];exact .tok _ r sz es _ (Rep.slice_row b4 al b3 (b6.mono k2.keeps (fun _ h=>h) (fun _ h=>h.elim)) (fun o ho=>.inr ⟨rfl,ho⟩)) al (by unfold used; rw [hput_same]; simp) (by simp [Gh.upd,t1]) (by simp [Gh.upd,l1]) (fun _=>by simp [Gh.upd])
theorem Inv.move {w0:World} {g0:Gh} {h0 h:Nat→HO} {g:Gh} {w:World} (hI:Inv w0 g0 h0 h g w) (r r2:Nat) (hne:r2≠r) (hf:h r2=.free) (hl:(h r).live) {b:Nat} (ho:g.own r=some b) (o' : HO) (x:Value) (n:Nat) (t:Bool) (hn:o'≠.free)
  (hobj:Keeps g w (g.upd r2 x n t (some b) g.S) w→ObjRep (g.upd r2 x n t (some b) g.S) w (used (hput (hput h r .dead) r2 o')) r2 o') :
  Inv w0 g0 h0 (hput (hput h r .dead) r2 o') (g.upd r2 x n t (some b) g.S) w∧Le h g w (hput (hput h r .dead) r2 o') (g.upd r2 x n t (some b) g.S) w:=by
 have hGh:GhLe g (g.upd r2 x n t (some b) g.S) (used h):=by
  intro i hi;have e:i≠r2:=fun e=>hi (by rw [e]; exact hf);refine ⟨by simp [Gh.upd,e],by simp [Gh.upd,e],fun _=>by simp [Gh.upd,e],fun _=>by simp [Gh.upd,e]⟩
 have hK:Keeps g w (g.upd r2 x n t (some b) g.S) w:=fun b o hb=>⟨hb,rfl,fun _ _ h=>h⟩;have hus:∀ i,used h i→used (hput (hput h r .dead) r2 o') i:=fun i hi=>used_hput hn i (used_hput (by simp) i hi);have key:∀ i,i≠r2→(hput (hput h r .dead) r2 o' i).live→i≠r∧(h i).live:=fun i h2 hl=>by
  rw [hput_ne _ _ _ _ h2] at hl
  by_cases e:i=r
  ·subst e; rw [hput_same] at hl; exact hl.elim
  ·rw [hput_ne _ _ _ _ e] at hl; exact ⟨e,hl⟩
 have own:∀ i,i≠r2→(g.upd r2 x n t (some b) g.S).own i=g.own i:=fun i e=>by simp [Gh.upd,e]
 have own2:(g.upd r2 x n t (some b) g.S).own r2=some b:=by simp [Gh.upd]
 refine ⟨⟨hI.os,hI.tape,hI.output,hI.size,hI.frame,hI.slt,fun i=>?_,fun i j c hi hj ei ej=>?_,fun i c hi ei=>?_,hI.sg,hI.glob.keep hK⟩,hGh,hus,hK⟩
 ·by_cases e:i=r2
  ·subst e; rw [hput_same]; exact hobj hK
  ·rw [hput_ne _ _ _ _ e]
   by_cases e1:i=r
   ·subst e1; rw [hput_same]; trivial
   ·rw [hput_ne _ _ _ _ e1];exact (hI.objs i).same hK hus hGh (by simp [Gh.upd,e]) (by simp [Gh.upd,e]) (by simp [Gh.upd,e]) (by simp [Gh.upd,e]) (fun b hl hb=>⟨rfl,fun k hk=>hk⟩)
 ·by_cases e1:i=r2 <;> by_cases e2:j=r2
  ·exact e1.trans e2.symm
  ·subst e1;rw [own2] at ei; rw [own j e2] at ej;cases ei;obtain ⟨a1,a2⟩:=key j e2 hj;exact absurd (hI.inj j r _ a2 hl ej ho) a1
  ·subst e2;rw [own2] at ej; rw [own i e1] at ei;cases ej;obtain ⟨a1,a2⟩:=key i e1 hi;exact absurd (hI.inj i r _ a2 hl ei ho) a1
  ·rw [own i e1] at ei; rw [own j e2] at ej;exact hI.inj i j c (key i e1 hi).2 (key j e2 hj).2 ei ej
 ·by_cases e1:i=r2
  ·subst e1;rw [own2] at ei; cases ei;exact hI.loc r _ hl ho
  ·rw [own i e1] at ei;exact hI.loc i c (key i e1 hi).2 ei
theorem asK_ok (hS:SR N ds w0 g0 h0 st g a w) {s k:Nat} {K:St→Prop} (hk:asK st s k K):∃ st' g',SR N ds w0 g0 h0 st' g' a w∧K st':=by
 have same:K st→∃ st' g',SR N ds w0 g0 h0 st' g' a w∧K st':=fun hk=>⟨st,g,hS,hk⟩;unfold asK at hk;split at hk
 ·rename_i r n ht;have hsl:=hS.slots s;rw [ht] at hsl;split at hk
  ·rename_i sz es hr;have ho:=hS.inv.objs r;rw [hr] at ho;obtain ⟨t1,l1,al,a2⟩:=ho;have hl:(st.h r).live:=by rw [hr]; trivial
   have hval:n=es.length→a.tmps.getD s undef=g.ρ r:=fun hn=>by
    generalize a.tmps.getD s undef=x at hsl;cases hsl with
    | msl _ r n a cap hu ht hn' ha hx=>exact hx (hn.trans l1.symm)
   have fin:∀ (h' : Nat→HO) (v:AV) (g' : Gh),Inv w0 g0 h0 h' g' w→Le st.h g w h' g' w→Rep g' w (used h') v (a.tmps.getD s undef)→SR N ds w0 g0 h0 ⟨tput st.t s v,h'⟩ g' a w:=fun h' v g' i1 i2 i3=>by
    refine ⟨i1,hS.le.trans i2,hS.dfs,hS.size,fun i=>?_⟩;show Rep g' w (used h') (tput st.t s v i) _
    by_cases e:i=s
    ·subst e
     have:tput st.t i v i=v:=by unfold tput; simp
     rw [this]; exact i3
    ·have:tput st.t s v i=st.t i:=by unfold tput; simp [beq_ne e]
     rw [this]; exact (hS.slots i).le i2
   split at hk
   ·obtain ⟨hn,hk⟩:=hk;obtain ⟨g1,i1,i2,i3,i4⟩:=arr_tok hS.inv hr
    obtain ⟨k1,k2⟩:=i1.upd r .dead (g1.ρ r) (g1.ln r) (g1.tk r) (g1.own r) g1.S w none ⟨rfl,rfl,rfl,Nat.le_refl _⟩ (fun _ _ _=>rfl) (fun b e=>by cases e) (fun _ _ h=>h) (fun _ _ h=>.inl h) (fun b o e=>by cases e) (fun b hh _=>by cases hh) (by simp)
     (fun _=>⟨rfl,Nat.le_refl _,fun _=>rfl,fun _=>rfl⟩) (fun _ _=>trivial)
    exact ⟨_,_,fin _ _ _ k1 (i2.trans k2) (by rw [hval hn]; exact (i3.slice_none.up _).le k2),hk⟩
   ·rename_i k;split at hk
    ·exact same hk
    ·rename_i hb;have hne:k+1≠r:=fun e=>by rw [e] at hb; exact absurd (Nat.beq_refl r) (by rw [hb]; decide)
     split at hk
     ·rename_i hf;obtain ⟨hn,hk⟩:=hk;rcases a2 with ⟨b1,b2,b3⟩ | ⟨b,cap,E,vs,b1,b2,b3,b4,b5,b6,b7⟩
      ·subst b1;have hv:=hval hn
       obtain ⟨k1,k2⟩:=hS.inv.upd r .dead (g.ρ r) (g.ln r) (g.tk r) (g.own r) g.S w none ⟨rfl,rfl,rfl,Nat.le_refl _⟩ (fun _ _ _=>rfl) (fun b e=>by cases e) (fun _ _ h=>h) (fun _ _ h=>.inl h) (fun b o e=>by cases e) (fun b hh _=>by cases hh) (by simp)
        (fun _=>⟨rfl,Nat.le_refl _,fun _=>rfl,fun _=>rfl⟩) (fun _ _=>trivial)
       have hf1:hput st.h r .dead (k+1)=.free:=by rw [hput_ne _ _ _ _ hne]; exact hf
       obtain ⟨m1,m2⟩:=k1.upd (k+1) (.arr sz []) (.slice none 0 0) 0 true none (g.upd r (g.ρ r) (g.ln r) (g.tk r) (g.own r) g.S).S w none ⟨rfl,rfl,rfl,Nat.le_refl _⟩ (fun _ _ _=>rfl) (fun b e=>by cases e) (fun _ _ h=>h) (fun _ _ h=>.inl h) (fun b o e=>by cases e) (fun b _ e=>by cases e) (by simp)
        (fun hu=>absurd hf1 hu) (fun _ _=>by
         obtain ⟨u1,u2,u3,u4⟩:=upd_same (g.upd r (g.ρ r) (g.ln r) (g.tk r) (g.own r) g.S) (k+1) (.slice none 0 0) 0 true none (g.upd r (g.ρ r) (g.ln r) (g.tk r) (g.own r) g.S).S;exact ⟨u3,u2,by simp,.inl ⟨rfl,u1,u4⟩⟩)
       refine ⟨_,_,fin _ _ _ m1 (k2.trans m2) ?_,hk⟩;rw [hv,b2,hn];exact .msl _ (k+1) 0 none 0 (by unfold used; rw [hput_same]; simp) (by simp [Gh.upd]) (Nat.zero_le _) (.inl rfl) (fun _=>by simp [Gh.upd])
      ·have hv:=hval hn;obtain ⟨m1,m2⟩:=hS.inv.move r (k+1) hne hf hl b2 (.arr sz es) (g.ρ r) es.length true (by simp) (fun hkp=>by
        obtain ⟨u1,u2,u3,u4⟩:=upd_same g (k+1) (g.ρ r) es.length true (some b) g.S;exact ⟨u3,u2,al,.inr ⟨b,cap,E,vs,u1.trans b1,u4,b3,b4,b5,b6.mono hkp (fun _ h=>h) (fun _ h=>h.elim),b7⟩⟩)
       refine ⟨_,_,fin _ _ _ m1 m2 ?_,hk⟩;rw [hv,b1,hn];exact .msl _ (k+1) es.length _ cap (by unfold used; rw [hput_same]; simp) (by simp [Gh.upd]) (by simp [Gh.upd]) (.inr ⟨b,rfl⟩) (fun _=>by simp [Gh.upd])
     ·exact hk.elim
  ·exact same hk
 ·exact same hk
theorem amK_ok (hS:SR N ds w0 g0 h0 st g a w) {o k j:Nat} {K:(Nat→HO)→Prop} (hk:amK st.h o k j K):∃ h' g',SR N ds w0 g0 h0 ⟨st.t,h'⟩ g' a w∧K h':=by
 unfold amK at hk;split at hk
 ·rename_i cs e0;split at hk
  ·rename_i r n e1;split at hk
   ·rename_i sz es e2;split at hk
    ·rename_i hf;obtain ⟨hn,hk⟩:=hk;have ho:=hS.inv.objs r;rw [e2] at ho;obtain ⟨t1,l1,al,a2⟩:=ho;have hl:(st.h r).live:=by rw [e2]; trivial
     have hne:j≠r:=fun e=>by rw [e,e2] at hf; cases hf
     have hor:o≠r:=fun e=>by rw [e,e2] at e0; cases e0
     have hoj:o≠j:=fun e=>by rw [e,hf] at e0; cases e0
     -- the array goes to the new id,which stands for the same slice
     have step:∃ g1,Inv w0 g0 h0 (hput (hput st.h r .dead) j (.arr sz es)) g1 w∧Le st.h g w (hput (hput st.h r .dead) j (.arr sz es)) g1 w∧g1.tk j=true∧g1.ln j=es.length∧g1.ρ j=g.ρ r:=by
      rcases a2 with ⟨b1,b2,b3⟩ | ⟨b,cap,E,vs,b1,b2,b3,b4,b5,b6,b7⟩
      ·subst b1
       obtain ⟨k1,k2⟩:=hS.inv.upd r .dead (g.ρ r) (g.ln r) (g.tk r) (g.own r) g.S w none ⟨rfl,rfl,rfl,Nat.le_refl _⟩ (fun _ _ _=>rfl) (fun b e=>by cases e) (fun _ _ h=>h) (fun _ _ h=>.inl h) (fun b o e=>by cases e) (fun b hh _=>by cases hh) (by simp)
        (fun _=>⟨rfl,Nat.le_refl _,fun _=>rfl,fun _=>rfl⟩) (fun _ _=>trivial)
       have hf1:hput st.h r .dead j=.free:=by rw [hput_ne _ _ _ _ hne]; exact hf
       obtain ⟨m1,m2⟩:=k1.upd j (.arr sz []) (.slice none 0 0) 0 true none (g.upd r (g.ρ r) (g.ln r) (g.tk r) (g.own r) g.S).S w none ⟨rfl,rfl,rfl,Nat.le_refl _⟩ (fun _ _ _=>rfl) (fun b e=>by cases e) (fun _ _ h=>h) (fun _ _ h=>.inl h) (fun b o e=>by cases e) (fun b _ e=>by cases e) (by simp)
        (fun hu=>absurd hf1 hu) (fun _ _=>by
         obtain ⟨u1,u2,u3,u4⟩:=upd_same (g.upd r (g.ρ r) (g.ln r) (g.tk r) (g.own r) g.S) j (.slice none 0 0) 0 true none (g.upd r (g.ρ r) (g.ln r) (g.tk r) (g.own r) g.S).S;exact ⟨u3,u2,by simp,.inl ⟨rfl,u1,u4⟩⟩)
       exact ⟨_,m1,k2.trans m2,by simp [Gh.upd],by simp [Gh.upd],by simp [Gh.upd,b2]⟩
      ·obtain ⟨m1,m2⟩:=hS.inv.move r j hne hf hl b2 (.arr sz es) (g.ρ r) es.length true (by simp) (fun hkp=>by
        obtain ⟨u1,u2,u3,u4⟩:=upd_same g j (g.ρ r) es.length true (some b) g.S;exact ⟨u3,u2,al,.inr ⟨b,cap,E,vs,u1.trans b1,u4,b3,b4,b5,b6.mono hkp (fun _ h=>h) (fun _ h=>h.elim),b7⟩⟩)
       exact ⟨_,m1,m2,by simp [Gh.upd],by simp [Gh.upd],by simp [Gh.upd]⟩
     obtain ⟨g1,i1,i2,j1,j2,j3⟩:=step
     -- the cell
     have ho:=hS.inv.objs o;rw [e0] at ho;have ho1:=i1.objs o;rw [hput_ne _ _ _ _ hoj,hput_ne _ _ _ _ hor,e0] at ho1;obtain ⟨t2,b,E,vs,c1,c2,c3,c4,c5⟩:=ho1;obtain ⟨_,b',E',vs',c1',c2',c3',c4',_⟩:=ho;have hb:b'=b:=by
      have h2:=i2.gh o (by unfold used; rw [e0]; simp);have h3:=h2.2.2.1 (by assumption);rw [h3,c2'] at c2; cases c2; rfl
     subst hb;rw [c3] at c3'; cases c3';have hl2:(hput (hput st.h r .dead) j (.arr sz es) o).live:=by rw [hput_ne _ _ _ _ hoj,hput_ne _ _ _ _ hor,e0]; trivial
     have hk0:=nthA_msl cs k _ _ e1
     obtain ⟨k1,k2⟩:=i1.upd o (.cells (overA cs k (.msl j n))) (g1.ρ o) (g1.ln o) (g1.tk o) (g1.own o) g1.S w none ⟨rfl,rfl,rfl,Nat.le_refl _⟩ (fun _ _ _=>rfl) (fun b e=>by cases e) (fun _ _ h=>h) (fun _ _ h=>.inl h)
      (fun b o e=>by cases e) (fun b' _ e=>⟨(i1.loc o b' hl2 e).1,.inl ⟨hl2,e⟩⟩) (by simp) (fun _=>⟨rfl,Nat.le_refl _,fun _=>rfl,fun _=>rfl⟩) (fun hg hkk=>by
       obtain ⟨u1,u2,u3,u4⟩:=upd_same g1 o (g1.ρ o) (g1.ln o) (g1.tk o) (g1.own o) g1.S;have hus:∀ i,used (hput (hput st.h r .dead) j (.arr sz es)) i→used (hput (hput (hput st.h r .dead) j (.arr sz es)) o (.cells (overA cs k (.msl j n)))) i:=fun i hi=>used_hput (by simp) i hi;refine ⟨u3.trans t2,_,E,vs,u4.trans c1,u1.trans c2,c3,⟨by rw [overA_len]; exact c4.1,c4.2.1,fun i av x q1 q2=>?_⟩,c5⟩;rcases overA_get cs k _ i av q1 with ⟨rfl,rfl⟩ | q
       ·have hx:=c4'.2.2 i _ x hk0 q2;have hm:Rep g1 w (used (hput (hput st.h r .dead) j (.arr sz es))) (.msl j n) x:=by
         cases hx with
         | msl _ _ _ a cap hu ht' hn' ha hx' =>
         refine .msl _ _ _ _ _ (by unfold used; rw [hput_same]; simp) j1 (by omega) ha (fun e=>?_);rw [j3];exact hx' (hn.trans l1.symm)
        exact hm.mono hkk hus hg
       ·exact (c4.2.2 i av x q q2).mono hkk hus hg)
     exact ⟨_,_,⟨k1,hS.le.trans (i2.trans k2),hS.dfs,hS.size,fun i=>(hS.slots i).le (i2.trans k2)⟩,hk⟩
    ·exact hk.elim
   ·exact hk.elim
  ·exact hk.elim
 ·exact hk.elim
theorem cell_ok {h:Nat→HO} (hI:Inv w0 g0 h0 h g w) {o k:Nat} {cs:List AV} (e0:h o=.cells cs) {old new:AV} (hk:cs[k]?=some old) (hrep:∀ x:Value,Rep g w (used h) old x→Rep g w (used h) new x) :
  ∃ g',Inv w0 g0 h0 (hput h o (.cells (overA cs k new))) g' w∧Le h g w (hput h o (.cells (overA cs k new))) g' w:=by
 have ho:=hI.objs o;rw [e0] at ho;obtain ⟨t1,b,E,vs,a1,a2,a3,a4,a5⟩:=ho;have hl:(h o).live:=by rw [e0]; trivial
 obtain ⟨k1,k2⟩:=hI.upd o (.cells (overA cs k new)) (g.ρ o) (g.ln o) (g.tk o) (g.own o) g.S w none ⟨rfl,rfl,rfl,Nat.le_refl _⟩ (fun _ _ _=>rfl) (fun b e=>by cases e) (fun _ _ h=>h) (fun _ _ h=>.inl h)
  (fun b o e=>by cases e) (fun b' _ e=>⟨(hI.loc o b' hl e).1,.inl ⟨hl,e⟩⟩) (by simp) (fun _=>⟨rfl,Nat.le_refl _,fun _=>rfl,fun _=>rfl⟩) (fun hg hkk=>by
   obtain ⟨u1,u2,u3,u4⟩:=upd_same g o (g.ρ o) (g.ln o) (g.tk o) (g.own o) g.S;have hus:∀ i,used h i→used (hput h o (.cells (overA cs k new))) i:=fun i hi=>used_hput (by simp) i hi;refine ⟨u3.trans t1,b,E,vs,u4.trans a1,u1.trans a2,a3,⟨by rw [overA_len]; exact a4.1,a4.2.1,fun i av x q1 q2=>?_⟩,a5⟩;rcases overA_get cs k _ i av q1 with ⟨rfl,rfl⟩ | q
   ·exact (hrep x (a4.2.2 i _ x hk q2)).mono hkk hus hg
   ·exact (a4.2.2 i av x q q2).mono hkk hus hg)
 exact ⟨_,k1,k2⟩
theorem nthA_some:∀ (cs:List AV) (k:Nat) (a:AV),nthA cs k=a→a≠.junk→cs[k]?=some a
 | [],_,a,h,hn=>by simp only [nthA] at h; exact absurd h.symm hn
 | _ :: _,0,_,h,_=>by unfold nthA at h; simp [h]
 | _ :: cs,k+1,a,h,hn=>by unfold nthA at h; simpa using nthA_some cs k a h hn
theorem Inv.moveV {h:Nat→HO} (hI:Inv w0 g0 h0 h g w) (r r2 v:Nat) (hne:r2≠r) (hf:h r2=.vox v) (hl:(h r).live) (o' : HO) (x:Value) (n:Nat) (hv:v<n) (hn:o'≠.free)
  (hobj:Keeps g w (g.upd r2 x n true (g.own r) g.S) w→ObjRep (g.upd r2 x n true (g.own r) g.S) w (used (hput (hput h r .dead) r2 o')) r2 o') :
  Inv w0 g0 h0 (hput (hput h r .dead) r2 o') (g.upd r2 x n true (g.own r) g.S) w∧Le h g w (hput (hput h r .dead) r2 o') (g.upd r2 x n true (g.own r) g.S) w:=by
 have hr2:=hI.objs r2;rw [hf] at hr2;obtain ⟨ht2,hl2⟩:=hr2;have hGh:GhLe g (g.upd r2 x n true (g.own r) g.S) (used h):=by
  intro i hi
  by_cases e:i=r2
  ·subst e;refine ⟨by simp [Gh.upd,ht2],by simp [Gh.upd]; omega,fun e=>(by rw [ht2] at e; cases e),fun e=>?_⟩;simp [Gh.upd] at e; omega
  ·exact ⟨by simp [Gh.upd,e],by simp [Gh.upd,e],fun _=>by simp [Gh.upd,e],fun _=>by simp [Gh.upd,e]⟩
 have hK:Keeps g w (g.upd r2 x n true (g.own r) g.S) w:=fun b o hb=>⟨hb,rfl,fun _ _ h=>h⟩;have hus:∀ i,used h i→used (hput (hput h r .dead) r2 o') i:=fun i hi=>used_hput hn i (used_hput (by simp) i hi);have key:∀ i,i≠r2→(hput (hput h r .dead) r2 o' i).live→i≠r∧(h i).live:=fun i h2 hl=>by
  rw [hput_ne _ _ _ _ h2] at hl
  by_cases e:i=r
  ·subst e; rw [hput_same] at hl; exact hl.elim
  ·rw [hput_ne _ _ _ _ e] at hl; exact ⟨e,hl⟩
 have own:∀ i,i≠r2→(g.upd r2 x n true (g.own r) g.S).own i=g.own i:=fun i e=>by simp [Gh.upd,e]
 have own2:(g.upd r2 x n true (g.own r) g.S).own r2=g.own r:=by simp [Gh.upd]
 refine ⟨⟨hI.os,hI.tape,hI.output,hI.size,hI.frame,hI.slt,fun i=>?_,fun i j c hi hj ei ej=>?_,fun i c hi ei=>?_,hI.sg,hI.glob.keep hK⟩,hGh,hus,hK⟩
 ·by_cases e:i=r2
  ·subst e; rw [hput_same]; exact hobj hK
  ·rw [hput_ne _ _ _ _ e]
   by_cases e1:i=r
   ·subst e1; rw [hput_same]; trivial
   ·rw [hput_ne _ _ _ _ e1];exact (hI.objs i).same hK hus hGh (by simp [Gh.upd,e]) (by simp [Gh.upd,e]) (by simp [Gh.upd,e]) (by simp [Gh.upd,e]) (fun b hl hb=>⟨rfl,fun k hk=>hk⟩)
 ·by_cases e1:i=r2 <;> by_cases e2:j=r2
  ·exact e1.trans e2.symm
  ·subst e1;rw [own2] at ei; rw [own j e2] at ej;obtain ⟨a1,a2⟩:=key j e2 hj;exact absurd (hI.inj j r _ a2 hl ej ei) a1
  ·subst e2;rw [own2] at ej; rw [own i e1] at ei;obtain ⟨a1,a2⟩:=key i e1 hi;exact absurd (hI.inj i r _ a2 hl ei ej) a1
  ·rw [own i e1] at ei; rw [own j e2] at ej;exact hI.inj i j c (key i e1 hi).2 (key j e2 hj).2 ei ej
 ·by_cases e1:i=r2
  ·subst e1;rw [own2] at ei;exact hI.loc r _ hl ei
  ·rw [own i e1] at ei;exact hI.loc i c (key i e1 hi).2 ei
theorem uvK_ok (hS:SR N ds w0 g0 h0 st g a w) {o k d:Nat} {K:(Nat→HO)→Prop} (hk:uvK st.h o k d K):∃ h' g',SR N ds w0 g0 h0 ⟨st.t,h'⟩ g' a w∧K h':=by
 unfold uvK at hk;split at hk
 ·rename_i cs e0;split at hk
  ·rename_i r sz v es e1;split at hk
   ·rename_i sz' v' n e2;split at hk
    ·rename_i hf;obtain ⟨⟨rfl,rfl⟩,hk⟩:=hk;have ho:=hS.inv.objs r;rw [e2] at ho;obtain ⟨t1,l1,a0,cap,r1,a2⟩:=ho;have hl:(st.h r).live:=by rw [e2]; trivial
     have hne:d≠r:=fun e=>by rw [e,e2] at hf; cases hf
     have hor:o≠r:=fun e=>by rw [e,e2] at e0; cases e0
     have hod:o≠d:=fun e=>by rw [e,hf] at e0; cases e0
     have hk0:=nthA_some cs k _ e1 (by simp)
     -- the value that stands in the cell
     have hoc:=hS.inv.objs o;rw [e0] at hoc;obtain ⟨_,b',E',vs',c1,c2,c3,c4,_⟩:=hoc;obtain ⟨x,hx1,_,hx2⟩:=c4.at hk0;have hxr:x=.slice a0 n cap∧es.length=n∧Rep g w NoU (.slice .none es) x∧∀ c ∈ es,c.length=sz:=by
      have h3:=hx2.slice_none;cases hx2 with
      | ver _ _ _ _ _ _ h hls hu ht hn hx =>
       have:=hx l1.symm
       rw [r1] at this;subst this;refine ⟨rfl,?_,h3,hls⟩;cases h3 with
       | snil=>rfl
       | slice=>rfl
     obtain ⟨hxe,hn,hx3,hls⟩:=hxr;subst hn;obtain ⟨m1,m2⟩:=hS.inv.moveO r d hne hf hl (ob:=g.own r) (fun c h=>h) (.tok sz es.length) (.slice a0 es.length cap) es.length true (by simp) (fun hkp=>by
      obtain ⟨u1,u2,u3,u4⟩:=upd_same g d (.slice a0 es.length cap) es.length true (g.own r) g.S;refine ⟨u3,u2,a0,cap,u1,?_⟩;rw [u4]; exact a2)
     generalize hg1:g.upd d (.slice a0 es.length cap) es.length true (g.own r) g.S=g1 at m1 m2;have gr:g1.tk r=true∧g1.ln r=v:=by rw [← hg1]; simp [Gh.upd,Ne.symm hne,t1,l1]
     have gd:g1.tk d=true∧g1.ln d=es.length∧g1.ρ d=.slice a0 es.length cap:=by rw [← hg1]; simp [Gh.upd]
     -- the id keeps its version
     have hrd:(hput (hput st.h r .dead) d (.tok sz es.length)) r=.dead:=by rw [hput_ne _ _ _ _ (Ne.symm hne),hput_same]
     obtain ⟨n1,n2⟩:=m1.upd r (.vox v) (g1.ρ r) (g1.ln r) (g1.tk r) (g1.own r) g1.S w none ⟨rfl,rfl,rfl,Nat.le_refl _⟩ (fun _ _ _=>rfl) (fun b e=>by cases e) (fun _ _ h=>h) (fun _ _ h=>.inl h) (fun b o e=>by cases e) (fun b hh _=>by cases hh) (by simp)
      (fun _=>⟨rfl,Nat.le_refl _,fun _=>rfl,fun _=>rfl⟩) (fun _ _=>by
       obtain ⟨u1,u2,u3,u4⟩:=upd_same g1 r (g1.ρ r) (g1.ln r) (g1.tk r) (g1.own r) g1.S;exact ⟨u3.trans gr.1,u2.trans gr.2⟩)
     have hh:hput (hput (hput st.h r .dead) d (.tok sz es.length)) r (.vox v)=hput (hput st.h r (.vox v)) d (.tok sz es.length):=by
      funext i
      unfold hput
      by_cases e:i=r
      ·subst e; rw [Nat.beq_refl,beq_ne (Ne.symm hne)]; rfl
      ·rw [beq_ne e]; rfl
     rw [hh] at n1 n2;generalize hg2:g1.upd r (g1.ρ r) (g1.ln r) (g1.tk r) (g1.own r) g1.S=g2 at n1 n2;have gd2:g2.tk d=true∧g2.ln d=es.length∧g2.ρ d=.slice a0 es.length cap:=by rw [← hg2]; simp [Gh.upd,hne,gd]
     have e0' : (hput (hput st.h r (.vox v)) d (.tok sz es.length)) o=.cells cs:=by rw [hput_ne _ _ _ _ hod,hput_ne _ _ _ _ hor,e0]
     have L2:=m2.trans n2;have hor2:g2.ρ o=g.ρ o:=(L2.gh o (by unfold used; rw [e0]; simp)).2.2.1 (by assumption);obtain ⟨g3,p1,p2⟩:=cell_ok n1 e0' hk0 (new:=.slice (.id d sz) es) (fun y hy=>by
      have h3:=hy.slice_none;have gr2:g2.ln r=v∧g2.ρ r=.slice a0 es.length cap:=by rw [← hg2,← hg1]; simp [Gh.upd,Ne.symm hne,l1,r1]
      have hyv:y=.slice a0 es.length cap:=by
       cases hy with
       | ver _ _ _ _ _ _ h hls hu ht hn hx=>exact (hx gr2.1.symm).trans gr2.2
      subst hyv;exact .tok _ d sz es _ (h3.up _) hls (by unfold used; rw [hput_same]; simp) gd2.1 (by rw [gd2.2.1]; exact Nat.le_refl _) (fun _=>gd2.2.2.symm))
     exact ⟨_,g3,⟨p1,hS.le.trans (L2.trans p2),hS.dfs,hS.size,fun i=>(hS.slots i).le (L2.trans p2)⟩,hk⟩
    ·exact hk.elim
   ·exact hk.elim
  ·exact ⟨_,g,hS,hk⟩
 ·exact hk.elim
theorem rvK_ok (hS:SR N ds w0 g0 h0 st g a w) {o k r:Nat} {K:(Nat→HO)→Prop} (hk:rvK st.h o k r K):∃ h' g',SR N ds w0 g0 h0 ⟨st.t,h'⟩ g' a w∧K h':=by
 unfold rvK at hk;split at hk
 ·rename_i cs e0;split at hk
  ·rename_i d sz es e1;split at hk
   ·rename_i sz' n e2;split at hk
    ·rename_i v hf;obtain ⟨⟨hn,rfl⟩,hk⟩:=hk;subst hn;have ho:=hS.inv.objs d;rw [e2] at ho;obtain ⟨t1,l1,a0,cap,r1,a2⟩:=ho;have hl:(st.h d).live:=by rw [e2]; trivial
     have hne:r≠d:=fun e=>by rw [e,e2] at hf; cases hf
     have hod:o≠d:=fun e=>by rw [e,e2] at e0; cases e0
     have hor:o≠r:=fun e=>by rw [e,hf] at e0; cases e0
     have hk0:=nthA_some cs k _ e1 (by simp);obtain ⟨m1,m2⟩:=hS.inv.moveV d r v hne hf hl (.var sz (v+1) es.length) (.slice a0 es.length cap) (v+1) (Nat.lt_succ_self v) (by simp) (fun hkp=>by
      obtain ⟨u1,u2,u3,u4⟩:=upd_same g r (.slice a0 es.length cap) (v+1) true (g.own d) g.S;refine ⟨u3,u2,a0,cap,u1,?_⟩;rw [u4]; exact a2)
     generalize hg1:g.upd r (.slice a0 es.length cap) (v+1) true (g.own d) g.S=g1 at m1 m2;have gr:g1.tk r=true∧g1.ln r=v+1∧g1.ρ r=.slice a0 es.length cap:=by rw [← hg1]; simp [Gh.upd]
     have gd:g1.ln d=es.length∧g1.ρ d=.slice a0 es.length cap:=by rw [← hg1]; simp [Gh.upd,Ne.symm hne,l1,r1]
     have e0' : (hput (hput st.h d .dead) r (.var sz (v+1) es.length)) o=.cells cs:=by rw [hput_ne _ _ _ _ hor,hput_ne _ _ _ _ hod,e0]
     obtain ⟨g3,p1,p2⟩:=cell_ok m1 e0' hk0 (new:=.slice (.ver r sz (v+1)) es) (fun y hy=>by
      have h3:=hy.slice_none;have hyv:y=.slice a0 es.length cap∧∀ c ∈ es,c.length=sz:=by
       cases hy with
       | tok _ _ _ _ _ h hls hu ht hn hx=>exact ⟨(hx gd.1.symm).trans gd.2,hls⟩
      obtain ⟨hyv,hls⟩:=hyv;subst hyv;exact .ver _ r sz (v+1) es _ (h3.up _) hls (by unfold used; rw [hput_same]; simp) gr.1 (by rw [gr.2.1]; exact Nat.le_refl _) (fun _=>gr.2.2.symm))
     exact ⟨_,g3,⟨p1,hS.le.trans (m2.trans p2),hS.dfs,hS.size,fun i=>(hS.slots i).le (m2.trans p2)⟩,hk⟩
    ·exact hk.elim
   ·exact hk.elim
  ·exact ⟨_,g,hS,hk⟩
 ·exact hk.elim
theorem nvK_ok (hS:SR N ds w0 g0 h0 st g a w) {r:Nat} {K:(Nat→HO)→Prop} (hk:nvK st.h r K):∃ h' g',SR N ds w0 g0 h0 ⟨st.t,h'⟩ g' a w∧K h':=by
 unfold nvK at hk;split at hk
 ·rename_i hf
  obtain ⟨m1,m2⟩:=hS.inv.upd r (.vox 0) (.slice none 0 0) 0 true none g.S w none ⟨rfl,rfl,rfl,Nat.le_refl _⟩ (fun _ _ _=>rfl) (fun b e=>by cases e) (fun _ _ h=>h) (fun _ _ h=>.inl h) (fun b o e=>by cases e) (fun b hh _=>by cases hh) (by simp)
   (fun hu=>absurd hf hu) (fun _ _=>by
    obtain ⟨u1,u2,u3,u4⟩:=upd_same g r (.slice none 0 0) 0 true none g.S;exact ⟨u3,u2⟩)
  exact ⟨_,_,⟨m1,hS.le.trans m2,hS.dfs,hS.size,fun i=>(hS.slots i).le m2⟩,hk⟩
 ·exact hk.elim
theorem rmK_ok (hS:SR N ds w0 g0 h0 st g a w) {o k:Nat} {K:(Nat→HO)→Prop} (hk:rmK st.h o k K):∃ h' g',SR N ds w0 g0 h0 ⟨st.t,h'⟩ g' a w∧K h':=by
 unfold rmK at hk;split at hk
 ·rename_i cs e0;split at hk
  ·rename_i r e1;split at hk
   ·rename_i sh kvs e2;have hk0:=nthA_some cs k _ e1 (by simp);obtain ⟨g3,p1,p2⟩:=cell_ok hS.inv e0 hk0 (new:=.cmap sh kvs) (fun y hy=>by
     have e3:rsv st.h (.mref r)=.cmap sh kvs:=by
      show (match st.h r with | .rom sh kvs=>AV.cmap sh kvs | _=>.mref r)=_;rw [e2]
     rw [← e3];exact Rep.rsv hS.inv.objs hy)
    exact ⟨_,g3,⟨p1,hS.le.trans p2,hS.dfs,hS.size,fun i=>(hS.slots i).le p2⟩,hk⟩
   ·exact hk.elim
  ·exact hk.elim
 ·exact hk.elim
theorem zaK_ok (hS:SR N ds w0 g0 h0 st g a w) {o k j sz:Nat} {K:(Nat→HO)→Prop} (hk:zaK st.h o k j sz K):∃ h' g',SR N ds w0 g0 h0 ⟨st.t,h'⟩ g' a w∧K h':=by
 unfold zaK at hk;split at hk
 ·rename_i cs e0;split at hk
  ·rename_i e1;split at hk
   ·rename_i hf;have hor:o≠j:=fun e=>by rw [e,hf] at e0; cases e0
    have hk0:=nthA_some cs k _ e1 (by simp)
    obtain ⟨m1,m2⟩:=hS.inv.upd j (.arr sz []) (.slice none 0 0) 0 true none g.S w none ⟨rfl,rfl,rfl,Nat.le_refl _⟩ (fun _ _ _=>rfl) (fun b e=>by cases e) (fun _ _ h=>h) (fun _ _ h=>.inl h) (fun b o e=>by cases e) (fun b hh e=>by first | (cases e; done) | (exact absurd hh.2 (by simp))) (by simp)
     (fun hu=>absurd hf hu) (fun _ _=>by
      obtain ⟨u1,u2,u3,u4⟩:=upd_same g j (.slice none 0 0) 0 true none g.S;exact ⟨u3,u2,(fun cs hc=>by cases hc),.inl ⟨rfl,u1,u4⟩⟩)
    generalize hg1:g.upd j (.slice none 0 0) 0 true none g.S=g1 at m1 m2;have gr:g1.tk j=true∧g1.ln j=0∧g1.ρ j=.slice none 0 0:=by rw [← hg1]; simp [Gh.upd]
    have e0' : (hput st.h j (.arr sz [])) o=.cells cs:=by rw [hput_ne _ _ _ _ hor,e0]
    obtain ⟨g3,p1,p2⟩:=cell_ok m1 e0' hk0 (new:=.msl j 0) (fun y hy=>by
     cases hy
     exact .msl _ j 0 none 0 (by unfold used; rw [hput_same]; simp) gr.1 (Nat.zero_le _) (.inl rfl) (fun _=>gr.2.2.symm))
    exact ⟨_,g3,⟨p1,hS.le.trans (m2.trans p2),hS.dfs,hS.size,fun i=>(hS.slots i).le (m2.trans p2)⟩,hk⟩
   ·exact hk.elim
  ·exact hk.elim
 ·exact hk.elim
theorem cell0_ok {cx:Cx} {id:Nat} (hS:SR N ds w0 g0 h0 st g a w) {K:(Nat→HO)→Prop} (hk:fz0 cx id st.h fun h=>rm0 cx id h fun h=>rm1 cx id h fun h=>za0 cx id h K):∃ h' g',SR N ds w0 g0 h0 ⟨st.t,h'⟩ g' a w∧K h':=by
 have h1:∃ h' g',SR N ds w0 g0 h0 ⟨st.t,h'⟩ g' a w∧rm0 cx id h' fun h=>rm1 cx id h fun h=>za0 cx id h K:=by
  unfold fz0 at hk;split at hk
  ·obtain ⟨g',i1,i2⟩:=frz1_ok hS.inv _;exact ⟨_,g',⟨i1,hS.le.trans i2,hS.dfs,hS.size,fun i=>(hS.slots i).le i2⟩,hk⟩
  ·exact ⟨_,g,hS,hk⟩
 obtain ⟨h1,g1,S1,hk⟩:=h1;have h2:∃ h' g',SR N ds w0 g0 h0 ⟨st.t,h'⟩ g' a w∧rm1 cx id h' fun h=>za0 cx id h K:=by
  unfold rm0 at hk;split at hk
  ·exact rmK_ok S1 hk
  ·exact ⟨_,g1,S1,hk⟩
 obtain ⟨h2,g2,S2,hk⟩:=h2;have h3:∃ h' g',SR N ds w0 g0 h0 ⟨st.t,h'⟩ g' a w∧za0 cx id h' K:=by
  unfold rm1 at hk;split at hk
  ·exact rmK_ok S2 hk
  ·exact ⟨_,g2,S2,hk⟩
 obtain ⟨h3,g3,S3,hk⟩:=h3;unfold za0 at hk;split at hk
 ·exact zaK_ok S3 hk
 ·exact ⟨_,g3,S3,hk⟩
theorem verK_ok {cx:Cx} {id:Nat} (hS:SR N ds w0 g0 h0 st g a w) {K:(Nat→HO)→Prop} (hk:verK cx id st.h K):∃ h' g',SR N ds w0 g0 h0 ⟨st.t,h'⟩ g' a w∧K h':=by
 unfold verK at hk;split at hk
 ·exact uvK_ok hS hk
 ·split at hk
  ·exact rvK_ok hS hk
  ·split at hk
   ·exact nvK_ok hS hk
   ·exact cell0_ok hS hk
theorem azK_ok (hS:SR N ds w0 g0 h0 st g a w) {o k:Nat} {K:(Nat→HO)→Prop} (hk:azK st.h o k K):∃ h' g',SR N ds w0 g0 h0 ⟨st.t,h'⟩ g' a w∧K h':=by
 have same:K st.h→∃ h' g',SR N ds w0 g0 h0 ⟨st.t,h'⟩ g' a w∧K h':=fun hk=>⟨st.h,g,hS,hk⟩;unfold azK at hk;split at hk
 ·rename_i cs e0;split at hk
  ·rename_i r n e1;split at hk
   ·rename_i sz es e2;obtain ⟨rfl,hk⟩:=hk;have hne:o≠r:=fun e=>by rw [e,e2] at e0; cases e0
    obtain ⟨g1,i1,i2,i3,i4⟩:=arr_tok hS.inv e2;have ho:=i1.objs o;rw [hput_ne _ _ _ _ hne,e0] at ho;obtain ⟨t1,b,E,vs,a1,a2,a3,a4,a5⟩:=ho;have hl:(hput st.h r (.tok sz es.length) o).live:=by rw [hput_ne _ _ _ _ hne,e0]; trivial
    have hk0:=nthA_msl cs k _ _ e1;have hold:=hS.inv.objs o;rw [e0] at hold;obtain ⟨_,b',E',vs',a1',a2',a3',a4',_⟩:=hold
    obtain ⟨k1,k2⟩:=i1.upd o (.cells (overA cs k (.slice (.id r sz) es))) (g1.ρ o) (g1.ln o) (g1.tk o) (g1.own o) g1.S w none ⟨rfl,rfl,rfl,Nat.le_refl _⟩ (fun _ _ _=>rfl) (fun b e=>by cases e) (fun _ _ h=>h) (fun _ _ h=>.inl h)
     (fun b o e=>by cases e) (fun b' _ e=>⟨(i1.loc o b' hl e).1,.inl ⟨hl,e⟩⟩) (by simp) (fun _=>⟨rfl,Nat.le_refl _,fun _=>rfl,fun _=>rfl⟩) (fun hg hkp=>by
      obtain ⟨u1,u2,u3,u4⟩:=upd_same g1 o (g1.ρ o) (g1.ln o) (g1.tk o) (g1.own o) g1.S;have hus:∀ i,used (hput st.h r (.tok sz es.length)) i→used (hput (hput st.h r (.tok sz es.length)) o (.cells (overA cs k (.slice (.id r sz) es)))) i:=fun i hi=>used_hput (by simp) i hi;refine ⟨u3.trans t1,b,E,vs,u4.trans a1,u1.trans a2,a3,⟨by rw [overA_len]; exact a4.1,a4.2.1,fun i av x q1 q2=>?_⟩,a5⟩;rcases overA_get cs k _ i av q1 with ⟨rfl,rfl⟩ | q
      ·have hx:=a4.2.2 i _ x hk0 q2;have hx0:x=g.ρ r:=by
        have hg1:=i2.gh o (by unfold used; rw [e0]; simp);have hvs:vs=vs':=by
         have e3:g1.ρ o=g.ρ o:=hg1.2.2.1 (by
          have:=(hS.inv.objs o); rw [e0] at this; exact this.1)
         rw [a2,a2'] at e3;cases e3;rw [a3] at a3'; cases a3'; rfl
        subst hvs
        have:=a4'.2.2 i _ x hk0 q2
        cases this with
        | msl _ _ _ _ _ _ _ _ _ hz=>exact hz i4.symm
       rw [hx0];exact i3.mono hkp hus hg
      ·exact (a4.2.2 i av x q q2).mono hkp hus hg)
    exact ⟨_,_,⟨k1,hS.le.trans (i2.trans k2),hS.dfs,hS.size,fun i=>((hS.slots i).le i2).le k2⟩,hk⟩
   ·exact same hk
  ·exact same hk
 ·exact same hk
theorem akK_ok {cx:Cx} {o:Oper} {K:St→Prop} (hS:SR N ds w0 g0 h0 st g a w) (hk:akK cx o st K):∃ st' g',SR N ds w0 g0 h0 st' g' a w∧K st':=by
 have same:K st→∃ st' g',SR N ds w0 g0 h0 st' g' a w∧K st':=fun hk=>⟨st,g,hS,hk⟩;unfold akK at hk;split at hk
 ·exact same hk
 ·split at hk
  ·exact same hk
  ·rename_i s _;split at hk
   ·rename_i r n ht;split at hk
    ·rename_i sz es hr;obtain ⟨hn,hk⟩:=hk;subst hn;have hI:=hS.inv;have ho:=hI.objs r;rw [hr] at ho;obtain ⟨t1,l1,al,a2⟩:=ho;have hl:(st.h r).live:=by rw [hr]; trivial
     have hsl:=hS.slots s;rw [ht] at hsl;have hval:a.tmps.getD s undef=g.ρ r:=by
      generalize a.tmps.getD s undef=x at hsl;cases hsl with
      | msl _ r n a cap hu ht hn ha hx=>exact hx l1.symm
     have fin:∀ g',Inv w0 g0 h0 (hput st.h r (.tok sz es.length)) g' w→Le st.h g w (hput st.h r (.tok sz es.length)) g' w→Rep g' w (used (hput st.h r (.tok sz es.length))) (.slice (.id r sz) es) (g.ρ r) →
       ∃ st' g',SR N ds w0 g0 h0 st' g' a w∧K st':=fun g' i1 i2 i3=>by
      refine ⟨_,g',⟨i1,hS.le.trans i2,hS.dfs,hS.size,fun i=>?_⟩,hk⟩;show Rep g' w (used (hput st.h r (.tok sz es.length))) (tput st.t s (.slice (.id r sz) es) i) _
      by_cases e:i=s
      ·subst e
       have:tput st.t i (.slice (.id r sz) es) i=.slice (.id r sz) es:=by unfold tput; simp
       rw [this,hval]; exact i3
      ·have:tput st.t s (.slice (.id r sz) es) i=st.t i:=by unfold tput; simp [beq_ne e]
       rw [this]; exact (hS.slots i).le i2
     rcases a2 with ⟨b1,b2,b3⟩ | ⟨b,cap,E,vs,b1,b2,b3,b4,b5,b6,b7⟩
     ·subst b1
      obtain ⟨k1,k2⟩:=hI.upd r (.tok sz 0) (g.ρ r) (g.ln r) (g.tk r) (g.own r) g.S w none ⟨rfl,rfl,rfl,Nat.le_refl _⟩ (fun _ _ _=>rfl) (fun b e=>by cases e) (fun _ _ h=>h) (fun _ _ h=>.inl h)
       (fun b o e=>by cases e) (fun b' _ e=>⟨(hI.loc r b' hl e).1,.inl ⟨hl,e⟩⟩) (by simp) (fun _=>⟨rfl,Nat.le_refl _,fun _=>rfl,fun _=>rfl⟩) (fun hg hk=>by
        obtain ⟨u1,u2,u3,u4⟩:=upd_same g r (g.ρ r) (g.ln r) (g.tk r) (g.own r) g.S;exact ⟨u3.trans t1,u2.trans l1,none,0,u1.trans b2,.inl ⟨rfl,u4.trans b3⟩⟩)
      refine fin _ k1 k2 ?_;rw [b2];exact .tok _ r sz [] _ (.snil _ _ _) (by simp) (by unfold used; rw [hput_same]; simp) (by simp [Gh.upd,t1]) (by simp) (fun _=>by simp [Gh.upd])
     ·have hlt:=(hI.loc r b hl b2).1
      obtain ⟨k1,k2⟩:=hI.upd r (.tok sz es.length) (g.ρ r) (g.ln r) (g.tk r) (g.own r) (g.more b (es.length*sz)) w none ⟨rfl,rfl,rfl,Nat.le_refl _⟩ (fun _ _ _=>rfl) (fun b e=>by cases e) (fun _ _ h=>.inl h)
       (fun b' o hs=>hs.elim .inl (fun hs=>.inr ⟨by rw [hs.1]; exact hlt,.inr ⟨hl,by rw [hs.1]; exact b2⟩⟩)) (fun b o e=>by cases e) (fun b' _ e=>⟨(hI.loc r b' hl e).1,.inl ⟨hl,e⟩⟩) (by simp)
       (fun _=>⟨rfl,Nat.le_refl _,fun _=>rfl,fun _=>rfl⟩) (fun hg hk=>by
        obtain ⟨u1,u2,u3,u4⟩:=upd_same g r (g.ρ r) (g.ln r) (g.tk r) (g.own r) (g.more b (es.length*sz));exact ⟨u3.trans t1,u2.trans l1,_,cap,u1.trans b1,.inr ⟨b3,b,E,vs,0,rfl,u4.trans b2,b4,by rw [b5,Nat.zero_add],fun o ho=>by
         rcases ho with ho | ⟨_,ho⟩
         ·exact absurd ho (b7 o)
         ·omega⟩⟩)
      refine fin _ k1 k2 ?_;rw [b1];exact .tok _ r sz es _ (Rep.slice_row b4 al b3 (b6.mono k2.keeps (fun _ h=>h) (fun _ h=>h.elim)) (fun o ho=>.inr ⟨rfl,ho⟩)) al (by unfold used; rw [hput_same]; simp) (by simp [Gh.upd,t1]) (by simp [Gh.upd,l1]) (fun _=>by simp [Gh.upd])
    ·exact same hk
   ·exact same hk

variable {cx:Cx} (hP:cx.P=P) (hT:TabOk P cx.T) (hY:∀ l σ h g w,renOk σ=true→Inv w0 g0 h0 h g w→Le h0 g0 w0 h g w→cx.yp l σ (ghFwd σ g) w) {ro:Option Nat} {ops:Array Oper}
include hP hT hY

theorem aoper_ok {dr:Bool} {o:Oper} (hd:∀ i,o.dst=some i→i<N) {K:St→Prop} {next:Act→World→Prop} {Q:Exit→Act→World→Prop} (hS:SR N ds w0 g0 h0 st g a w) (hk:aoper cx dr ops.toList o st K)
  (hn:∀ st' g' a' w',K st'→SR N ds w0 g0 h0 st' g' a' w'→next a' w'):if Region.wanted o (yielded ops a.tmps) then o.wpIn (fro ro) 0 P a w next Q else next (a.put o.dst undef) w:=by
 have run:aopD cx dr o st K→o.wpIn (fro ro) 0 P a w next Q:=by
  intro hk;unfold aopD at hk;split at hk
  ·exact aop_ok hP hY hT hS hk fun v h' g' w' x q1 q2 q3 q4=>hn _ g' _ _ q1 (hS.put hd q2 q3 q4)
  ·obtain ⟨g1,hS1⟩:=preFz_ok (cx:=cx) (o:=o) hS;obtain ⟨st',g',hS',hk⟩:=akK_ok hS1 hk;exact aop_ok hP hY hT hS' hk fun v h' g' w' x q1 q2 q3 q4=>hn _ g' _ _ q1 (hS'.put hd q2 q3 q4)
 have skip:K (st.put o.dst (.v undef) st.h)→next (a.put o.dst undef) w:=fun hk=>hn _ g _ _ hk (hS.put hd hS.inv (.refl _ _ _) (.v _ _))
 unfold aoper at hk;split at hk
 ·rename_i hg;rw [if_pos (by simp [Region.wanted,hg])];exact run hk
 ·rename_i j want hg;split at hk
  ·exact hk.elim
  ·rename_i d hj;have hy:∀ x:Value,Rep g w (used st.h) (st.t d) x→x=a.tmps.getD d undef→True:=fun _ _ _=>trivial;have hs:=hS.slots d;rw [nthDst_eq] at hj;have key:∀ b:Bool,a.tmps.getD d undef=.bool b→yielded ops a.tmps j=some b:=by
    intro b hb;have hlt:d<a.tmps.size:=by
     apply Nat.lt_of_not_le;intro hge;rw [Array.getD_eq_getD_getElem?,Array.getElem?_eq_none hge] at hb;cases hb
    simp only [yielded,hj,Option.bind_some];rw [Array.getD_eq_getD_getElem?,Array.getElem?_eq_getElem hlt] at hb;rw [Array.getElem?_eq_getElem hlt];simp only [Option.getD_some] at hb;rw [hb]
   have key2:∀ t,a.tmps.getD d undef=.tuple t→yielded ops a.tmps j=none:=by
    intro t hb;simp only [yielded,hj,Option.bind_some];cases he:a.tmps[d]? with
    | none=>rfl
    | some x =>
     rw [Array.getD_eq_getD_getElem?,he] at hb;simp only [Option.getD_some] at hb;rw [hb]
   generalize hx:st.t d=x at hk hs;split at hk
   ·have:=key true hs.v_eq
    rw [if_pos (by simp [Region.wanted,hg,this])];exact run hk
   ·have:=key false hs.v_eq
    rw [if_pos (by simp [Region.wanted,hg,this])];exact run hk
   ·have:=key true hs.v_eq
    rw [if_neg (by simp [Region.wanted,hg,this])];exact skip hk
   ·have:=key false hs.v_eq
    rw [if_neg (by simp [Region.wanted,hg,this])];exact skip hk
   ·have:=key2 _ hs.v_eq
    rw [if_neg (by simp [Region.wanted,hg,this])];exact skip hk
   ·exact hk.elim

theorem aops_ok {Q:Exit→Act→World→Prop} {K:St→Prop} (hQ:∀ st' g' a' w',K st'→SR N ds w0 g0 h0 st' g' a' w'→Q .normal a' w') :
  ∀ (l:List Oper),(∀ o ∈ l,∀ i,o.dst=some i→i<N)→∀ {st:St} {g:Gh} {a:Act} {w:World},SR N ds w0 g0 h0 st g a w→aops cx ops.toList l st K→wpListIn (fro ro) 0 P ops Q l a w
 | [],_,st,g,a,w,hS,hk=>hQ st g a w hk hS
 | o :: l,hd,st,g,a,w,hS,hk=>by
  have:=aoper_ok hP hT hY (ro:=ro) (hd o (List.mem_cons_self ..)) (next:=wpListIn (fro ro) 0 P ops Q l) (Q:=Q) hS hk fun st' g' a' w' q1 q2=>aops_ok hQ l (fun o' ho'=>hd o' (List.mem_cons_of_mem _ ho')) q2 q1
  unfold wpListIn;split
  ·rename_i hw; rw [if_pos hw] at this; exact this
  ·rename_i hw; rw [if_neg hw] at this; exact ⟨fun _ _=>trivial,this⟩

theorem aAny_ok {Q:Exit→Act→World→Prop} {K:St→Prop} {FT:Nat→Foot} (hQ:∀ st' g' a' w',K st'→SR N ds w0 g0 h0 st' g' a' w'→Q .normal a' w') (hd:∀ (j:Nat) (o:Oper),ops[j]?=some o→∀ i,o.dst=some i→i<N) :
  ∀ (fuel:Nat) (listed:Array Bool) {st:St} {g:Gh} {a:Act} {w:World},SR N ds w0 g0 h0 st g a w→aAny cx ops FT K fuel listed st→wpAnyIn (fro ro) 0 P .any ops Q fuel listed a w
 | 0,_,st,g,a,w,hS,hk=>⟨hk.1,hQ st g a w hk.2 hS⟩
 | fuel+1,listed,st,g,a,w,hS,hk=>by
  refine ⟨fun h0=>hQ st g a w (hk.1 h0) hS,fun i hi=>?_⟩;have h1:=hk.2 i hi;unfold aAt at h1;unfold wpOpIn;cases ho:ops[i]? with
  | none=>rw [ho] at h1; exact aAny_ok hQ hd fuel _ hS h1
  | some o =>
   rw [ho] at h1
   have:=aoper_ok hP hT hY (ro:=ro) (hd i o ho) (next:=wpAnyIn (fro ro) 0 P .any ops Q fuel (listed.setIfInBounds i true)) (Q:=Q) hS h1.2 fun st' g' a' w' q1 q2=>aAny_ok hQ hd fuel _ q2 q1
   dsimp only;split
   ·rename_i hw; rw [if_pos hw] at this; exact this
   ·rename_i hw; rw [if_neg hw] at this; exact ⟨fun _ _=>trivial,this⟩
end
end Go.Eng
