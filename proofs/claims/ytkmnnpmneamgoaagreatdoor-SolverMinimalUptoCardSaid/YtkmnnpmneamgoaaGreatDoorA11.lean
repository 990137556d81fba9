/- Lemmas for the claims of this seat, without a condition: part 11 (EngX, EngY, EngZ). -/
import Derived.Test.YtkmnnpmneamgoaaGreatDoorA10
namespace Go.Eng

section
variable {cx:Cx} {dst:Option Nat} {ty:Nat} {pos:String} {after:Array Edge} {gd:Option (Nat × Bool)} {st:St} {R:List Nat} {w:Option Nat} {K:HK}

theorem frame_load {t:Nat} {p:Operand} (hk:aop cx true ⟨dst,.load t p,ty,pos,after,gd⟩ st K) (hf:foot cx ⟨dst,.load t p,ty,pos,after,gd⟩ st=some (R,w)):Framed cx ⟨dst,.load t p,ty,pos,after,gd⟩ st R w K:=by
 simp only [aop] at hk;have hn:∀ st2,Alike ⟨dst,.load t p,ty,pos,after,gd⟩ R st st2→ev st2.t p=ev st.t p:=fun st2 ha=>ha.t p (by simp [Op.operands]);simp only [foot] at hf;unfold loadHK at hk;split at hf
 ·rename_i cs hp;cases hf;rw [hp] at hk;simp only at hk;exact .pick (pick_load _ _ _) hk fun st2 ha K' h=>by simp only [aop,loadHK,hn st2 ha,hp]; exact h
 ·rename_i r off hp;cases hf;rw [hp] at hk;simp only at hk;split at hk
  ·rename_i cs hr;exact .pick (pick_load _ _ _) hk fun st2 ha K' h=>by simp only [aop,loadHK,hn st2 ha,hp,ha.h r (List.mem_cons_self ..),hr]; exact h
  ·rename_i cs hr;exact .pick (pick_load _ _ _) hk fun st2 ha K' h=>by simp only [aop,loadHK,hn st2 ha,hp,ha.h r (List.mem_cons_self ..),hr]; exact h
  ·exact hk.elim
 ·rename_i r n sz i off hp;cases hf;rw [hp] at hk;simp only at hk;split at hk
  ·rename_i sz' es hr;split at hk
   ·rename_i hs;exact .pick (pick_and (pick_ex fun _=>pick_and (pick_load _ _ _))) hk fun st2 ha K' h=>by simp only [aop,loadHK,hn st2 ha,hp,ha.h r (List.mem_cons_self ..),hr,hs]; exact h
   ·exact hk.elim
  ·exact hk.elim
 ·cases hf
theorem frame_assign {x:Operand} (hk:aop cx true ⟨dst,.assign x,ty,pos,after,gd⟩ st K) (hf:foot cx ⟨dst,.assign x,ty,pos,after,gd⟩ st=some (R,w)):Framed cx ⟨dst,.assign x,ty,pos,after,gd⟩ st R w K:=by
 simp only [aop] at hk;have hn:∀ st2,Alike ⟨dst,.assign x,ty,pos,after,gd⟩ R st st2→ev st2.t x=ev st.t x:=fun st2 ha=>ha.t x (by simp [Op.operands]);simp only [foot] at hf;split at hf
 ·cases hf
 ·rename_i hx;cases hf;have same:∃ y,∀ (h:Nat→HO) (K:HK),assignK cx dst h (ev st.t x) K↔K y h:=by
   unfold assignK;cases dst with
   | none=>exact ⟨_,fun _ _=>Iff.rfl⟩
   | some d =>
    simp only;cases asg cx.pl.tok d with
    | some sz =>
     simp only;cases Nat.beq sz 0 with
     | true=>exact ⟨_,fun _ _=>Iff.rfl⟩
     | false =>
      refine ⟨ev st.t x,fun h K=>?_⟩;simp only;split
      ·rename_i e; exact absurd e (hx _ _ _)
      ·exact Iff.rfl
    | none =>
     simp only;cases asg cx.pl.arr d with
     | some sz =>
      refine ⟨ev st.t x,fun h K=>?_⟩;simp only;split
      ·rename_i e; exact absurd e (hx _ _ _)
      ·exact Iff.rfl
     | none=>exact ⟨_,fun _ _=>Iff.rfl⟩
  obtain ⟨y,same⟩:=same;exact .pick (pick_id y) ((same _ _).1 hk) fun st2 ha K' h=>by simp only [aop]; rw [hn st2 ha]; exact (same _ _).2 h
theorem frame_slice {t:Nat} {x:Operand} {lo hi mx:Option Operand} (hp:asgO cx.pl.tok dst=none) (hk:aop cx true ⟨dst,.slice t x lo hi mx,ty,pos,after,gd⟩ st K) (hf:foot cx ⟨dst,.slice t x lo hi mx,ty,pos,after,gd⟩ st=some (R,w)) :
  Framed cx ⟨dst,.slice t x lo hi mx,ty,pos,after,gd⟩ st R w K:=by
 simp only [aop,hp] at hk;have hn:∀ st2,Alike ⟨dst,.slice t x lo hi mx,ty,pos,after,gd⟩ R st st2→ev st2.t x=ev st.t x∧optInt st2.t lo=optInt st.t lo∧optInt st2.t hi=optInt st.t hi∧optInt st2.t mx=optInt st.t mx:=by
  intro st2 ha;have opt:∀ y:Option Operand,(∀ z,y=some z→ev st2.t z=ev st.t z)→optInt st2.t y=optInt st.t y:=by
   intro y hy;cases y with
   | none=>rfl
   | some z=>simp only [optInt]; rw [hy z rfl]
  exact ⟨ha.t x (by simp [Op.operands]),opt lo (fun z e=>ha.t z (by simp [Op.operands,e])),opt hi (fun z e=>ha.t z (by simp [Op.operands,e])),opt mx (fun z e=>ha.t z (by simp [Op.operands,e]))⟩
 simp only [foot,hp] at hf;split at hf
 ·cases hf
 ·rename_i hx;cases hf;have e3:optInt st.t none=some none:=rfl
  have hk2:Pick (fun K1=>sliceK cx dst st.h t (ev st.t x) (optInt st.t lo) (optInt st.t hi) (some none) fun v _=>K1 v) ∧
    ∀ (h:Nat→HO) (K:HK),sliceK cx dst h t (ev st.t x) (optInt st.t lo) (optInt st.t hi) (some none) K↔sliceK cx dst st.h t (ev st.t x) (optInt st.t lo) (optInt st.t hi) (some none) (fun v _=>K v h):=by
   generalize ev st.t x=X at hx;unfold sliceK;constructor
   ·repeat' split
    all_goals first | exact pick_false | exact pick_and (pick_id _) | exact pick_and (pick_and (pick_id _)) | skip
    all_goals first | (rename_i e; cases e; done) | skip
    all_goals (exfalso; exact hx _ _ rfl)
   ·intro h K
    repeat' split
    all_goals first | exact Iff.rfl | skip
    all_goals exfalso
    all_goals first | exact hx _ _ rfl | (rename some none=some (some _)=>e4; cases e4)
  rw [e3] at hk;exact .pick hk2.1 ((hk2.2 _ _).1 hk) fun st2 ha K' h=>by
   obtain ⟨n1,n2,n3,n4⟩:=hn st2 ha;simp only [aop,hp];rw [n1,n2,n3,n4,e3];exact (hk2.2 _ _).2 h
 ·rename_i y tk es hx;obtain ⟨d,rfl,e0⟩:=foot_own hf;cases e0;rw [hx] at hk;unfold sliceK at hk;split at hk
  ·rename_i lo' hi' mx' e1 e2 e3;split at hk
   ·split at hk <;> first | exact hk.elim | (rename_i e; cases e)
   ·rename_i e he;split at hk
    ·exact hk.elim
    ·rename_i k hsz;simp only at hk;split at hk
     ·exfalso
      rename_i e4;simp only [optInt] at e3;split at e3 <;> cases e3
     ·rename_i m;split at hk
      ·rename some d=some _=>e5
       cases e5
       split at hk
       ·rename_i harr;refine ⟨_,none,hk.2.2,fun r o' e=>(by cases e),fun st2 ha2 K' h'=>?_⟩;obtain ⟨n1,n2,n3,n4⟩:=hn st2 ha2;simp only [aop,hp];rw [n1,n2,n3,n4,hx,e1,e2,e3];unfold sliceK;simp only [he];split
        ·rename_i e0; rw [hsz] at e0; cases e0
        ·simp only [harr];exact ⟨hk.1,hk.2.1,h'⟩
       rename_i harr;split at hk
       ·rename_i hd;refine ⟨_,some (d,_),hk.2.2,fun r o' e=>(by cases e; exact ⟨rfl,List.mem_cons_self ..⟩),fun st2 ha2 K' h'=>?_⟩;obtain ⟨n1,n2,n3,n4⟩:=hn st2 ha2;simp only [aop,hp];rw [n1,n2,n3,n4,hx,e1,e2,e3];unfold sliceK;simp only [he];split
        ·rename_i e0; rw [hsz] at e0; cases e0
        ·simp only [harr];rw [ha2.h d (List.mem_cons_self ..),hd];exact ⟨hk.1,hk.2.1,h'⟩
       ·exact hk.elim
      ·exact hk.elim
   ·exact hk.elim
  ·exact hk.elim
 ·cases hf
theorem frame_pop {t:Nat} {x:Operand} {lo hi mx:Option Operand} {p:Nat} (hp:asgO cx.pl.tok dst=some p) (hk:aop cx true ⟨dst,.slice t x lo hi mx,ty,pos,after,gd⟩ st K) (hf:foot cx ⟨dst,.slice t x lo hi mx,ty,pos,after,gd⟩ st=some (R,w)) :
  FramedL cx ⟨dst,.slice t x lo hi mx,ty,pos,after,gd⟩ st R w K:=by
 simp only [aop,hp] at hk;simp only [foot,hp] at hf;obtain ⟨d',r,n,hd,hx,e0⟩:=footP_spec hf;cases e0;cases dst with
 | none=>cases hd
 | some d =>
 cases hd
 unfold popDK at hk;split at hk
 ·rw [hx] at hk;unfold popK at hk;split at hk
  ·rename_i d0 hi' e1 e2;cases e1;split at hk
   ·rename_i e he;split at hk
    ·exact hk.elim
    ·rename_i k hsz;simp only at hk;split at hk
     ·rename_i sz es hr;split at hk
      ·rename_i hd;split at hk
       ·rename_i q1 q3;obtain ⟨h1,hk⟩:=hk;have hr8:r<10000000∧0<did cx d:=by simpa using q3
        obtain ⟨hr7,hz⟩:=hr8;refine ⟨_,[(r,.dead),(did cx d,_)],hk,fun r' o' e=>?_,fun st2 ha K' h'=>?_⟩
        ·rcases List.mem_cons.1 e with e | e
         ·cases e
          refine ⟨.inr (.inl ⟨by omega,.inl ?_⟩),List.mem_cons_self ..⟩;rw [Nat.add_mul_mod_self_left,Nat.mod_eq_of_lt hr7]
         ·obtain e:=List.mem_singleton.1 e;cases e;refine ⟨.inr (.inl ⟨by omega,.inr ?_⟩),List.mem_cons_of_mem _ (List.mem_cons_self ..)⟩;rw [Nat.add_mul_div_left _ _ (by decide),Nat.div_eq_of_lt hr7,Nat.zero_add]
        ·have o1:optInt st2.t hi=optInt st.t hi:=by
          cases hi with
          | none=>rfl
          | some z=>simp only [optInt]; rw [ha.t z (by simp [Op.operands])]
         simp only [aop,hp];unfold popDK;rw [ha.t x (by simp [Op.operands]),o1,hx,e2];unfold popK;simp only [he];split
         ·rename_i e0; rw [hsz] at e0; cases e0
         ·simp only [ha.h r (List.mem_cons_self ..),hr,ha.h (did cx d) (List.mem_cons_of_mem _ (List.mem_cons_self ..)),hd,q1,q3];exact ⟨h1,h'⟩
       ·exact hk.elim
      ·exact hk.elim
     ·exact hk.elim
   ·exact hk.elim
  ·exact hk.elim
 ·exact hk.elim
theorem frame_append {s x:Operand} {tys:Array TypeId} (hk:aop cx true ⟨dst,.call ⟨.builtin .append,#[s,x],tys⟩,ty,pos,after,gd⟩ st K) (hf:foot cx ⟨dst,.call ⟨.builtin .append,#[s,x],tys⟩,ty,pos,after,gd⟩ st=some (R,w)) :
  Framed cx ⟨dst,.call ⟨.builtin .append,#[s,x],tys⟩,ty,pos,after,gd⟩ st R w K:=by
 have hk:builtinK cx dst st.h .append tys.toList [ev st.t s,ev st.t x] K:=hk;have hf:footApp cx dst (ev st.t s) (ev st.t x)=some (R,w):=hf;have hn:∀ st2,Alike ⟨dst,.call ⟨.builtin .append,#[s,x],tys⟩,ty,pos,after,gd⟩ R st st2→ev st2.t s=ev st.t s∧ev st2.t x=ev st.t x:=fun st2 ha =>
  ⟨ha.t s (by simp [Op.operands,Call.operands]),ha.t x (by simp [Op.operands,Call.operands])⟩
 have hgo:∀ st2,Alike ⟨dst,.call ⟨.builtin .append,#[s,x],tys⟩,ty,pos,after,gd⟩ R st st2→∀ K' : HK,builtinK cx dst st2.h .append tys.toList [ev st.t s,ev st.t x] K'→aop cx true ⟨dst,.call ⟨.builtin .append,#[s,x],tys⟩,ty,pos,after,gd⟩ st2 K':=by
  intro st2 ha K' h;rw [← (hn st2 ha).1,← (hn st2 ha).2] at h;exact h
 generalize tys.toList=l at hk hgo
 match l,hk,hgo with
 | [t,t'],hk,hgo =>
  simp only [builtinK] at hk hgo;split at hk
  ·rename_i ht;simp only [ht] at hgo;unfold appendK at hk hgo;split at hk
   ·rename_i e he;simp only [he] at hgo;split at hk
    ·exact hk.elim
    ·rename_i hz;simp only [hz] at hgo;split at hk
     ·exact hk.elim
     ·rename_i k hsz;obtain ⟨es2,q1,q2⟩:=elems_same hk;have hxr:∀ d,R=d :: mslL (ev st.t x)→∀ st2,Alike ⟨dst,.call ⟨.builtin .append,#[s,x],tys⟩,ty,pos,after,gd⟩ R st st2→∀ r n,ev st.t x=.msl r n→st2.h r=st.h r:=fun d hR st2 ha r n e=>ha.h r (by rw [hR,e]; simp [mslL]);unfold footApp at hf;split at hf
      ·rename_i hs;obtain ⟨d,hd0,e0⟩:=foot_own hf;cases e0;rw [hs] at q1 hgo;simp only at q1 hgo;obtain ⟨d',hd,v,y,q3,q4⟩:=newSlice_same q1.2;rw [hd0] at hd; cases hd;refine ⟨v,some (d,y),q3,fun r o' e=>(by cases e; exact ⟨rfl,List.mem_cons_self ..⟩),fun st2 ha2 K' h'=>hgo st2 ha2 K' ?_⟩;split
       ·rename_i e0; rw [hsz] at e0; cases e0
       ·exact q2 st2.h (hxr d rfl st2 ha2) _ ⟨q1.1,q4 st2.h (ha2.h d (List.mem_cons_self ..)) K' h'⟩
      ·rename_i sz' es hs;obtain ⟨d,hd0,e0⟩:=foot_own hf;cases e0;rw [hs] at q1 hgo;simp only at q1 hgo;split at q1
       ·rename_i h1;obtain ⟨d',hd,v,y,q3,q4⟩:=newSlice_same q1.2;rw [hd0] at hd; cases hd;refine ⟨v,some (d,y),q3,fun r o' e=>(by cases e; exact ⟨rfl,List.mem_cons_self ..⟩),fun st2 ha2 K' h'=>hgo st2 ha2 K' ?_⟩;split
        ·rename_i e0; rw [hsz] at e0; cases e0
        ·refine q2 st2.h (hxr d rfl st2 ha2) _ ?_;simp only [h1];exact ⟨q1.1,q4 st2.h (ha2.h d (List.mem_cons_self ..)) K' h'⟩
       ·exact q1.elim
      ·rename_i r sz' es hs;cases hf;rw [hs] at q1 hgo;simp only at q1 hgo;split at q1
       ·rename_i sz n hr;split at q1
        ·rename_i h1 h2;refine ⟨_,some (r,_),q1.2,fun r o' e=>(by cases e; exact ⟨rfl,List.mem_cons_self ..⟩),fun st2 ha2 K' h'=>hgo st2 ha2 K' ?_⟩;split
         ·rename_i e0; rw [hsz] at e0; cases e0
         ·refine q2 st2.h (hxr r rfl st2 ha2) _ ?_;simp only [ha2.h r (List.mem_cons_self ..),hr,h1,h2];exact ⟨q1.1,h'⟩
        ·exact q1.elim
       ·exact q1.elim
      ·rename_i r n hs;cases hf;rw [hs] at q1 hgo;simp only at q1 hgo;split at q1
       ·rename_i sz es hr;split at q1
        ·rename_i h1;refine ⟨_,some (r,_),q1.2,fun r o' e=>(by cases e; exact ⟨rfl,List.mem_cons_self ..⟩),fun st2 ha2 K' h'=>hgo st2 ha2 K' ?_⟩;split
         ·rename_i e0; rw [hsz] at e0; cases e0
         ·refine q2 st2.h (hxr r rfl st2 ha2) _ ?_;simp only [ha2.h r (List.mem_cons_self ..),hr,h1];exact ⟨q1.1,h'⟩
        ·exact q1.elim
       ·exact q1.elim
      ·cases hf
   ·exact hk.elim
  ·exact hk.elim
 | [],hk,_=>exact hk.elim
 | [_],hk,_=>exact hk.elim
 | _ :: _ :: _ :: _,hk,_=>exact hk.elim
theorem pick_zero (T:Tab) (t:Nat):Pick (zeroAV T t):=by
 unfold zeroAV
 repeat' split
 all_goals first | exact pick_false | exact pick_id _
theorem pick_found (T:Tab) (ty:Nat) (ok:Bool) (kvs:List (Value × AV)) (kx:Value):Pick (foundD T ty ok kvs kx):=by
 unfold foundD
 repeat' split
 ·refine pick_or (pick_ex fun a=>pick_and (pick_id _)) (pick_and ?_);intro K hk;obtain ⟨v,h1,h2⟩:=pick_zero T _ _ hk;exact ⟨_,h1,fun K' h=>h2 _ h⟩
 ·exact pick_or (pick_ex fun a=>pick_and (pick_id _)) (pick_and (pick_zero T _))
 ·exact pick_false
theorem pick_key (T:Tab) (ty:Nat) (sh:Shape) (k:AV) {F:Value→(AV→Prop)→Prop} (h:∀ x,Pick (F x)):Pick fun K=>keyK T ty sh k fun kx=>F kx K:=by
 unfold keyK
 repeat' split
 all_goals first | exact pick_false | exact h _
theorem frame_lookup {t:Nat} {m k:Operand} {ok:Bool} (hk:aop cx true ⟨dst,.lookup t m k ok,ty,pos,after,gd⟩ st K) (hf:foot cx ⟨dst,.lookup t m k ok,ty,pos,after,gd⟩ st=some (R,w)) :
  Framed cx ⟨dst,.lookup t m k ok,ty,pos,after,gd⟩ st R w K:=by
 simp only [aop] at hk;have hn:∀ st2,Alike ⟨dst,.lookup t m k ok,ty,pos,after,gd⟩ R st st2→ev st2.t m=ev st.t m∧ev st2.t k=ev st.t k:=fun st2 ha=>⟨ha.t m (by simp [Op.operands]),ha.t k (by simp [Op.operands])⟩;simp only [foot] at hf;unfold lookupD at hk;split at hf
 ·rename_i sh kvs hm;cases hf;rw [hm] at hk;simp only at hk;exact .pick (pick_key _ _ _ _ fun _=>pick_found _ _ _ _ _) hk fun st2 ha K' h=>by simp only [aop,lookupD,hn st2 ha,hm]; exact h
 ·rename_i r hm;cases hf;rw [hm] at hk;simp only at hk;split at hk
  all_goals first | exact hk.elim | (rename_i e; exact .pick (pick_key _ _ _ _ fun _=>pick_found _ _ _ _ _) hk fun st2 ha K' h=>by simp only [aop,lookupD,hn st2 ha,hm,ha.h r (List.mem_cons_self ..),e]; exact h)
 ·cases hf
theorem pick_len (T:Tab) (t:Nat) (h:Nat→HO) (x:AV):Pick (lenHK T t h x):=by
 unfold lenHK
 repeat' split
 all_goals first | exact pick_false | exact pick_id _
theorem len_eq {T:Tab} {t:Nat} {h h2:Nat→HO} {x:AV} (e:∀ r,x=.mref r→h2 r=h r) {K:AV→Prop} : lenHK T t h2 x K=lenHK T t h x K:=by
 cases x <;> first | rfl | skip
 rename_i r;unfold lenHK;simp only [e r rfl]
theorem frame_len {x:Operand} {tys:Array TypeId} (hk:aop cx true ⟨dst,.call ⟨.builtin .len,#[x],tys⟩,ty,pos,after,gd⟩ st K) (hf:foot cx ⟨dst,.call ⟨.builtin .len,#[x],tys⟩,ty,pos,after,gd⟩ st=some (R,w)) :
  Framed cx ⟨dst,.call ⟨.builtin .len,#[x],tys⟩,ty,pos,after,gd⟩ st R w K:=by
 have hk:builtinK cx dst st.h .len tys.toList [ev st.t x] K:=hk;have hf:footCall cx dst (.builtin .len) st.t [ev st.t x]=some (R,w):=hf;have hn:∀ st2,Alike ⟨dst,.call ⟨.builtin .len,#[x],tys⟩,ty,pos,after,gd⟩ R st st2→ev st2.t x=ev st.t x:=fun st2 ha=>ha.t x (by simp [Op.operands,Call.operands]);have hgo:∀ st2,Alike ⟨dst,.call ⟨.builtin .len,#[x],tys⟩,ty,pos,after,gd⟩ R st st2→∀ K' : HK,builtinK cx dst st2.h .len tys.toList [ev st.t x] K'→aop cx true ⟨dst,.call ⟨.builtin .len,#[x],tys⟩,ty,pos,after,gd⟩ st2 K':=by
  intro st2 ha K' h;rw [← hn st2 ha] at h;exact h
 generalize tys.toList=l at hk hgo
 match l,hk,hgo with
 | [t],hk,hgo =>
  have hR:∀ r,ev st.t x=.mref r→r ∈ R:=fun r e=>by
   rw [e] at hf;cases hf; exact List.mem_cons_self ..
  have hw:w=none:=by
   unfold footCall at hf;split at hf <;> first | (cases hf; rfl) | (rename_i e; cases e) | (rename_i e _; cases e) | skip
   all_goals (cases hf)
  subst hw;exact .pick (pick_len _ _ _ _) hk fun st2 ha K' h=>hgo st2 ha K' (by
   simp only [builtinK];rw [len_eq fun r e=>ha.h r (hR r e)];exact h)
 | [],hk,_=>exact hk.elim
 | _ :: _ :: _,hk,_=>exact hk.elim
end
end Go.Eng

namespace Go.Eng

theorem memB_in {l:List Nat} {n:Nat} (h:memB l n=true):n ∈ l:=by
 induction l with
 | nil=>cases h
 | cons a l ih =>
  unfold memB at h
  by_cases e:a=n
  ·exact e▸List.mem_cons_self ..
  ·rw [beq_ne e] at h; exact List.mem_cons_of_mem _ (ih h)
theorem effL_map (G:Nat→HO):∀ (σ:Ren) (h:Nat→HO),renOk σ=true→(fun i=>match rfwd σ i with | some j=>G j | none=>h i)=effL h (σ.map fun p=>(p.1,G p.2))
 | [],h,_=>rfl
 | (i,j) :: r,h,hσ=>by
  unfold renOk at hσ;simp only [Bool.and_eq_true] at hσ;have ih:=effL_map G r (hput h i (G j)) hσ.2;show _=effL (hput h i (G j)) (r.map fun p=>(p.1,G p.2));rw [← ih]
  funext i'
  have hn:rfwd r i=none:=by
   have:=hσ.1.1.1
   cases e:rfwd r i with
   | none=>rfl
   | some k=>rw [e] at this; simp at this
  by_cases e:i'=i
  ·subst e;have e1:rfwd ((i',j) :: r) i'=some j:=by unfold rfwd; rw [Nat.beq_refl]; rfl
   rw [e1,hn];show G j=hput h i' (G j) i';unfold hput; rw [Nat.beq_refl]; rfl
  ·have e1:rfwd ((i,j) :: r) i'=rfwd r i':=by
    show (bif Nat.beq i i' then some j else rfwd r i')=_;rw [beq_ne (Ne.symm e)]; rfl
   rw [e1];cases rfwd r i' with
   | some k=>rfl
   | none=>show h i'=hput h i (G j) i'; unfold hput; rw [beq_ne e]; rfl
theorem backH_eff {σ:Ren} {d:Nat} (hσ:renOk σ=true) {h h' : Nat→HO} : backH σ d 0 h h'=effL h (σ.map fun p=>(p.1,(h' p.2).ren (backId σ d 0) h')):=by
 rw [← effL_map (fun j=>(h' j).ren (backId σ d 0) h') σ h hσ]
 funext i
 unfold backH;cases rfwd σ i with
 | some j=>rfl
 | none =>
  have:(Nat.ble (newId d 0) i&&Nat.blt i (newId d 0))=false:=by
   rw [Bool.eq_false_iff]; simp only [ne_eq,Bool.and_eq_true,Nat.ble_eq,Nat.blt_eq]; omega
  simp only [this]
section
variable {cx:Cx} {op:Op} {dst:Option Nat} {ty:Nat} {pos:String} {after:Array Edge} {gd:Option (Nat × Bool)} {st:St} {R:List Nat} {w:Option Nat} {K:HK}

theorem Framed.toL (h:Framed cx ⟨dst,op,ty,pos,after,gd⟩ st R w K):FramedL cx ⟨dst,op,ty,pos,after,gd⟩ st R w K:=by
 obtain ⟨v,e,h1,h2,h3⟩:=h;cases e with
 | none=>exact ⟨v,[],h1,fun r o' e=>(by cases e),h3⟩
 | some p=>exact ⟨v,[p],h1,fun r o' e=>by
   obtain rfl:=List.mem_singleton.1 e;obtain ⟨a,b⟩:=h2 r o' rfl;exact ⟨by rw [a]; exact .inl rfl,b⟩,h3⟩
theorem frame_call {c:Call} (hk:aop cx true ⟨dst,.call c,ty,pos,after,gd⟩ st K) (hf:foot cx ⟨dst,.call c,ty,pos,after,gd⟩ st=some (R,w)):FramedL cx ⟨dst,.call c,ty,pos,after,gd⟩ st R w K:=by
 obtain ⟨cal,args,tys⟩:=c;have hargs:∀ st2,Alike ⟨dst,.call ⟨cal,args,tys⟩,ty,pos,after,gd⟩ R st st2→args.toList.map (ev st2.t)=args.toList.map (ev st.t):=fun st2 ha =>
  List.map_congr_left fun x hx=>ha.t x (by simp only [Op.operands,Call.operands,Array.mem_append]; exact .inr (by simpa using hx))
 cases cal with
 | invoke r m=>exact hk.elim
 | value f =>
  have hk:callK cx true dst st (ev st.t f) (args.toList.map (ev st.t)) K:=hk;have hf:footCall cx dst (.value f) st.t (args.toList.map (ev st.t))=some (R,w):=hf;unfold footCall at hf;unfold callK at hk;simp only at hf hk;have hn:=hargs;split at hf
  ·rename_i hdc;rw [hdc] at hk;cases hf;obtain ⟨res,h1,h2⟩:=hk;refine Framed.toL ⟨res,none,h2,fun r o' e=>(by cases e),fun st2 ha K' h'=>?_⟩;show callK cx true dst st2 (ev st2.t f) (args.toList.map (ev st2.t)) K';rw [hargs st2 ha,ha.t f (by simp [Op.operands,Call.operands])];unfold callK;simp only [hdc];refine ⟨res,?_,h'⟩;rw [str_same (h:=st.h) (fun r hr=>ha.h r (List.mem_append_left _ hr)),strA_same (h:=st.h) (fun r hr=>ha.h r (List.mem_append_right _ hr))];exact h1
  ·rename_i hdc;rw [hdc] at hk;simp only at hk;cases dst with
   | none=>exact hk.elim
   | some d =>
    obtain ⟨n,sz,es,h1,h2,h3⟩:=hk;have hf:some (newId d 0 :: (idl (ev st.t f)++idlA (args.toList.map (ev st.t))),some (newId d 0))=some (R,w):=hf;cases hf;refine Framed.toL ⟨_,some (newId d 0,_),h3,fun r o' e=>(by cases e; exact ⟨rfl,List.mem_cons_self ..⟩),fun st2 ha K' h'=>?_⟩;show callK cx true (some d) st2 (ev st2.t f) (args.toList.map (ev st2.t)) K';rw [hargs st2 ha,ha.t f (by simp [Op.operands,Call.operands])];unfold callK;simp only [hdc];refine ⟨n,sz,es,?_,?_,h'⟩
    ·have:newFree st2.h d 1=newFree st.h d 1:=by simp only [newFree,ha.h (newId d 0) (List.mem_cons_self ..)]
     rw [this]; exact h1
    ·rw [str_same (h:=st.h) (fun r hr=>ha.h r (List.mem_cons_of_mem _ (List.mem_append_left _ hr))),strA_same (h:=st.h) (fun r hr=>ha.h r (List.mem_cons_of_mem _ (List.mem_append_right _ hr)))];exact h2
  ·rename_i hdc;rw [hdc] at hk;have hk:turnK cx 0 dst st.h (ev st.t f) (args.toList.map (ev st.t)) K:=hk;split at hf
   ·rename_i r n l hl;cases hf;have hk2:=hk;unfold turnK at hk2;rw [hl] at hk2;split at hk2
    ·rename_i d0 f0 r0 n0 l0 e1 e2 z1 z2;cases e2;split at hk2
     ·rename_i vs hvs;split at hk2
      ·rename_i sz es hr;obtain ⟨n',es',h1,h2⟩:=hk2;refine Framed.toL ⟨_,some (r,_),h2,fun r o' e=>(by cases e; exact ⟨rfl,List.mem_cons_self ..⟩),fun st2 ha K' h'=>?_⟩;show callK cx true _ st2 (ev st2.t f) (args.toList.map (ev st2.t)) K';rw [hargs st2 ha,ha.t f (by simp [Op.operands,Call.operands]),hl,e1];unfold callK;simp only [hdc];unfold restK;simp only;unfold turnK;simp only [hvs,ha.h r (List.mem_cons_self ..),hr];exact ⟨n',es',h1,h'⟩
      ·exact hk2.elim
     ·exact hk2.elim
    ·exact hk2.elim
   ·cases hf
  ·rename_i k hdc;rw [hdc] at hk;cases hb:Nat.beq k 1 with
   | true =>
    have hb2:Nat.beq (k+1) 2=true:=hb;have hk:tokenK cx dst st (ev st.t f) (args.toList.map (ev st.t)) K:=by
     have hk2:(match Nat.beq (k+1) 2 with | true=>tokenK cx dst st (ev st.t f) (args.toList.map (ev st.t)) K | false=>match Nat.beq (k+1) 3 with | true=>yieldK cx dst st (ev st.t f) (args.toList.map (ev st.t)) K | false=>restK cx (k+1) dst st (ev st.t f) (args.toList.map (ev st.t)) K):=hk;rw [hb2] at hk2; exact hk2
    rw [hb] at hf;cases dst with
    | none=>exact hk.elim
    | some d =>
     obtain ⟨sz,es,h1,h2,h3⟩:=hk;have hf:some (newId d 0 :: (idl (ev st.t f)++idlA (args.toList.map (ev st.t))),some (newId d 0))=some (R,w):=hf;cases hf;refine Framed.toL ⟨_,some (newId d 0,_),h3,fun r o' e=>(by cases e; exact ⟨rfl,List.mem_cons_self ..⟩),fun st2 ha K' h'=>?_⟩;show callK cx true (some d) st2 (ev st2.t f) (args.toList.map (ev st2.t)) K';rw [hargs st2 ha,ha.t f (by simp [Op.operands,Call.operands])];unfold callK;simp only [hdc,hb2];refine ⟨sz,es,?_,?_,h'⟩
     ·have:newFree st2.h d 1=newFree st.h d 1:=by simp only [newFree,ha.h (newId d 0) (List.mem_cons_self ..)]
      rw [this]; exact h1
     ·rw [str_same (h:=st.h) (fun r hr=>ha.h r (List.mem_cons_of_mem _ (List.mem_append_left _ hr))),strA_same (h:=st.h) (fun r hr=>ha.h r (List.mem_cons_of_mem _ (List.mem_append_right _ hr)))];exact h2
   | false =>
    have hb2:Nat.beq (k+1) 2=false:=hb;rw [hb] at hf;have hk2:(match Nat.beq (k+1) 2 with | true=>tokenK cx dst st (ev st.t f) (args.toList.map (ev st.t)) K | false=>match Nat.beq (k+1) 3 with | true=>yieldK cx dst st (ev st.t f) (args.toList.map (ev st.t)) K | false=>restK cx (k+1) dst st (ev st.t f) (args.toList.map (ev st.t)) K):=hk;rw [hb2] at hk2;cases hc:Nat.beq k 2 with
    | true =>
     have hc2:Nat.beq (k+1) 3=true:=hc;rw [hc] at hf;simp only [hc2] at hk2;have hf:footY (args.toList.map (ev st.t))=some (R,w):=hf;unfold footY at hf;unfold yieldK at hk2;split at hf
     ·rename_i vs hvs;cases hf;split at hk2
      ·rename_i l vs' e1 e2 z1 z2;rw [hvs] at e2; cases e2;split at hk2
       ·rename_i r sz es sz2 n e3 e4;obtain ⟨⟨rfl,rfl⟩,v,es',n',h1,h2⟩:=hk2;refine ⟨_,[(1001,_),(1000,_)],h2,fun r' o' e=>?_,fun st2 ha K' h'=>?_⟩
        ·rcases List.mem_cons.1 e with e | e
         ·cases e
          exact ⟨.inr (.inl ⟨by decide,.inr (by decide)⟩),by simp⟩
         ·obtain e:=List.mem_singleton.1 e;cases e;exact ⟨.inr (.inl ⟨by decide,.inl (by decide)⟩),by simp⟩
        show callK cx true _ st2 (ev st2.t f) (args.toList.map (ev st2.t)) K';rw [hargs st2 ha,ha.t f (by simp [Op.operands,Call.operands]),e1];unfold callK;simp only [hdc,hb2,hc2];unfold yieldK;simp only [hvs,ha.h 1000 (by simp),ha.h 1001 (by simp),e3,e4];exact ⟨⟨trivial,trivial⟩,v,es',n',h1,h'⟩
       ·exact hk2.elim
      ·exact hk2.elim
     ·cases hf
    | false =>
    have hc2:Nat.beq (k+1) 3=false:=hc;rw [hc] at hf;have hk3:restK cx (k+1) dst st (ev st.t f) (args.toList.map (ev st.t)) K:=by
     simp only [hc2] at hk2; exact hk2
    have hf3:foot3 k dst (args.toList.map (ev st.t))=some (R,w):=hf;unfold foot3 at hf3;unfold restK at hk3;cases he:Nat.beq k 3 with
    | true =>
     have he2:Nat.beq (k+1) 4=true:=he;rw [he] at hf3;rw [he2] at hk3;have hf3:some (genR,some allN)=some (R,w):=hf3;have hk3:gencK cx dst st (ev st.t f) (args.toList.map (ev st.t)) K:=hk3;cases hf3;unfold gencK at hk3;split at hk3
     ·rename_i d f' e2 _ _ _;obtain ⟨σ,H0,Hn,args',res,g1,g2,g3,g4⟩:=hk3;simp only [Bool.and_eq_true] at g2;refine ⟨_,σ.map fun p=>(p.1,(heapOf Hn hfree p.2).ren (backId σ d 0) (heapOf Hn hfree)),(backH_eff (h:=st.h) (h':=heapOf Hn hfree) (d:=d) g2.1.1)▸g4,fun r' o' e=>?_,fun st2 ha K' h'=>?_⟩
      ·obtain ⟨p,hp,e⟩:=List.mem_map.1 e;cases e;exact ⟨.inr (.inr rfl),memB_in (List.all_eq_true.1 g2.2 p hp)⟩
      ·show callK cx true _ st2 (ev st2.t f) (args.toList.map (ev st2.t)) K';rw [hargs st2 ha,ha.t f (by simp [Op.operands,Call.operands])];unfold callK;simp only [hdc,hb2,hc2];unfold restK;simp only [he2];unfold gencK;rw [e2];refine ⟨σ,H0,Hn,args',res,fun h2 hh=>g1 h2 fun r hr=>(hh r hr).trans (ha.h r hr),by simp only [Bool.and_eq_true]; exact g2,g3,?_⟩;rw [backH_eff (h:=st2.h) (h':=heapOf Hn hfree) (d:=d) g2.1.1]; exact h'
     ·exact hk3.elim
    | false =>
    have he2:Nat.beq (k+1) 4=false:=he;rw [he] at hf3;rw [he2] at hk3;have hf:foot2 dst (args.toList.map (ev st.t))=some (R,w):=hf3;have hk:turnK cx (k+1) dst st.h (ev st.t f) (args.toList.map (ev st.t)) K:=hk3;obtain ⟨d,r,n,l,rfl,hl,e0⟩:=foot2_spec hf;cases e0;unfold turnK at hk;rw [hl] at hk;split at hk
    ·rename_i d0 f0 r0 n0 l0 e9 e1 e2;cases e9;cases e2;split at hk
     ·rename_i vs hvs;split at hk
      ·rename_i sz es hr;obtain ⟨n',es',h0,h1,h2⟩:=hk;have h00:=h0;simp only [Bool.and_eq_true,Nat.blt_eq] at h00;refine ⟨_,[(r,.dead),(newId d 0,_)],h2,fun r' o' e=>?_,fun st2 ha K' h'=>?_⟩
       ·rcases List.mem_cons.1 e with e | e
        ·cases e
         refine ⟨.inr (.inl ⟨by unfold newId; omega,.inl ?_⟩),List.mem_cons_self ..⟩;rw [Nat.add_mul_mod_self_left,Nat.mod_eq_of_lt h00.1.2]
        ·obtain e:=List.mem_singleton.1 e;cases e;refine ⟨.inr (.inl ⟨by unfold newId; omega,.inr ?_⟩),List.mem_cons_of_mem _ (List.mem_cons_self ..)⟩;rw [Nat.add_mul_div_left _ _ (by decide),Nat.div_eq_of_lt h00.1.2,Nat.zero_add]
       show callK cx true _ st2 (ev st2.t f) (args.toList.map (ev st2.t)) K';rw [hargs st2 ha,ha.t f (by simp [Op.operands,Call.operands]),hl,e1];unfold callK;simp only [hdc,hb2,hc2];unfold restK;simp only [he2];unfold turnK;simp only [hvs,ha.h r (List.mem_cons_self ..),hr]
       have:newFree st2.h d 1=newFree st.h d 1:=by simp only [newFree,ha.h (newId d 0) (List.mem_cons_of_mem _ (List.mem_cons_self ..))]
       exact ⟨n',es',by rw [this]; exact h0,h1,h'⟩
      ·exact hk.elim
     ·exact hk.elim
    ·exact hk.elim
 | builtin b =>
  refine Framed.toL ?_;have mm:∀ f:Int→Int→Int,(∀ (d:Option Nat) (h:Nat→HO) (tys:List Nat) (args:List AV) (K:HK),builtinK cx d h b tys args K=(match args with | [x,y]=>mmK f x y fun v=>K v h | _=>False))→R=[]∧w=none→Framed cx ⟨dst,.call ⟨.builtin b,args,tys⟩,ty,pos,after,gd⟩ st R w K:=by
   rintro f hb ⟨rfl,rfl⟩
   have hk:builtinK cx dst st.h b tys.toList (args.toList.map (ev st.t)) K:=hk;rw [hb] at hk;split at hk
   ·rename_i x y e;refine .pick (pick_mm f x y) hk fun st2 ha K' h=>?_;show builtinK cx dst st2.h b tys.toList (args.toList.map (ev st2.t)) K';rw [hb,hargs st2 ha,e];exact h
   ·exact hk.elim
  cases b
  case max=>exact mm max (fun d h tys args K=>by cases args with | nil=>rfl | cons x l=>cases l with | nil=>rfl | cons y l=>cases l <;> rfl) (by
   have hf:footCall cx dst (.builtin .max) st.t (args.toList.map (ev st.t))=some (R,w):=hf;simp only [footCall] at hf; cases hf; exact ⟨rfl,rfl⟩)
  case min=>exact mm min (fun d h tys args K=>by cases args with | nil=>rfl | cons x l=>cases l with | nil=>rfl | cons y l=>cases l <;> rfl) (by
   have hf:footCall cx dst (.builtin .min) st.t (args.toList.map (ev st.t))=some (R,w):=hf;simp only [footCall] at hf; cases hf; exact ⟨rfl,rfl⟩)
  case append =>
   obtain ⟨l⟩:=args
   match l,hk,hf with
   | [s,x],hk,hf=>exact frame_append hk hf
   | [],hk,hf=>cases tys; exact hk.elim
   | [_],hk,hf=>exact hk.elim
   | _ :: _ :: _ :: _,hk,hf=>exact hk.elim
  case len =>
   obtain ⟨l⟩:=args
   match l,hk,hf with
   | [x],hk,hf=>exact frame_len hk hf
   | [],hk,hf=>exact hk.elim
   | _ :: _ :: _,hk,hf=>exact hk.elim
  all_goals exact hk.elim
theorem aop_frame1 {o:Oper} (hc:∀ c,o.op≠.call c) (hs:(∃ t x lo hi mx,o.op=.slice t x lo hi mx)→asgO cx.pl.tok o.dst=none) (hk:aop cx true o st K) (hf:foot cx o st=some (R,w)):Framed cx o st R w K:=by
 obtain ⟨dst,op,ty,pos,after,gd⟩:=o;cases op with
 | call c=>exact absurd rfl (hc c)
 | alloc e=>exact frame_alloc hk hf
 | box e x=>exact frame_box hk hf
 | buildSlice t n ps=>exact frame_buildSlice hk hf
 | makeSlice t n c=>exact frame_makeSlice hk hf
 | makeMap t r=>exact frame_makeMap hk hf
 | store t p x=>exact frame_store hk hf
 | mapUpdate t m k x=>exact frame_mapUpdate hk hf
 | makeFunc fn first cap=>exact frame_makeFunc hk hf
 | load t p=>exact frame_load hk hf
 | assign x=>exact frame_assign hk hf
 | slice t x lo hi mx=>exact frame_slice (hs ⟨t,x,lo,hi,mx,rfl⟩) hk hf
 | lookup t x i ok=>exact frame_lookup hk hf
 | move x =>
  cases hf
  exact .pick (pick_id _) hk fun st2 ha K' h=>by simp only [aop,ha.t x (by simp [Op.operands])]; exact h
 | pick c a b =>
  cases hf
  exact .pick (pick_pick _ _ _) hk fun st2 ha K' h=>by simp only [aop,ha.t c (by simp [Op.operands]),ha.t a (by simp [Op.operands]),ha.t b (by simp [Op.operands])]; exact h
 | nilCheck x =>
  cases hf
  exact .pick (pick_nil _) hk fun st2 ha K' h=>by simp only [aop,ha.t x (by simp [Op.operands])]; exact h
 | binOp op t x y u =>
  simp only [foot] at hf;split at hf
  ·cases hf
  ·rename_i hx;cases hf;exact .pick (pick_bin2 _ _ _ _ _ _ hx) hk fun st2 ha K' h=>by simp only [aop,ha.t x (by simp [Op.operands]),ha.t y (by simp [Op.operands])]; exact h
 | unOp op t x =>
  cases hf
  exact .pick (pick_unop _ _) hk fun st2 ha K' h=>by simp only [aop,ha.t x (by simp [Op.operands])]; exact h
 | convert s t x =>
  cases hf
  exact .pick (pick_conv _ _ _ _) hk fun st2 ha K' h=>by simp only [aop,ha.t x (by simp [Op.operands])]; exact h
 | fieldAddr s x f =>
  cases hf
  exact .pick (pick_field _ _ _ _) hk fun st2 ha K' h=>by simp only [aop,ha.t x (by simp [Op.operands])]; exact h
 | field s x f =>
  cases hf
  exact .pick (pick_fieldV _ _ _ _) hk fun st2 ha K' h=>by simp only [aop,ha.t x (by simp [Op.operands])]; exact h
 | indexAddr t x i =>
  cases hf
  exact .pick (pick_indexAddr _ _ _ _) hk fun st2 ha K' h=>by simp only [aop,ha.t x (by simp [Op.operands]),ha.t i (by simp [Op.operands])]; exact h
 | index t x i =>
  cases hf
  exact .pick (pick_index _ _ _ _) hk fun st2 ha K' h=>by simp only [aop,ha.t x (by simp [Op.operands]),ha.t i (by simp [Op.operands])]; exact h
 | extract x i =>
  cases hf
  exact .pick (pick_extract _ _) hk fun st2 ha K' h=>by simp only [aop,ha.t x (by simp [Op.operands])]; exact h
 | build t ps =>
  cases hf
  refine .pick (pick_build _ _ _ _) hk fun st2 ha K' h=>?_;have hx:∀ p ∈ ps.toList,ev st2.t p.2=ev st.t p.2:=fun p hp=>ha.t p.2 (by
   simp only [Op.operands,List.mem_toArray];exact List.mem_map.2 ⟨p,hp,rfl⟩)
  simp only [aop];have fill:∀ (pl:Nat→Option (Nat × Nat)) (l:List (Nat × Operand)) (cs:List AV) (K:List AV→Prop),(∀ p ∈ l,ev st2.t p.2=ev st.t p.2)→fillK pl cs st2.t l K=fillK pl cs st.t l K:=by
   intro pl l
   induction l with
   | nil=>intro cs K _; rfl
   | cons p l ih =>
    intro cs K hp;obtain ⟨i,x⟩:=p;have h1:ev st2.t x=ev st.t x:=hp (i,x) (List.mem_cons_self ..);have h2:∀ cs,fillK pl cs st2.t l K=fillK pl cs st.t l K:=fun cs=>ih cs K (fun p hp'=>hp p (List.mem_cons_of_mem _ hp'));simp only [fillK,h1,h2]
  unfold buildK at h ⊢;simp only [fill _ _ _ _ hx];exact h
 | _=>cases hf
theorem aop_frame {o:Oper} (hk:aop cx true o st K) (hf:foot cx o st=some (R,w)):FramedL cx o st R w K:=by
 obtain ⟨dst,op,ty,pos,after,gd⟩:=o
 by_cases h:∃ c,op=.call c
 ·obtain ⟨c,rfl⟩:=h;exact frame_call hk hf
 ·by_cases h2:∃ t x lo hi mx,op=.slice t x lo hi mx
  ·obtain ⟨t,x,lo,hi,mx,rfl⟩:=h2;cases hp:asgO cx.pl.tok dst with
   | none=>exact Framed.toL (frame_slice hp hk hf)
   | some p=>exact frame_pop hp hk hf
  ·exact Framed.toL (aop_frame1 (fun c e=>h ⟨c,e⟩) (fun e=>absurd e h2) hk hf)
end
end Go.Eng

namespace Go.Eng

theorem foot_same {cx:Cx} {o:Oper} {st st2:St} (h:∀ x ∈ o.op.operands,ev st2.t x=ev st.t x):foot cx o st2=foot cx o st:=by
 obtain ⟨dst,op,ty,pos,after,gd⟩:=o;cases op with
 | call c =>
  obtain ⟨cal,args,tys⟩:=c;have ha:args.toList.map (ev st2.t)=args.toList.map (ev st.t):=List.map_congr_left fun x hx=>h x (by simp only [Op.operands,Call.operands,Array.mem_append]; exact .inr (by simpa using hx));simp only [foot];rw [ha];cases cal with
  | value f =>
   have hf:ev st2.t f=ev st.t f:=h f (by simp [Op.operands,Call.operands]);simp only [footCall,hf]
  | builtin b =>
   generalize args.toList.map (ev st.t)=l
   match l with
   | []=>cases b <;> rfl
   | [x]=>cases b <;> cases x <;> rfl
   | [x,y]=>cases b <;> cases x <;> rfl
   | x :: _ :: _ :: _=>cases b <;> cases x <;> rfl
  | invoke r m=>rfl
 | box e x=>simp only [foot,h x (by simp [Op.operands])]
 | buildSlice t n ps =>
  have hx:ps.toList.map (fun p=>ev st2.t p.2)=ps.toList.map (fun p=>ev st.t p.2):=List.map_congr_left fun p hp=>h p.2 (by
   simp only [Op.operands,List.mem_toArray];exact List.mem_map.2 ⟨p,hp,rfl⟩)
  simp only [foot,hx]
 | store t p x=>simp only [foot,h p (by simp [Op.operands]),h x (by simp [Op.operands])]
 | mapUpdate t m k x=>simp only [foot,h m (by simp [Op.operands]),h x (by simp [Op.operands])]
 | makeFunc fn first cap =>
  have hx:cap.toList.map (ev st2.t)=cap.toList.map (ev st.t):=List.map_congr_left fun x hx=>h x (by simp only [Op.operands,Array.mem_append]; exact .inr (by simpa using hx));simp only [foot,hx]
 | load t p=>simp only [foot,h p (by simp [Op.operands])]
 | assign x=>simp only [foot,h x (by simp [Op.operands])]
 | binOp op t x y u=>simp only [foot,h x (by simp [Op.operands])]
 | slice t x lo hi mx=>simp only [foot,h x (by simp [Op.operands])]
 | lookup t x i ok=>simp only [foot,h x (by simp [Op.operands])]
 | _=>rfl

def Looks (ops:Array Oper) (o:Oper) (st st2:St):Prop:=∀ d ∈ o.looksAt ops,st2.t d=st.t d
theorem Looks.operands {ops:Array Oper} {o:Oper} {st st2:St} (h:Looks ops o st st2):∀ x ∈ o.op.operands,ev st2.t x=ev st.t x:=fun x hx=>by
 cases x with
 | tmp t=>exact h t (List.mem_append_left _ (List.mem_filterMap.2 ⟨.tmp t,by simpa using hx,rfl⟩))
 | _=>rfl
theorem nthDst_eq (ops:Array Oper) (j:Nat):nthDst ops.toList j=(ops[j]?).bind (·.dst):=by
 have:∀ (l:List Oper) (j:Nat),nthDst l j=(l[j]?).bind (·.dst):=by
  intro l
  induction l with
  | nil=>intro j; simp [nthDst]
  | cons o l ih =>
   intro j;cases j with
   | zero=>simp [nthDst]
   | succ j=>simp [nthDst,ih]
 rw [this]; simp
theorem Looks.guard {ops:Array Oper} {o:Oper} {st st2:St} (h:Looks ops o st st2) {j:Nat} {b:Bool} (hg:o.guard=some (j,b)) {d:Nat} (hd:nthDst ops.toList j=some d):st2.t d=st.t d :=
 h d (List.mem_append_right _ (by rw [hg]; simp only; rw [← nthDst_eq,hd]; simp))

def St.after (st:St) (o:Oper) (v:AV) (e:List (Nat × HO)):St:=st.put o.dst v (effL st.h e)

def Yields (cx:Cx) (ops:Array Oper) (o:Oper) (st:St) (f:Foot) (v:AV) (e:List (Nat × HO)):Prop :=
 (∀ r o',(r,o') ∈ e→Covers f.2 r∧r ∈ f.1)∧∀ st2,Looks ops o st st2→(∀ r ∈ f.1,st2.h r=st.h r)→∀ K:St→Prop,K (st2.after o v e)→aoper cx true ops.toList o st2 K

theorem footO_same {cx:Cx} {ops:Array Oper} {o:Oper} {st st2:St} (h:Looks ops o st st2):footO cx ops.toList o st2=footO cx ops.toList o st:=by
 unfold footO;split
 ·exact foot_same h.operands
 ·rename_i j want hg;split
  ·rfl
  ·rename_i d hd;simp only [h.guard hg hd];split <;> first | exact foot_same h.operands | rfl

theorem aoper_yields {cx:Cx} {ops:Array Oper} {o:Oper} {st:St} {f:Foot} {K:St→Prop} (hk:aoper cx true ops.toList o st K) (hf:footO cx ops.toList o st=some f) :
  ∃ v e,Yields cx ops o st f v e∧K (st.after o v e):=by
 obtain ⟨R,w⟩:=f;have skip:R=[]∧w=none→K (st.put o.dst (.v undef) st.h)→(∀ st2,Looks ops o st st2→∀ K:St→Prop,K (st2.put o.dst (.v undef) st2.h)→aoper cx true ops.toList o st2 K)→∃ v e,Yields cx ops o st (R,w) v e∧K (st.after o v e):=by
  rintro ⟨rfl,rfl⟩ h1 h2
  exact ⟨.v undef,[],⟨fun r o' e=>(by cases e),fun st2 hl _ K h=>h2 st2 hl K h⟩,h1⟩
 have run:foot cx o st=some (R,w)→aop cx true o st (fun v h=>K (st.put o.dst v h))→(∀ st2,Looks ops o st st2→∀ K:St→Prop,aop cx true o st2 (fun v h=>K (st2.put o.dst v h))→aoper cx true ops.toList o st2 K)→∃ v e,Yields cx ops o st (R,w) v e∧K (st.after o v e):=by
  intro hf hk h2;obtain ⟨v,e,q1,q2,q3⟩:=aop_frame hk hf;exact ⟨v,e,⟨q2,fun st2 hl hh K h=>h2 st2 hl K (q3 st2 ⟨hl.operands,hh⟩ _ h)⟩,q1⟩
 unfold aoper at hk;unfold footO at hf;cases hg:o.guard with
 | none =>
  rw [hg] at hk hf;exact run hf hk (fun st2 hl K h=>by unfold aoper; rw [hg]; exact h)
 | some p =>
  obtain ⟨j,want⟩:=p;rw [hg] at hk hf;simp only at hk hf;cases hd:nthDst ops.toList j with
  | none=>rw [hd] at hk; exact hk.elim
  | some d =>
   rw [hd] at hk hf;simp only at hk hf;have he:∀ st2,Looks ops o st st2→st2.t d=st.t d:=fun st2 hl=>hl.guard hg hd;generalize hx:st.t d=x at hk hf he;split at hk
   ·exact run hf hk (fun st2 hl K h=>by unfold aoper; simp only [hg,hd,he st2 hl]; exact h)
   ·exact run hf hk (fun st2 hl K h=>by unfold aoper; simp only [hg,hd,he st2 hl]; exact h)
   ·exact skip (by cases hf; exact ⟨rfl,rfl⟩) hk (fun st2 hl K h=>by unfold aoper; simp only [hg,hd,he st2 hl]; exact h)
   ·exact skip (by cases hf; exact ⟨rfl,rfl⟩) hk (fun st2 hl K h=>by unfold aoper; simp only [hg,hd,he st2 hl]; exact h)
   ·exact skip (by cases hf; exact ⟨rfl,rfl⟩) hk (fun st2 hl K h=>by unfold aoper; simp only [hg,hd,he st2 hl]; exact h)
   ·exact hk.elim

def aAt (cx:Cx) (ops:Array Oper) (FT:Nat→Foot) (i:Nat) (K:St→Prop) (st:St):Prop :=
 match ops[i]? with
 | none=>K st
 | some o=>footO cx ops.toList o st=some (FT i)∧aoper cx true ops.toList o st K
def aAny (cx:Cx) (ops:Array Oper) (FT:Nat→Foot) (K:St→Prop):Nat→Array Bool→St→Prop
 | 0,listed,st=>Region.ready .any ops listed=[]∧K st
 | fuel+1,listed,st =>
  (Region.ready .any ops listed=[]→K st)∧∀ i ∈ Region.ready .any ops listed,aAt cx ops FT i (aAny cx ops FT K fuel (listed.setIfInBounds i true)) st

theorem tput_comm (t:Nat→AV) {d d' : Nat} (h:d'≠d) (v v' : AV):tput (tput t d v) d' v'=tput (tput t d' v') d v:=by
 funext i
 unfold tput
 by_cases h1:i=d <;> by_cases h2:i=d'
 ·exact absurd (h2.symm.trans h1) h
 ·subst h1; simp [beq_ne h2]
 ·subst h2; simp [beq_ne h1]
 ·simp [beq_ne h1,beq_ne h2]
theorem hput_comm (t:Nat→HO) {d d' : Nat} (h:d'≠d) (v v' : HO):hput (hput t d v) d' v'=hput (hput t d' v') d v:=by
 funext i
 unfold hput
 by_cases h1:i=d <;> by_cases h2:i=d'
 ·exact absurd (h2.symm.trans h1) h
 ·subst h1; simp [beq_ne h2]
 ·subst h2; simp [beq_ne h1]
 ·simp [beq_ne h1,beq_ne h2]
theorem memB_mem {l:List Nat} {n:Nat} (h:n ∈ l):memB l n=true:=by
 induction l with
 | nil=>cases h
 | cons a l ih =>
  unfold memB
  by_cases e:a=n
  ·subst e; simp
  ·rw [beq_ne e]; exact ih ((List.mem_cons.1 h).resolve_left (fun q=>e q.symm))
theorem mem_memB {l:List Nat} {n:Nat} (h:memB l n=true):n ∈ l:=by
 induction l with
 | nil=>cases h
 | cons a l ih =>
  unfold memB at h
  by_cases e:a=n
  ·exact e▸List.mem_cons_self ..
  ·rw [beq_ne e] at h; exact List.mem_cons_of_mem _ (ih h)
theorem off_spec {l:List Nat} {x:Nat} (h:offB l x=true):∀ r,Covers (some x) r→r ∉ l:=by
 intro r hc hr;unfold offB at h
 by_cases hx:x=allN
 ·subst hx;rw [Nat.beq_refl,cond_true] at h;cases l with
  | nil=>cases hr
  | cons a l=>cases h
 rw [beq_ne hx,cond_false] at h;simp only [Bool.and_eq_true,Bool.or_eq_true,Bool.not_eq_true',Nat.blt_eq] at h;rcases hc with rfl | ⟨h1,h2⟩ | hc
 ·rw [memB_mem hr] at h; cases h.1
 ·rcases h.2 with h3 | h3
  ·omega
  ·rcases h2 with rfl | rfl
   ·rw [memB_mem hr] at h3; cases h3.1
   ·rw [memB_mem hr] at h3; cases h3.2
 ·exact hx hc
theorem disj_spec {a b:Foot} (h:disjB a b=true):(∀ r,Covers a.2 r→r ∉ b.1)∧∀ r,Covers b.2 r→r ∉ a.1:=by
 obtain ⟨a1,a2⟩:=a;obtain ⟨b1,b2⟩:=b;simp only [disjB,Bool.and_eq_true] at h;refine ⟨fun r e=>?_,fun r e=>?_⟩
 ·cases a2 with
  | none=>exact e.elim
  | some x=>exact off_spec h.1 r e
 ·cases b2 with
  | none=>exact e.elim
  | some x=>exact off_spec h.2 r e

section
variable {cx:Cx} {ops:Array Oper} {FT:Nat→Foot}
theorem looks_after {oi oj:Oper} (h:∀ d,oi.dst=some d→d ∉ oj.looksAt ops) (st:St) (v:AV) (e:List (Nat × HO)):Looks ops oj st (st.after oi v e):=by
 intro d hd;cases hdst:oi.dst with
 | none=>simp [St.after,St.put,hdst]
 | some d' =>
  have:d≠d':=fun q=>h d' hdst (q▸hd)
  simp [St.after,St.put,hdst,tput,beq_ne this]
theorem Looks.symm {o:Oper} {st st2:St} (h:Looks ops o st st2):Looks ops o st2 st:=fun d hd=>(h d hd).symm
theorem h_after {o:Oper} {st:St} {v:AV} {e:List (Nat × HO)} : (st.after o v e).h=effL st.h e:=by
 unfold St.after St.put; cases o.dst <;> rfl
theorem eff_other {r:Nat} : ∀ {e:List (Nat × HO)} {h:Nat→HO},(∀ o',(r,o') ∉ e)→effL h e r=h r
 | [],_,_=>rfl
 | p :: e,h,hr=>by
  have:r≠p.1:=fun q=>hr p.2 (by rw [q]; exact List.mem_cons_self ..)
  show effL (hput h p.1 p.2) e r=h r;rw [eff_other fun o' ho=>hr o' (List.mem_cons_of_mem _ ho),hput_ne _ _ _ _ this]
theorem effL_put {r:Nat} {o:HO} : ∀ {e:List (Nat × HO)} {h:Nat→HO},(∀ r' o',(r',o') ∈ e→r'≠r)→effL (hput h r o) e=hput (effL h e) r o
 | [],_,_=>rfl
 | p :: e,h,hr=>by
  show effL (hput (hput h r o) p.1 p.2) e=hput (effL (hput h p.1 p.2) e) r o;rw [hput_comm h (hr p.1 p.2 (List.mem_cons_self ..)),effL_put fun r' o' ho=>hr r' o' (List.mem_cons_of_mem _ ho)]
theorem effL_comm:∀ {e e' : List (Nat × HO)} {h:Nat→HO},(∀ r o r' o',(r,o) ∈ e→(r',o') ∈ e'→r'≠r)→effL (effL h e) e'=effL (effL h e') e
 | [],_,_,_=>rfl
 | p :: e,e',h,hd=>by
  show effL (effL (hput h p.1 p.2) e) e'=effL (hput (effL h e') p.1 p.2) e;rw [← effL_put fun r' o' ho=>hd p.1 p.2 r' o' (List.mem_cons_self ..) ho,effL_comm fun r o r' o' h1 h2=>hd r o r' o' (List.mem_cons_of_mem _ h1) h2]
theorem after_comm {oi oj:Oper} {st:St} {v v' : AV} {e e' : List (Nat × HO)} (h1:∀ d,oi.dst=some d→oj.dst≠some d) (h2:∀ r o r' o',(r,o) ∈ e→(r',o') ∈ e'→r'≠r) :
  (st.after oi v e).after oj v' e'=(st.after oj v' e').after oi v e:=by
 have hh:effL (effL st.h e) e'=effL (effL st.h e') e:=effL_comm h2;have key:∀ o:Oper,∀ v e,∀ st:St,st.after o v e=⟨match o.dst with | none=>st.t | some d=>tput st.t d v,effL st.h e⟩:=fun o v e st=>by
  unfold St.after St.put; cases o.dst <;> rfl
 rw [key,key,key,key];simp only [hh];cases hi:oi.dst with
 | none=>rfl
 | some d =>
  cases hj:oj.dst with
  | none=>rfl
  | some d' =>
   have hne:d'≠d:=fun q=>h1 d hi (by rw [hj,q]);simp only [tput_comm st.t hne v v']


theorem aAny_first {K:St→Prop} {i:Nat} {oi:Oper} {v:AV} {e:List (Nat × HO)} (hi:ops[i]?=some oi) (D:Nat→Prop)
  (hD:∀ j,D j→∃ oj,ops[j]?=some oj∧∃ ed ∈ oj.after,Region.binds .any ed=true∧(ed.on=i∨D ed.on)) :
  ∀ (fuel:Nat) (listed:Array Bool) (st:St),
   (∀ j oj,ops[j]?=some oj→j≠i→listed.getD j true=false→¬ D j→oi.apart ops oj=true∧disjB (FT i) (FT j)=true) →
   i ∈ Region.ready .any ops listed→(∀ j,D j→listed.getD j true=false)→footO cx ops.toList oi st=some (FT i)→Yields cx ops oi st (FT i) v e →
   aAny cx ops FT K fuel (listed.setIfInBounds i true) (st.after oi v e)→aAny cx ops FT K (fuel+1) listed st:=by
 have here:∀ (fuel:Nat) (listed:Array Bool) (st:St),footO cx ops.toList oi st=some (FT i)→Yields cx ops oi st (FT i) v e →
   aAny cx ops FT K fuel (listed.setIfInBounds i true) (st.after oi v e)→aAt cx ops FT i (aAny cx ops FT K fuel (listed.setIfInBounds i true)) st:=by
  intro fuel listed st hf hy H;unfold aAt;rw [hi];exact ⟨hf,hy.2 st (fun _ _=>rfl) (fun _ _=>rfl) _ H⟩
 intro fuel
 induction fuel with
 | zero =>
  intro listed st _ hr _ hf hy H;refine ⟨fun h=>(by rw [h] at hr; cases hr),fun j hj=>?_⟩
  by_cases hji:j=i
  ·subst hji; exact here 0 listed st hf hy H
  ·have:=ready_mono hj hji
   rw [H.1] at this;cases this
 | succ fuel ih =>
  intro listed st hfree hr hDl hf hy H;refine ⟨fun h=>(by rw [h] at hr; cases hr),fun j hj=>?_⟩
  by_cases hji:j=i
  ·subst hji; exact here (fuel+1) listed st hf hy H
  ·have h1:=H.2 j (ready_mono hj hji);obtain ⟨hjun,oj,hoj,hall⟩:=mem_ready.1 hj;have getd:∀ k,listed.getD k true=false→listed.getD k false=true→False:=fun k h0 h1=>by
    rcases Nat.lt_or_ge k listed.size with h' | h'
    ·simp [h'] at h0 h1; rw [h0] at h1; cases h1
    ·simp [Array.getElem?_eq_none h'] at h1
   have hnD:¬ D j:=fun hdj=>by
    obtain ⟨oj',ho',ed,he,hb,hon⟩:=hD j hdj;rw [hoj] at ho'; cases ho';have hl:=hall ed he hb;rcases hon with h2 | h2
    ·exact getd _ (by rw [h2]; exact (mem_ready.1 hr).1) hl
    ·exact getd _ (hDl _ h2) hl
   obtain ⟨hap,hdj⟩:=hfree j oj hoj hji hjun hnD;obtain ⟨a1,a2,a3⟩:=Oper.apart_spec hap;obtain ⟨d1,d2⟩:=disj_spec hdj;unfold aAt at h1 ⊢;rw [hoj] at h1 ⊢;obtain ⟨hfj,hkj⟩:=h1;have hlj:=looks_after (ops:=ops) a1 st v e;obtain ⟨vj,ej,hyj,hK⟩:=aoper_yields hkj hfj;have he1:∀ r o',(r,o') ∈ e→r ∉ (FT j).1:=fun r o' q=>d1 r (hy.1 r o' q).1;have he2:∀ r o',(r,o') ∈ ej→r ∉ (FT i).1:=fun r o' q=>d2 r (hyj.1 r o' q).1;refine ⟨by rw [← footO_same hlj]; exact hfj,hyj.2 st hlj.symm (fun r hr'=>?_) _ ?_⟩
   ·rw [h_after,eff_other (fun o' q=>he1 r o' q hr')]
   ·have hli:=looks_after (ops:=ops) a3 st vj ej;refine ih (listed.setIfInBounds j true) (st.after oj vj ej) (fun k ok hk hki hun hno=>?_) (ready_mono hr (Ne.symm hji)) (fun k hk=>?_) (by rw [footO_same hli]; exact hf) ⟨hy.1,fun st2 hl hh K' h'=>?_⟩ ?_
    ·by_cases hjk:j=k
     ·subst hjk; exact hfree _ ok hk hki hjun hno
     ·rw [getD_set_ne true hjk] at hun; exact hfree k ok hk hki hun hno
    ·by_cases hjk:j=k
     ·subst hjk; exact absurd hk hnD
     ·rw [getD_set_ne true hjk]; exact hDl k hk
    ·refine hy.2 st2 (fun d hd=>(hl d hd).trans (hli d hd)) (fun r hr'=>?_) K' h';rw [hh r hr',h_after,eff_other (fun o' q=>he2 r o' q hr')]
    ·rw [Array.setIfInBounds_comm _ _ (Ne.symm hji)] at hK;rw [← after_comm a2 (fun r o r' o' q q' e2=>he2 r' o' q' (by rw [e2]; exact (hy.1 r o q).2))];exact hK

def Path (cx:Cx) (ops:Array Oper) (K:St→Prop):List Oper→List Foot→St→Prop
 | [],[],st=>K st
 | o :: r,f :: fs,st=>footO cx ops.toList o st=some f∧∃ v e,Yields cx ops o st f v e∧Path cx ops K r fs (st.after o v e)
 | _,_,_=>False
theorem adraw_path {K:St→Prop} : ∀ (l:List Oper) (acc:List Foot) (st:St),adraw cx ops l acc st K→∃ fs,drawOk ops (acc.reverse++fs)=true∧Path cx ops K l fs st
 | [],acc,st,h=>⟨[],by simpa using h.1,h.2⟩
 | o :: r,acc,st,h=>by
  unfold adraw at h;split at h
  ·rename_i f hf;obtain ⟨v,e,h1,h2⟩:=aoper_yields h hf;obtain ⟨fs,q1,q2⟩:=adraw_path r _ _ h2;exact ⟨f :: fs,by simpa using q1,hf,v,e,h1,q2⟩
  ·exact h.elim

theorem hasEdge_spec {o:Oper} {i:Nat} {D:List Nat} (h:hasEdge o i D=true):∃ ed ∈ o.after,Region.binds .any ed=true∧(ed.on=i∨ed.on ∈ D):=by
 unfold hasEdge at h;obtain ⟨ed,h1,h2⟩:=List.any_eq_true.1 h;simp only [Bool.and_eq_true,Bool.or_eq_true] at h2;exact ⟨ed,by simpa using h1,h2.1,h2.2.imp Nat.eq_of_beq_eq_true mem_memB⟩
theorem sound_spec {i:Nat} {D:List Nat} : ∀ (l:List Oper) (k:Nat),soundB i D k l=true→∀ j o,l[j]?=some o→k+j ∈ D→hasEdge o i D=true
 | [],_,_,_,_,h,_=>by simp at h
 | o :: l,k,hs,j,o',h,hm=>by
  simp only [soundB,Bool.and_eq_true] at hs;cases j with
  | zero =>
   simp only [List.getElem?_cons_zero,Option.some.injEq] at h;subst h;have h1:=hs.1;rw [memB_mem (by simpa using hm)] at h1;simpa using h1
  | succ j=>exact sound_spec l (k+1) hs.2 j o' (by simpa using h) (by rw [Nat.add_assoc,Nat.add_comm 1 j]; exact hm)
theorem apart_all {oi:Oper} {fi:Foot} {D:List Nat} : ∀ (l:List Oper) (fs:List Foot) (k:Nat),apartAll ops oi fi D k l fs=true→l.length=fs.length∧∀ j o f,l[j]?=some o→fs[j]?=some f→k+j ∉ D→oi.apart ops o=true∧disjB fi f=true
 | [],[],_,_=>⟨rfl,fun _ _ _ h=>by simp at h⟩
 | [],_ :: _,_,h=>by simp [apartAll] at h
 | _ :: _,[],_,h=>by simp [apartAll] at h
 | o :: l,f :: fs,k,h=>by
  simp only [apartAll,Bool.and_eq_true,Bool.or_eq_true] at h;obtain ⟨h1,h2⟩:=apart_all l fs (k+1) h.2;refine ⟨by simp [h1],fun j o' f' q1 q2 hn=>?_⟩;cases j with
  | zero =>
   simp only [List.getElem?_cons_zero,Option.some.injEq] at q1 q2;subst q1; subst q2;rcases h.1 with h3 | h3
   ·exact absurd (mem_memB h3) hn
   ·exact h3
  | succ j=>exact h2 j o' f' (by simpa using q1) (by simpa using q2) (by simpa [Nat.add_assoc,Nat.add_comm 1 j] using hn)

theorem aAny_lex {K:St→Prop} : ∀ (l:List Oper) (fs:List Foot) (k:Nat) (listed:Array Bool) (st:St),(∀ j,l[j]?=ops[k+j]?)→(∀ j f,fs[j]?=some f→FT (k+j)=f)→listed.size=ops.size →
  (∀ j,j<ops.size→listed.getD j true=decide (j<k))→drawGo ops ops.toList k l fs=true→Path cx ops K l fs st→aAny cx ops FT K l.length listed st
 | [],[],k,listed,st,hl,_,hs,hL,_,h=>by
  refine ⟨?_,h⟩;apply List.eq_nil_iff_forall_not_mem.2;intro j hj;obtain ⟨h1,o,ho,_⟩:=mem_ready.1 hj;have hlt:=(Array.getElem?_eq_some_iff.1 ho).1;rw [hL j hlt] at h1;have hge:k≤j:=by simpa using h1
  have:=hl (j - k)
  rw [show k+(j - k)=j by omega,ho] at this;simp at this
 | [],_ :: _,_,_,_,_,_,_,_,h,_=>by simp [drawGo] at h
 | _ :: _,[],_,_,_,_,_,_,_,h,_=>by simp [drawGo] at h
 | o :: l,f :: fs,k,listed,st,hl,hF,hs,hL,hg,h=>by
  simp only [drawGo,Bool.and_eq_true] at hg;obtain ⟨⟨⟨⟨g1,g2⟩,g3⟩,g4⟩,g5⟩:=hg;obtain ⟨hf,v,e,hy,hp⟩:=h;have h0:ops[k]?=some o:=by simpa using (hl 0).symm
  have hk:=(Array.getElem?_eq_some_iff.1 h0).1;have hFk:FT k=f:=by simpa using hF 0 f rfl
  have hl' : ∀ j,l[j]?=ops[k+1+j]?:=fun j=>by have:=hl (j+1); simpa [Nat.add_assoc,Nat.add_comm 1 j] using this
  have hF' : ∀ j f,fs[j]?=some f→FT (k+1+j)=f:=fun j f' hj=>by have:=hF (j+1) f' (by simpa using hj); simpa [Nat.add_assoc,Nat.add_comm 1 j] using this
  obtain ⟨hlen,hap⟩:=apart_all l fs (k+1) g4;have hDrange:∀ j,j ∈ depsGo k [] 0 ops.toList→k<j∧j<ops.size:=fun j hj=>by
   have:=(List.all_eq_true.1 g3) j hj
   simp only [Bool.and_eq_true,Nat.blt_eq,Array.length_toList] at this;exact this
  refine aAny_first h0 (fun j=>j ∈ depsGo k [] 0 ops.toList) (fun j hj=>?_) l.length listed st (fun j oj hoj hjk hun hnD=>?_) ?_ (fun j hj=>?_) (by rw [hFk]; exact hf) (by rw [hFk]; exact hy) ?_
  ·have hlt:=(hDrange j hj).2
   have:=sound_spec ops.toList 0 g2 j ops[j] (by simp [hlt]) (by simpa using hj)
   obtain ⟨ed,e1,e2,e3⟩:=hasEdge_spec this;exact ⟨ops[j],by simp [hlt],ed,e1,e2,e3⟩
  ·have hlt:=(Array.getElem?_eq_some_iff.1 hoj).1;rw [hL j hlt] at hun;have hge:k<j:=by have q:k≤j:=(by simpa using hun); omega
   have e1:l[j - (k+1)]?=some oj:=by rw [hl',show k+1+(j - (k+1))=j by omega]; exact hoj
   have hfl:j - (k+1)<fs.length:=by rw [← hlen]; exact (List.getElem?_eq_some_iff.1 e1).1
   have e2:fs[j - (k+1)]?=some fs[j - (k+1)]:=List.getElem?_eq_getElem hfl;have e3:=hF' _ _ e2;rw [show k+1+(j - (k+1))=j by omega] at e3;rw [hFk,e3];exact hap _ _ _ e1 e2 (by rw [show k+1+(j - (k+1))=j by omega]; exact hnD)
  ·refine mem_ready.2 ⟨by rw [hL k hk]; simp,o,h0,fun ed he hb=>?_⟩
   have:=(List.all_eq_true.1 g1) ed (by simpa using he)
   simp only [hb,Bool.not_true,Bool.false_or,Nat.blt_eq] at this;have h1:=hL ed.on (by omega);have hlt:ed.on<listed.size:=by omega
   simp [hlt] at h1 ⊢;rw [h1]; simpa using this
  ·have:=hDrange j hj
   rw [hL j this.2];simp; omega
  ·refine aAny_lex l fs (k+1) _ _ hl' hF' (by simp [hs]) (fun j hj=>?_) g5 hp
   by_cases hjk:j=k
   ·subst hjk
    have:j<listed.size:=by omega
    simp [this]
   ·rw [getD_set_ne true (Ne.symm hjk),hL j hj]
    by_cases h1:j<k
    ·simp [h1]; omega
    ·simp [h1]; omega

theorem adraw_any {K:St→Prop} {st:St} (h:adraw cx ops ops.toList [] st K):Region.noSelect ops=true∧∃ FT,aAny cx ops FT K ops.size (Array.replicate ops.size false) st:=by
 obtain ⟨fs,h1,h2⟩:=adraw_path _ _ _ h;simp only [drawOk,List.reverse_nil,List.nil_append,Bool.and_eq_true] at h1;refine ⟨h1.1,fun j=>fs.getD j default,?_⟩
 have:=aAny_lex (FT:=fun j=>fs.getD j default) ops.toList fs 0 (Array.replicate ops.size false) st (by simp) (fun j f hj=>by simp [hj]) (by simp) (fun j hj=>by simp [hj]) h1.2 h2
 simpa using this
end
end Go.Eng
