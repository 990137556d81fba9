/- Lemmas for the claims of this seat, without a condition: part 11 (EngX, EngY, EngZ). -/
import Derived.Test.YtddfphmpfnmknaaGreatDoorA10
namespace Go.Eng
section
variable {cx:Cx}{dst:Option Nat}{ty:Nat}{pos:String}{after:Array Edge}{gd:Option (Nat×Bool)}{st:St}{R:List Nat}{w:Option Nat}{K:HK}
theorem Yt{t:Nat}{p:Operand}(hk:FF cx true ⟨dst,.load t p,ty,pos,after,gd⟩ st K)(hf:E5 cx ⟨dst,.load t p,ty,pos,after,gd⟩ st=some (R,w)):D8 cx ⟨dst,.load t p,ty,pos,after,gd⟩ st R w K:=by
 simp only[FF]at hk;have hn:∀st2,IB ⟨dst,.load t p,ty,pos,after,gd⟩ R st st2→ev st2.t p=ev st.t p:=fun st2 ha=>ha.t p (by simp[Op.operands]);simp only[E5]at hf;unfold HY at hk;split at hf
 ·rename_i cs hp;cases hf;rw[hp]at hk;simp only at hk;exact .pick (H2 _ _ _) hk fun st2 ha K' h=>by simp only[FF,HY,hn st2 ha,hp];exact h
 ·rename_i r off hp;cases hf;rw[hp]at hk;simp only at hk;split at hk
  ·rename_i cs hr;exact .pick (H2 _ _ _) hk fun st2 ha K' h=>by simp only[FF,HY,hn st2 ha,hp,ha.h r (Ab ..),hr];exact h
  ·rename_i cs hr;exact .pick (H2 _ _ _) hk fun st2 ha K' h=>by simp only[FF,HY,hn st2 ha,hp,ha.h r (Ab ..),hr];exact h
  ·exact hk.elim
 ·rename_i r n sz i off hp;cases hf;rw[hp]at hk;simp only at hk;split at hk
  ·rename_i Gd es hr;split at hk
   ·rename_i hs;exact .pick (Dq (Mz fun _=>Dq (H2 _ _ _))) hk fun st2 ha K' h=>by simp only[FF,HY,hn st2 ha,hp,ha.h r (Ab ..),hr,hs];exact h
   ·exact hk.elim
  ·rename_i Gd es i' c av hr;split at hk
   ·rename_i hs;exact .pick (Dq (H2 _ _ _)) hk fun st2 ha K' h=>by simp only[FF,HY,hn st2 ha,hp,ha.h r (Ab ..),hr,hs];exact h
   ·exact hk.elim
  ·exact hk.elim
 ·cases hf
theorem Vw{x:Operand}(hk:FF cx true ⟨dst,.assign x,ty,pos,after,gd⟩ st K)(hf:E5 cx ⟨dst,.assign x,ty,pos,after,gd⟩ st=some (R,w)):D8 cx ⟨dst,.assign x,ty,pos,after,gd⟩ st R w K:=by
 simp only[FF]at hk;have hn:∀st2,IB ⟨dst,.assign x,ty,pos,after,gd⟩ R st st2→ev st2.t x=ev st.t x:=fun st2 ha=>ha.t x (by simp[Op.operands]);simp only[E5]at hf;split at hf
 ·cases hf
 ·rename_i hx;cases hf;have same:∃y,∀(h:Nat→HO) (K:HK),NR cx dst h (ev st.t x) K↔K y h:=by
   unfold NR;cases dst with
   |none=>exact⟨_,fun _ _=>PP⟩
   |some d =>
    simp only;cases Gq cx.pl.tok d with
    |some sz =>
     simp only;cases Nat.beq sz 0 with
     |true=>exact⟨_,fun _ _=>PP⟩
     |false =>
      refine⟨ev st.t x,fun h K=>?_⟩;simp only;split
      ·rename_i e;exact absurd e (hx _ _ _)
      ·exact PP
    |none =>
     simp only;cases Gq cx.pl.arr d with
     |some sz =>
      refine⟨ev st.t x,fun h K=>?_⟩;simp only;split
      ·rename_i e;exact absurd e (hx _ _ _)
      ·exact PP
     |none=>exact⟨_,fun _ _=>PP⟩
  obtain⟨y,same⟩:=same;exact .pick (Dh y) ((same _ _).1 hk) fun st2 ha K' h=>by simp only[FF];rw[hn st2 ha];exact(same _ _).2 h
theorem Qc{t:Nat}{x:Operand}{lo hi mx:Option Operand}(hp:M4 cx.pl.tok dst=none)(hk:FF cx true ⟨dst,.slice t x lo hi mx,ty,pos,after,gd⟩ st K)(hf:E5 cx ⟨dst,.slice t x lo hi mx,ty,pos,after,gd⟩ st=some (R,w)) :
  D8 cx ⟨dst,.slice t x lo hi mx,ty,pos,after,gd⟩ st R w K:=by
 simp only[FF,hp]at hk;have hn:∀st2,IB ⟨dst,.slice t x lo hi mx,ty,pos,after,gd⟩ R st st2→ev st2.t x=ev st.t x∧BY st2.t lo=BY st.t lo∧BY st2.t hi=BY st.t hi∧BY st2.t mx=BY st.t mx:=by
  intro st2 ha;have uW:∀y:Option Operand,(∀z,y=some z→ev st2.t z=ev st.t z)→BY st2.t y=BY st.t y:=by
   intro y hy;cases y with
   |none=>rfl
   |some z=>simp only[BY];rw[hy z rfl]
  exact⟨ha.t x (by simp[Op.operands]),uW lo (fun z e=>ha.t z (by simp[Op.operands,e])),uW hi (fun z e=>ha.t z (by simp[Op.operands,e])),uW mx (fun z e=>ha.t z (by simp[Op.operands,e]))⟩
 simp only[E5,hp]at hf;split at hf
 ·cases hf
 ·rename_i hx;cases hf;have e3:BY st.t none=some none:=rfl
  have In:F0 (fun K1=>Gc cx dst st.h t (ev st.t x) (BY st.t lo) (BY st.t hi) (some none) fun v _=>K1 v) ∧
    ∀(h:Nat→HO) (K:HK),Gc cx dst h t (ev st.t x) (BY st.t lo) (BY st.t hi) (some none) K↔Gc cx dst st.h t (ev st.t x) (BY st.t lo) (BY st.t hi) (some none) (fun v _=>K v h):=by
   generalize ev st.t x=X at hx;unfold Gc;constructor
   ·repeat' split
    all_goals first | exact Cm | exact Dq (Dh _) | exact Dq (Dq (Dh _)) | skip
    all_goals first | (rename_i e;cases e;done) | skip
    all_goals (exfalso;exact hx _ _ rfl)
   ·intro h K
    repeat' split
    all_goals first | exact PP | skip
    all_goals exfalso
    all_goals first | exact hx _ _ rfl | (rename some none=some (some _)=>e4;cases e4)
  rw[e3]at hk;exact .pick In.1 ((In.2 _ _).1 hk) fun st2 ha K' h=>by
   obtain⟨n1,n2,n3,n4⟩:=hn st2 ha;simp only[FF,hp];rw[n1,n2,n3,n4,e3];exact(In.2 _ _).2 h
 ·rename_i y tk es hx;obtain⟨d,rfl,e0⟩:=Il hf;cases e0;rw[hx]at hk;unfold Gc at hk;split at hk
  ·rename_i Hs Lt kZ e1 e2 e3;split at hk
   ·split at hk<;>first | exact hk.elim | (rename_i e;cases e)
   ·rename_i e he;split at hk
    ·exact hk.elim
    ·rename_i k Eu;simp only at hk;split at hk
     ·exfalso
      rename_i e4;simp only[BY]at e3;split at e3<;>cases e3
     ·rename_i m;split at hk
      ·rename some d=some _=>e5
       cases e5
       split at hk
       ·rename_i mo;refine⟨_,none,hk.2.2,fun r o' e=>(by cases e),fun st2 GJ K' h'=>?_⟩;obtain⟨n1,n2,n3,n4⟩:=hn st2 GJ;simp only[FF,hp];rw[n1,n2,n3,n4,hx,e1,e2,e3];unfold Gc;simp only[he];split
        ·rename_i e0;rw[Eu]at e0;cases e0
        ·simp only[mo];exact⟨hk.1,hk.2.1,h'⟩
       rename_i mo;split at hk
       ·rename_i hd;refine⟨_,some (d,_),hk.2.2,fun r o' e=>(by cases e;exact⟨rfl,Ab ..⟩),fun st2 GJ K' h'=>?_⟩;obtain⟨n1,n2,n3,n4⟩:=hn st2 GJ;simp only[FF,hp];rw[n1,n2,n3,n4,hx,e1,e2,e3];unfold Gc;simp only[he];split
        ·rename_i e0;rw[Eu]at e0;cases e0
        ·simp only[mo];rw[GJ.h d (Ab ..),hd];exact⟨hk.1,hk.2.1,h'⟩
       ·exact hk.elim
      ·exact hk.elim
   ·exact hk.elim
  ·exact hk.elim
 ·cases hf
theorem aW{t:Nat}{x:Operand}{lo hi mx:Option Operand}{p:Nat}(hp:M4 cx.pl.tok dst=some p)(hk:FF cx true ⟨dst,.slice t x lo hi mx,ty,pos,after,gd⟩ st K)(hf:E5 cx ⟨dst,.slice t x lo hi mx,ty,pos,after,gd⟩ st=some (R,w)) :
  QQ cx ⟨dst,.slice t x lo hi mx,ty,pos,after,gd⟩ st R w K:=by
 simp only[FF,hp]at hk;simp only[E5,hp]at hf;obtain⟨d',r,n,hd,hx,e0⟩:=Yr hf;cases e0;cases dst with
 |none=>cases hd
 |some d =>
 cases hd
 unfold MY at hk;split at hk
 ·rw[hx]at hk;unfold gl at hk;split at hk
  ·rename_i d0 Lt e1 e2;cases e1;split at hk
   ·rename_i e he;split at hk
    ·exact hk.elim
    ·rename_i k Eu;simp only at hk;split at hk
     ·rename_i sz es hr;split at hk
      ·rename_i hd;split at hk
       ·rename_i q1 q3;obtain⟨h1,hk⟩:=hk;have zv:r<10000000∧0<Kj cx d:=by simpa using q3
        obtain⟨xm,hz⟩:=zv;refine⟨_,[(r,.dead),(Kj cx d,_)],hk,fun r' o' e=>?_,fun st2 ha K' h'=>?_⟩
        ·rcases Av.1 e with e | e
         ·cases e
          refine⟨.inr (.inl ⟨by omega,.inl ?_⟩),Ab ..⟩;rw[Nat.add_mul_mod_self_left,Nat.mod_eq_of_lt xm]
         ·obtain e:=Am.1 e;cases e;refine⟨.inr (.inl ⟨by omega,.inr ?_⟩),Ah _ (Ab ..)⟩;rw[Nat.add_mul_div_left _ _ (by decide),Nat.div_eq_of_lt xm,Be]
        ·have o1:BY st2.t hi=BY st.t hi:=by
          cases hi with
          |none=>rfl
          |some z=>simp only[BY];rw[ha.t z (by simp[Op.operands])]
         simp only[FF,hp];unfold MY;rw[ha.t x (by simp[Op.operands]),o1,hx,e2];unfold gl;simp only[he];split
         ·rename_i e0;rw[Eu]at e0;cases e0
         ·simp only[ha.h r (Ab ..),hr,ha.h (Kj cx d) (Ah _ (Ab ..)),hd,q1,q3];exact⟨h1,h'⟩
       ·exact hk.elim
      ·exact hk.elim
     ·exact hk.elim
   ·exact hk.elim
  ·exact hk.elim
 ·exact hk.elim
theorem Vv{s x:Operand}{Gz:Array TypeId}(hk:FF cx true ⟨dst,.call ⟨.builtin .append,#[s,x],Gz⟩,ty,pos,after,gd⟩ st K)(hf:E5 cx ⟨dst,.call ⟨.builtin .append,#[s,x],Gz⟩,ty,pos,after,gd⟩ st=some (R,w)) :
  D8 cx ⟨dst,.call ⟨.builtin .append,#[s,x],Gz⟩,ty,pos,after,gd⟩ st R w K:=by
 have hk:FN cx dst st.h .append Gz.toList [ev st.t s,ev st.t x] K:=hk;have hf:Vu cx dst (ev st.t s) (ev st.t x)=some (R,w):=hf;have hn:∀st2,IB ⟨dst,.call ⟨.builtin .append,#[s,x],Gz⟩,ty,pos,after,gd⟩ R st st2→ev st2.t s=ev st.t s∧ev st2.t x=ev st.t x:=fun st2 ha =>
  ⟨ha.t s (by simp[Op.operands,Call.operands]),ha.t x (by simp[Op.operands,Call.operands])⟩
 have JR:∀st2,IB ⟨dst,.call ⟨.builtin .append,#[s,x],Gz⟩,ty,pos,after,gd⟩ R st st2→∀K' : HK,FN cx dst st2.h .append Gz.toList [ev st.t s,ev st.t x] K'→FF cx true ⟨dst,.call ⟨.builtin .append,#[s,x],Gz⟩,ty,pos,after,gd⟩ st2 K':=by
  intro st2 ha K' h;rw[←(hn st2 ha).1,←(hn st2 ha).2]at h;exact h
 generalize Gz.toList=l at hk JR
 match l,hk,JR with
 | [t,t'],hk,JR =>
  simp only[FN]at hk JR;split at hk
  ·rename_i ht;simp only[ht]at JR;unfold H5 at hk JR;split at hk
   ·rename_i e he;simp only[he]at JR;split at hk
    ·exact hk.elim
    ·rename_i hz;simp only[hz]at JR;split at hk
     ·exact hk.elim
     ·rename_i k Eu;obtain⟨es2,q1,q2⟩:=Yl hk;have og:∀d,R=d::bE (ev st.t x)→∀st2,IB ⟨dst,.call ⟨.builtin .append,#[s,x],Gz⟩,ty,pos,after,gd⟩ R st st2→∀r n,ev st.t x=.msl r n→st2.h r=st.h r:=fun d hR st2 ha r n e=>ha.h r (by rw[hR,e];simp[bE]);unfold Vu at hf;split at hf
      ·rename_i hs;obtain⟨d,bf,e0⟩:=Il hf;cases e0;rw[hs]at q1 JR;simp only at q1 JR;obtain⟨d',hd,v,y,q3,q4⟩:=H8 q1.2;rw[bf]at hd;cases hd;refine⟨v,some (d,y),q3,fun r o' e=>(by cases e;exact⟨rfl,Ab ..⟩),fun st2 GJ K' h'=>JR st2 GJ K' ?_⟩;split
       ·rename_i e0;rw[Eu]at e0;cases e0
       ·exact q2 st2.h (og d rfl st2 GJ) _ ⟨q1.1,q4 st2.h (GJ.h d (Ab ..)) K' h'⟩
      ·rename_i Gd es hs;obtain⟨d,bf,e0⟩:=Il hf;cases e0;rw[hs]at q1 JR;simp only at q1 JR;split at q1
       ·rename_i h1;obtain⟨d',hd,v,y,q3,q4⟩:=H8 q1.2;rw[bf]at hd;cases hd;refine⟨v,some (d,y),q3,fun r o' e=>(by cases e;exact⟨rfl,Ab ..⟩),fun st2 GJ K' h'=>JR st2 GJ K' ?_⟩;split
        ·rename_i e0;rw[Eu]at e0;cases e0
        ·refine q2 st2.h (og d rfl st2 GJ) _ ?_;simp only[h1];exact⟨q1.1,q4 st2.h (GJ.h d (Ab ..)) K' h'⟩
       ·exact q1.elim
      ·rename_i r Gd es hs;cases hf;rw[hs]at q1 JR;simp only at q1 JR;split at q1
       ·rename_i sz n hr;split at q1
        ·rename_i h1 h2;refine⟨_,some (r,_),q1.2,fun r o' e=>(by cases e;exact⟨rfl,Ab ..⟩),fun st2 GJ K' h'=>JR st2 GJ K' ?_⟩;split
         ·rename_i e0;rw[Eu]at e0;cases e0
         ·refine q2 st2.h (og r rfl st2 GJ) _ ?_;simp only[GJ.h r (Ab ..),hr,h1,h2];exact⟨q1.1,h'⟩
        ·exact q1.elim
       ·exact q1.elim
      ·rename_i r n hs;cases hf;rw[hs]at q1 JR;simp only at q1 JR;split at q1
       ·rename_i sz es hr;split at q1
        ·rename_i h1;refine⟨_,some (r,_),q1.2,fun r o' e=>(by cases e;exact⟨rfl,Ab ..⟩),fun st2 GJ K' h'=>JR st2 GJ K' ?_⟩;split
         ·rename_i e0;rw[Eu]at e0;cases e0
         ·refine q2 st2.h (og r rfl st2 GJ) _ ?_;simp only[GJ.h r (Ab ..),hr,h1];exact⟨q1.1,h'⟩
        ·exact q1.elim
       ·exact q1.elim
      ·cases hf
   ·exact hk.elim
  ·exact hk.elim
 | [],hk,_=>exact hk.elim
 | [_],hk,_=>exact hk.elim
 |_::_::_::_,hk,_=>exact hk.elim
theorem UN(T:Gg)(t:Nat):F0 (J3 T t):=by
 unfold J3
 repeat' split
 all_goals first | exact Cm | exact Dh _
theorem SY(T:Gg)(ty:Nat)(ok:Bool)(BU:List (Value×AV))(kx:Value):F0 (LF T ty ok BU kx):=by
 unfold LF
 repeat' split
 ·refine ZN (Mz fun a=>Dq (Dh _)) (Dq ?_);intro K hk;obtain⟨v,h1,h2⟩:=UN T _ _ hk;exact⟨_,h1,fun K' h=>h2 _ h⟩
 ·exact ZN (Mz fun a=>Dq (Dh _)) (Dq (UN T _))
 ·exact Cm
theorem XI(T:Gg)(ty:Nat)(sh:EB)(k:AV){F:Value→(AV→Prop)→Prop}(h:∀x,F0 (F x)):F0 fun K=>JV T ty sh k fun kx=>F kx K:=by
 unfold JV
 repeat' split
 all_goals first | exact Cm | exact h _
theorem Vx{t:Nat}{m k:Operand}{ok:Bool}(hk:FF cx true ⟨dst,.lookup t m k ok,ty,pos,after,gd⟩ st K)(hf:E5 cx ⟨dst,.lookup t m k ok,ty,pos,after,gd⟩ st=some (R,w)) :
  D8 cx ⟨dst,.lookup t m k ok,ty,pos,after,gd⟩ st R w K:=by
 simp only[FF]at hk;have hn:∀st2,IB ⟨dst,.lookup t m k ok,ty,pos,after,gd⟩ R st st2→ev st2.t m=ev st.t m∧ev st2.t k=ev st.t k:=fun st2 ha=>⟨ha.t m (by simp[Op.operands]),ha.t k (by simp[Op.operands])⟩;simp only[E5]at hf;unfold Mq at hk;split at hf
 ·rename_i sh BU hm;cases hf;rw[hm]at hk;simp only at hk;exact .pick (XI _ _ _ _ fun _=>SY _ _ _ _ _) hk fun st2 ha K' h=>by simp only[FF,Mq,hn st2 ha,hm];exact h
 ·rename_i r hm;cases hf;rw[hm]at hk;simp only at hk;split at hk
  all_goals first | exact hk.elim | (rename_i e;exact .pick (XI _ _ _ _ fun _=>SY _ _ _ _ _) hk fun st2 ha K' h=>by simp only[FF,Mq,hn st2 ha,hm,ha.h r (Ab ..),e];exact h)
 ·cases hf
theorem ge(T:Gg)(t:Nat)(h:Nat→HO)(x:AV):F0 (Qk T t h x):=by
 unfold Qk
 repeat' split
 all_goals first | exact Cm | exact Dh _
theorem mY{T:Gg}{t:Nat}{h h2:Nat→HO}{x:AV}(e:∀r,x=.mref r→h2 r=h r){K:AV→Prop}:Qk T t h2 x K=Qk T t h x K:=by
 cases x<;>first | rfl | skip
 rename_i r;unfold Qk;simp only[e r rfl]
theorem aV{x:Operand}{Gz:Array TypeId}(hk:FF cx true ⟨dst,.call ⟨.builtin .len,#[x],Gz⟩,ty,pos,after,gd⟩ st K)(hf:E5 cx ⟨dst,.call ⟨.builtin .len,#[x],Gz⟩,ty,pos,after,gd⟩ st=some (R,w)) :
  D8 cx ⟨dst,.call ⟨.builtin .len,#[x],Gz⟩,ty,pos,after,gd⟩ st R w K:=by
 have hk:FN cx dst st.h .len Gz.toList [ev st.t x] K:=hk;have hf:GE cx dst (.builtin .len) st.t [ev st.t x]=some (R,w):=hf;have hn:∀st2,IB ⟨dst,.call ⟨.builtin .len,#[x],Gz⟩,ty,pos,after,gd⟩ R st st2→ev st2.t x=ev st.t x:=fun st2 ha=>ha.t x (by simp[Op.operands,Call.operands]);have JR:∀st2,IB ⟨dst,.call ⟨.builtin .len,#[x],Gz⟩,ty,pos,after,gd⟩ R st st2→∀K' : HK,FN cx dst st2.h .len Gz.toList [ev st.t x] K'→FF cx true ⟨dst,.call ⟨.builtin .len,#[x],Gz⟩,ty,pos,after,gd⟩ st2 K':=by
  intro st2 ha K' h;rw[←hn st2 ha]at h;exact h
 generalize Gz.toList=l at hk JR
 match l,hk,JR with
 | [t],hk,JR =>
  have hR:∀r,ev st.t x=.mref r→r∈R:=fun r e=>by
   rw[e]at hf;cases hf;exact Ab ..
  have hw:w=none:=by
   unfold GE at hf;split at hf<;>first | (cases hf;rfl) | (rename_i e;cases e) | (rename_i e _;cases e) | skip
   all_goals (cases hf)
  subst hw;exact .pick (ge _ _ _ _) hk fun st2 ha K' h=>JR st2 ha K' (by
   simp only[FN];rw[mY fun r e=>ha.h r (hR r e)];exact h)
 | [],hk,_=>exact hk.elim
 |_::_::_,hk,_=>exact hk.elim
end
theorem jB{l:List Nat}{n:Nat}(h:Iy l n=true):n∈l:=by
 induction l with
 |nil=>cases h
 |cons a l ih =>
  unfold Iy at h
  by_cases e:a=n
  ·exact e▸Ab ..
  ·rw[Cw e]at h;exact Ah _ (ih h)
theorem WF(G:Nat→HO):∀(σ:IM) (h:Nat→HO),Eg σ=true→(fun i=>match Ce σ i with | some j=>G j | none=>h i)=HS h (σ.map fun p=>(p.1,G p.2))
 | [],h,_=>rfl
 |(i,j)::r,h,hσ=>by
  unfold Eg at hσ;simp only[Ae]at hσ;have ih:=WF G r (AS h i (G j)) hσ.2;show _=HS (AS h i (G j)) (r.map fun p=>(p.1,G p.2));rw[←ih]
  funext i'
  have hn:Ce r i=none:=by
   have:=hσ.1.1.1
   cases e:Ce r i with
   |none=>rfl
   |some k=>rw[e]at this;simp at this
  by_cases e:i'=i
  ·subst e;have e1:Ce ((i',j)::r) i'=some j:=by unfold Ce;rw[CK];rfl
   rw[e1,hn];show G j=AS h i' (G j) i';unfold AS;rw[CK];rfl
  ·have e1:Ce ((i,j)::r) i'=Ce r i':=by
    show(bif Nat.beq i i' then some j else Ce r i')=_;rw[Cw (Ne.symm e)];rfl
   rw[e1];cases Ce r i' with
   |some k=>rfl
   |none=>show h i'=AS h i (G j) i';unfold AS;rw[Cw e];rfl
theorem Ua{σ:IM}{d:Nat}(hσ:Eg σ=true){h h' : Nat→HO}:D1 σ d 0 h h'=HS h (σ.map fun p=>(p.1,(h' p.2).ren (EW σ d 0) h')):=by
 rw[←WF (fun j=>(h' j).ren (EW σ d 0) h') σ h hσ]
 funext i
 unfold D1;cases Ce σ i with
 |some j=>rfl
 |none =>
  have:(Nat.ble (Bo d 0) i&&Nat.blt i (Bo d 0))=false:=by
   rw[AM];simp only[UG,Ae,CR,B7];omega
  simp only[this]
section
variable {cx:Cx}{op:Op}{dst:Option Nat}{ty:Nat}{pos:String}{after:Array Edge}{gd:Option (Nat×Bool)}{st:St}{R:List Nat}{w:Option Nat}{K:HK}
theorem D8.toL(h:D8 cx ⟨dst,op,ty,pos,after,gd⟩ st R w K):QQ cx ⟨dst,op,ty,pos,after,gd⟩ st R w K:=by
 obtain⟨v,e,h1,h2,h3⟩:=h;cases e with
 |none=>exact⟨v,[],h1,fun r o' e=>(by cases e),h3⟩
 |some p=>exact⟨v,[p],h1,fun r o' e=>by
   obtain rfl:=Am.1 e;obtain⟨a,b⟩:=h2 r o' rfl;exact⟨by rw[a];exact .inl rfl,b⟩,h3⟩
theorem Ys{c:Call}(hk:FF cx true ⟨dst,.call c,ty,pos,after,gd⟩ st K)(hf:E5 cx ⟨dst,.call c,ty,pos,after,gd⟩ st=some (R,w)):QQ cx ⟨dst,.call c,ty,pos,after,gd⟩ st R w K:=by
 obtain⟨l6,args,Gz⟩:=c;have I7:∀st2,IB ⟨dst,.call ⟨l6,args,Gz⟩,ty,pos,after,gd⟩ R st st2→args.toList.map (ev st2.t)=args.toList.map (ev st.t):=fun st2 ha =>
  A8 fun x hx=>ha.t x (by simp only[Op.operands,Call.operands,Rg];exact .inr (by simpa using hx))
 cases l6 with
 |invoke r m=>exact hk.elim
 |value f =>
  have hk:F6 cx true dst st (ev st.t f) (args.toList.map (ev st.t)) K:=hk;have hf:GE cx dst (.value f) st.t (args.toList.map (ev st.t))=some (R,w):=hf;unfold GE at hf;unfold F6 at hk;simp only at hf hk;have hn:=I7;split at hf
  ·rename_i Zt;rw[Zt]at hk;cases hf;obtain⟨res,h1,h2⟩:=hk;refine D8.toL ⟨res,none,h2,fun r o' e=>(by cases e),fun st2 ha K' h'=>?_⟩;show F6 cx true dst st2 (ev st2.t f) (args.toList.map (ev st2.t)) K';rw[I7 st2 ha,ha.t f (by simp[Op.operands,Call.operands])];unfold F6;simp only[Zt];refine⟨res,?_,h'⟩;rw[KB (h:=st.h) (fun r hr=>ha.h r (Bn _ hr)),PH (h:=st.h) (fun r hr=>ha.h r (Bf _ hr))];exact h1
  ·rename_i Zt;rw[Zt]at hk;simp only at hk;cases dst with
   |none=>exact hk.elim
   |some d =>
    obtain⟨n,sz,es,h1,h2,h3⟩:=hk;have hf:some (Bo d 0::(Wi (ev st.t f)++So (args.toList.map (ev st.t))),some (Bo d 0))=some (R,w):=hf;cases hf;refine D8.toL ⟨_,some (Bo d 0,_),h3,fun r o' e=>(by cases e;exact⟨rfl,Ab ..⟩),fun st2 ha K' h'=>?_⟩;show F6 cx true (some d) st2 (ev st2.t f) (args.toList.map (ev st2.t)) K';rw[I7 st2 ha,ha.t f (by simp[Op.operands,Call.operands])];unfold F6;simp only[Zt];refine⟨n,sz,es,?_,?_,h'⟩
    ·have:Dw st2.h d 1=Dw st.h d 1:=by simp only[Dw,ha.h (Bo d 0) (Ab ..)]
     rw[this];exact h1
    ·rw[KB (h:=st.h) (fun r hr=>ha.h r (Ah _ (Bn _ hr))),PH (h:=st.h) (fun r hr=>ha.h r (Ah _ (Bf _ hr)))];exact h2
  ·rename_i Zt;rw[Zt]at hk;have hk:Qz cx 0 dst st.h (ev st.t f) (args.toList.map (ev st.t)) K:=hk;split at hf
   ·rename_i r n l hl;cases hf;have In:=hk;unfold Qz at In;rw[hl]at In;split at In
    ·rename_i d0 f0 r0 n0 l0 e1 e2 z1 z2;cases e2;split at In
     ·rename_i vs cW;split at In
      ·rename_i sz es hr;obtain⟨n',Ft,h1,h2⟩:=In;refine D8.toL ⟨_,some (r,_),h2,fun r o' e=>(by cases e;exact⟨rfl,Ab ..⟩),fun st2 ha K' h'=>?_⟩;show F6 cx true _ st2 (ev st2.t f) (args.toList.map (ev st2.t)) K';rw[I7 st2 ha,ha.t f (by simp[Op.operands,Call.operands]),hl,e1];unfold F6;simp only[Zt];unfold OH;simp only;unfold Qz;simp only[cW,ha.h r (Ab ..),hr];exact⟨n',Ft,h1,h'⟩
      ·exact In.elim
     ·exact In.elim
    ·exact In.elim
   ·cases hf
  ·rename_i k Zt;rw[Zt]at hk;cases hb:Nat.beq k 1 with
   |true =>
    have Sf:Nat.beq (k+1) 2=true:=hb;have hk:Tp cx dst st (ev st.t f) (args.toList.map (ev st.t)) K:=by
     have In:(match Nat.beq (k+1) 2 with | true=>Tp cx dst st (ev st.t f) (args.toList.map (ev st.t)) K | false=>match Nat.beq (k+1) 3 with | true=>PN cx dst st (ev st.t f) (args.toList.map (ev st.t)) K | false=>OH cx (k+1) dst st (ev st.t f) (args.toList.map (ev st.t)) K):=hk;rw[Sf]at In;exact In
    rw[hb]at hf;cases dst with
    |none=>exact hk.elim
    |some d =>
     obtain⟨sz,es,h1,h2,h3⟩:=hk;have hf:some (Bo d 0::(Wi (ev st.t f)++So (args.toList.map (ev st.t))),some (Bo d 0))=some (R,w):=hf;cases hf;refine D8.toL ⟨_,some (Bo d 0,_),h3,fun r o' e=>(by cases e;exact⟨rfl,Ab ..⟩),fun st2 ha K' h'=>?_⟩;show F6 cx true (some d) st2 (ev st2.t f) (args.toList.map (ev st2.t)) K';rw[I7 st2 ha,ha.t f (by simp[Op.operands,Call.operands])];unfold F6;simp only[Zt,Sf];refine⟨sz,es,?_,?_,h'⟩
     ·have:Dw st2.h d 1=Dw st.h d 1:=by simp only[Dw,ha.h (Bo d 0) (Ab ..)]
      rw[this];exact h1
     ·rw[KB (h:=st.h) (fun r hr=>ha.h r (Ah _ (Bn _ hr))),PH (h:=st.h) (fun r hr=>ha.h r (Ah _ (Bf _ hr)))];exact h2
   |false =>
    have Sf:Nat.beq (k+1) 2=false:=hb;rw[hb]at hf;have In:(match Nat.beq (k+1) 2 with | true=>Tp cx dst st (ev st.t f) (args.toList.map (ev st.t)) K | false=>match Nat.beq (k+1) 3 with | true=>PN cx dst st (ev st.t f) (args.toList.map (ev st.t)) K | false=>OH cx (k+1) dst st (ev st.t f) (args.toList.map (ev st.t)) K):=hk;rw[Sf]at In;cases hc:Nat.beq k 2 with
    |true =>
     have nW:Nat.beq (k+1) 3=true:=hc;rw[hc]at hf;simp only[nW]at In;have hf:dQ (args.toList.map (ev st.t))=some (R,w):=hf;unfold dQ at hf;unfold PN at In;split at hf
     ·rename_i vs cW;cases hf;split at In
      ·rename_i l cY e1 e2 z1 z2;rw[cW]at e2;cases e2;split at In
       ·rename_i r sz es Z0 n e3 e4;obtain⟨⟨rfl,rfl⟩,v,Ft,n',h1,h2⟩:=In;refine⟨_,[(1001,_),(1000,_)],h2,fun r' o' e=>?_,fun st2 ha K' h'=>?_⟩
        ·rcases Av.1 e with e | e
         ·cases e
          exact⟨.inr (.inl ⟨by decide,.inr (by decide)⟩),by simp⟩
         ·obtain e:=Am.1 e;cases e;exact⟨.inr (.inl ⟨by decide,.inl (by decide)⟩),by simp⟩
        show F6 cx true _ st2 (ev st2.t f) (args.toList.map (ev st2.t)) K';rw[I7 st2 ha,ha.t f (by simp[Op.operands,Call.operands]),e1];unfold F6;simp only[Zt,Sf,nW];unfold PN;simp only[cW,ha.h 1000 (by simp),ha.h 1001 (by simp),e3,e4];exact⟨⟨trivial,trivial⟩,v,Ft,n',h1,h'⟩
       ·exact In.elim
      ·exact In.elim
     ·cases hf
    |false =>
    have nW:Nat.beq (k+1) 3=false:=hc;rw[hc]at hf;have Ut:OH cx (k+1) dst st (ev st.t f) (args.toList.map (ev st.t)) K:=by
     simp only[nW]at In;exact In
    have mv:dO k dst (args.toList.map (ev st.t))=some (R,w):=hf;unfold dO at mv;unfold OH at Ut;cases he:Nat.beq k 3 with
    |true =>
     have cQ:Nat.beq (k+1) 4=true:=he;rw[he]at mv;rw[cQ]at Ut;have mv:some (iV,some Vd)=some (R,w):=mv;have Ut:WW cx dst st (ev st.t f) (args.toList.map (ev st.t)) K:=Ut;cases mv;unfold WW at Ut;split at Ut
     ·rename_i d f' e2 _ _ _;obtain⟨σ,H0,Hn,args',res,g1,g2,g3,g4⟩:=Ut;simp only[Ae]at g2;refine⟨_,σ.map fun p=>(p.1,(Aj Hn Aa p.2).ren (EW σ d 0) (Aj Hn Aa)),(Ua (h:=st.h) (h':=Aj Hn Aa) (d:=d) g2.1.1)▸g4,fun r' o' e=>?_,fun st2 ha K' h'=>?_⟩
      ·obtain⟨p,hp,e⟩:=Ak.1 e;cases e;exact⟨.inr (.inr rfl),jB (Bp.1 g2.2 p hp)⟩
      ·show F6 cx true _ st2 (ev st2.t f) (args.toList.map (ev st2.t)) K';rw[I7 st2 ha,ha.t f (by simp[Op.operands,Call.operands])];unfold F6;simp only[Zt,Sf,nW];unfold OH;simp only[cQ];unfold WW;rw[e2];refine⟨σ,H0,Hn,args',res,fun h2 hh=>g1 h2 fun r hr=>(hh r hr).trans (ha.h r hr),by simp only[Ae];exact g2,g3,?_⟩;rw[Ua (h:=st2.h) (h':=Aj Hn Aa) (d:=d) g2.1.1];exact h'
     ·exact Ut.elim
    |false =>
    have cQ:Nat.beq (k+1) 4=false:=he;rw[he]at mv;rw[cQ]at Ut;have hf:Zk dst (args.toList.map (ev st.t))=some (R,w):=mv;have hk:Qz cx (k+1) dst st.h (ev st.t f) (args.toList.map (ev st.t)) K:=Ut;obtain⟨d,r,n,l,rfl,hl,e0⟩:=Yq hf;cases e0;unfold Qz at hk;rw[hl]at hk;split at hk
    ·rename_i d0 f0 r0 n0 l0 e9 e1 e2;cases e9;cases e2;split at hk
     ·rename_i vs cW;split at hk
      ·rename_i sz es hr;obtain⟨n',Ft,h0,h1,h2⟩:=hk;have th:=h0;simp only[Ae,B7]at th;refine⟨_,[(r,.dead),(Bo d 0,_)],h2,fun r' o' e=>?_,fun st2 ha K' h'=>?_⟩
       ·rcases Av.1 e with e | e
        ·cases e
         refine⟨.inr (.inl ⟨by unfold Bo;omega,.inl ?_⟩),Ab ..⟩;rw[Nat.add_mul_mod_self_left,Nat.mod_eq_of_lt th.1.2]
        ·obtain e:=Am.1 e;cases e;refine⟨.inr (.inl ⟨by unfold Bo;omega,.inr ?_⟩),Ah _ (Ab ..)⟩;rw[Nat.add_mul_div_left _ _ (by decide),Nat.div_eq_of_lt th.1.2,Be]
       show F6 cx true _ st2 (ev st2.t f) (args.toList.map (ev st2.t)) K';rw[I7 st2 ha,ha.t f (by simp[Op.operands,Call.operands]),hl,e1];unfold F6;simp only[Zt,Sf,nW];unfold OH;simp only[cQ];unfold Qz;simp only[cW,ha.h r (Ab ..),hr]
       have:Dw st2.h d 1=Dw st.h d 1:=by simp only[Dw,ha.h (Bo d 0) (Ah _ (Ab ..))]
       exact⟨n',Ft,by rw[this];exact h0,h1,h'⟩
      ·exact hk.elim
     ·exact hk.elim
    ·exact hk.elim
 |builtin b =>
  refine D8.toL ?_;have mm:∀f:Int→Int→Int,(∀(d:Option Nat) (h:Nat→HO) (Gz:List Nat) (args:List AV) (K:HK),FN cx d h b Gz args K=(match args with | [x,y]=>jD f x y fun v=>K v h | _=>False))→R=[]∧w=none→D8 cx ⟨dst,.call ⟨.builtin b,args,Gz⟩,ty,pos,after,gd⟩ st R w K:=by
   rintro f hb ⟨rfl,rfl⟩
   have hk:FN cx dst st.h b Gz.toList (args.toList.map (ev st.t)) K:=hk;rw[hb]at hk;split at hk
   ·rename_i x y e;refine .pick (jS f x y) hk fun st2 ha K' h=>?_;show FN cx dst st2.h b Gz.toList (args.toList.map (ev st2.t)) K';rw[hb,I7 st2 ha,e];exact h
   ·exact hk.elim
  cases b
  case max=>exact mm max (fun d h Gz args K=>by cases args with | nil=>rfl | cons x l=>cases l with | nil=>rfl | cons y l=>cases l<;>rfl) (by
   have hf:GE cx dst (.builtin .max) st.t (args.toList.map (ev st.t))=some (R,w):=hf;simp only[GE]at hf;cases hf;exact⟨rfl,rfl⟩)
  case min=>exact mm min (fun d h Gz args K=>by cases args with | nil=>rfl | cons x l=>cases l with | nil=>rfl | cons y l=>cases l<;>rfl) (by
   have hf:GE cx dst (.builtin .min) st.t (args.toList.map (ev st.t))=some (R,w):=hf;simp only[GE]at hf;cases hf;exact⟨rfl,rfl⟩)
  case append =>
   obtain⟨l⟩:=args
   match l,hk,hf with
   | [s,x],hk,hf=>exact Vv hk hf
   | [],hk,hf=>cases Gz;exact hk.elim
   | [_],hk,hf=>exact hk.elim
   |_::_::_::_,hk,hf=>exact hk.elim
  case len =>
   obtain⟨l⟩:=args
   match l,hk,hf with
   | [x],hk,hf=>exact aV hk hf
   | [],hk,hf=>exact hk.elim
   |_::_::_,hk,hf=>exact hk.elim
  all_goals exact hk.elim
theorem X5{o:Oper}(hc:∀c,o.op≠.call c)(hs:(∃t x lo hi mx,o.op=.slice t x lo hi mx)→M4 cx.pl.tok o.dst=none)(hk:FF cx true o st K)(hf:E5 cx o st=some (R,w)):D8 cx o st R w K:=by
 obtain⟨dst,op,ty,pos,after,gd⟩:=o;cases op with
 |call c=>exact absurd rfl (hc c)
 |alloc e=>exact WT hk hf
 |box e x=>exact aU hk hf
 |buildSlice t n ps=>exact Pf hk hf
 |makeSlice t n c=>exact QC hk hf
 |makeMap t r=>exact TJ hk hf
 |store t p x=>exact WU hk hf
 |mapUpdate t m k x=>exact QD hk hf
 |makeFunc fn first cap=>exact RX hk hf
 |load t p=>exact Yt hk hf
 |assign x=>exact Vw hk hf
 |slice t x lo hi mx=>exact Qc (hs ⟨t,x,lo,hi,mx,rfl⟩) hk hf
 |lookup t x i ok=>exact Vx hk hf
 |move x =>
  cases hf
  exact .pick (Dh _) hk fun st2 ha K' h=>by simp only[FF,ha.t x (by simp[Op.operands])];exact h
 |pick c a b =>
  cases hf
  exact .pick (ce _ _ _) hk fun st2 ha K' h=>by simp only[FF,ha.t c (by simp[Op.operands]),ha.t a (by simp[Op.operands]),ha.t b (by simp[Op.operands])];exact h
 |nilCheck x =>
  cases hf
  exact .pick (gg _) hk fun st2 ha K' h=>by simp only[FF,ha.t x (by simp[Op.operands])];exact h
 |binOp op t x y u =>
  simp only[E5]at hf;split at hf
  ·cases hf
  ·rename_i hx;cases hf;exact .pick (cc _ _ _ _ _ _ hx) hk fun st2 ha K' h=>by simp only[FF,ha.t x (by simp[Op.operands]),ha.t y (by simp[Op.operands])];exact h
 |unOp op t x =>
  cases hf
  exact .pick (cf _ _) hk fun st2 ha K' h=>by simp only[FF,ha.t x (by simp[Op.operands])];exact h
 |convert s t x =>
  cases hf
  exact .pick (cd _ _ _ _) hk fun st2 ha K' h=>by simp only[FF,ha.t x (by simp[Op.operands])];exact h
 |fieldAddr s x f =>
  cases hf
  exact .pick (YV _ _ _ _) hk fun st2 ha K' h=>by simp only[FF,ha.t x (by simp[Op.operands])];exact h
 |field s x f =>
  cases hf
  exact .pick (XH _ _ _ _) hk fun st2 ha K' h=>by simp only[FF,ha.t x (by simp[Op.operands])];exact h
 |indexAddr t x i =>
  cases hf
  exact .pick (SZ _ _ _ _) hk fun st2 ha K' h=>by simp only[FF,ha.t x (by simp[Op.operands]),ha.t i (by simp[Op.operands])];exact h
 |index t x i =>
  cases hf
  exact .pick (YW _ _ _ _) hk fun st2 ha K' h=>by simp only[FF,ha.t x (by simp[Op.operands]),ha.t i (by simp[Op.operands])];exact h
 |extract x i =>
  cases hf
  exact .pick (VQ _ _) hk fun st2 ha K' h=>by simp only[FF,ha.t x (by simp[Op.operands])];exact h
 |build t ps =>
  cases hf
  refine .pick (YU _ _ _ _) hk fun st2 ha K' h=>?_;have hx:∀p∈ps.toList,ev st2.t p.2=ev st.t p.2:=fun p hp=>ha.t p.2 (by
   simp only[Op.operands,List.mem_toArray];exact Ak.2 ⟨p,hp,rfl⟩)
  simp only[FF];have fill:∀(pl:Nat→Option (Nat×Nat)) (l:List (Nat×Operand)) (cs:List AV) (K:List AV→Prop),(∀p∈l,ev st2.t p.2=ev st.t p.2)→Kl pl cs st2.t l K=Kl pl cs st.t l K:=by
   intro pl l
   induction l with
   |nil=>intro cs K _;rfl
   |cons p l ih =>
    intro cs K hp;obtain⟨i,x⟩:=p;have h1:ev st2.t x=ev st.t x:=hp (i,x) (Ab ..);have h2:∀cs,Kl pl cs st2.t l K=Kl pl cs st.t l K:=fun cs=>ih cs K (fun p mJ=>hp p (Ah _ mJ));simp only[Kl,h1,h2]
  unfold OZ at h⊢;simp only[fill _ _ _ _ hx];exact h
 |_=>cases hf
theorem au{o:Oper}(hk:FF cx true o st K)(hf:E5 cx o st=some (R,w)):QQ cx o st R w K:=by
 obtain⟨dst,op,ty,pos,after,gd⟩:=o
 by_cases h:∃c,op=.call c
 ·obtain⟨c,rfl⟩:=h;exact Ys hk hf
 ·by_cases h2:∃t x lo hi mx,op=.slice t x lo hi mx
  ·obtain⟨t,x,lo,hi,mx,rfl⟩:=h2;cases hp:M4 cx.pl.tok dst with
   |none=>exact D8.toL (Qc hp hk hf)
   |some p=>exact aW hp hk hf
  ·exact D8.toL (X5 (fun c e=>h ⟨c,e⟩) (fun e=>absurd e h2) hk hf)
end
theorem Up{cx:Cx}{o:Oper}{st st2:St}(h:∀x∈o.op.operands,ev st2.t x=ev st.t x):E5 cx o st2=E5 cx o st:=by
 obtain⟨dst,op,ty,pos,after,gd⟩:=o;cases op with
 |call c =>
  obtain⟨l6,args,Gz⟩:=c;have ha:args.toList.map (ev st2.t)=args.toList.map (ev st.t):=A8 fun x hx=>h x (by simp only[Op.operands,Call.operands,Rg];exact .inr (by simpa using hx));simp only[E5];rw[ha];cases l6 with
  |value f =>
   have hf:ev st2.t f=ev st.t f:=h f (by simp[Op.operands,Call.operands]);simp only[GE,hf]
  |builtin b =>
   generalize args.toList.map (ev st.t)=l
   match l with
   | []=>cases b<;>rfl
   | [x]=>cases b<;>cases x<;>rfl
   | [x,y]=>cases b<;>cases x<;>rfl
   |x::_::_::_=>cases b<;>cases x<;>rfl
  |invoke r m=>rfl
 |box e x=>simp only[E5,h x (by simp[Op.operands])]
 |buildSlice t n ps =>
  have hx:ps.toList.map (fun p=>ev st2.t p.2)=ps.toList.map (fun p=>ev st.t p.2):=A8 fun p hp=>h p.2 (by
   simp only[Op.operands,List.mem_toArray];exact Ak.2 ⟨p,hp,rfl⟩)
  simp only[E5,hx]
 |store t p x=>simp only[E5,h p (by simp[Op.operands]),h x (by simp[Op.operands])]
 |mapUpdate t m k x=>simp only[E5,h m (by simp[Op.operands]),h x (by simp[Op.operands])]
 |makeFunc fn first cap =>
  have hx:cap.toList.map (ev st2.t)=cap.toList.map (ev st.t):=A8 fun x hx=>h x (by simp only[Op.operands,Rg];exact .inr (by simpa using hx));simp only[E5,hx]
 |load t p=>simp only[E5,h p (by simp[Op.operands])]
 |assign x=>simp only[E5,h x (by simp[Op.operands])]
 |binOp op t x y u=>simp only[E5,h x (by simp[Op.operands])]
 |slice t x lo hi mx=>simp only[E5,h x (by simp[Op.operands])]
 |lookup t x i ok=>simp only[E5,h x (by simp[Op.operands])]
 |_=>rfl
def Ka(ops:Array Oper)(o:Oper)(st st2:St):Prop:=∀d∈o.looksAt ops,st2.t d=st.t d
theorem Ka.operands{ops:Array Oper}{o:Oper}{st st2:St}(h:Ka ops o st st2):∀x∈o.op.operands,ev st2.t x=ev st.t x:=fun x hx=>by
 cases x with
 |tmp t=>exact h t (Bn _ (List.mem_filterMap.2 ⟨.tmp t,by simpa using hx,rfl⟩))
 |_=>rfl
theorem UJ(ops:Array Oper)(j:Nat):JX ops.toList j=(ops[j]?).bind (·.dst):=by
 have:∀(l:List Oper) (j:Nat),JX l j=(l[j]?).bind (·.dst):=by
  intro l
  induction l with
  |nil=>intro j;simp[JX]
  |cons o l ih =>
   intro j;cases j with
   |zero=>simp[JX]
   |succ j=>simp[JX,ih]
 rw[this];simp
theorem Ka.guard{ops:Array Oper}{o:Oper}{st st2:St}(h:Ka ops o st st2){j:Nat}{b:Bool}(hg:o.guard=some (j,b)){d:Nat}(hd:JX ops.toList j=some d):st2.t d=st.t d :=
 h d (Bf _ (by rw[hg];simp only;rw[←UJ,hd];simp))
def St.after(st:St)(o:Oper)(v:AV)(e:List (Nat×HO)):St:=st.put o.dst v (HS st.h e)
def OW(cx:Cx)(ops:Array Oper)(o:Oper)(st:St)(f:Fl)(v:AV)(e:List (Nat×HO)):Prop :=
 (∀r o',(r,o')∈e→Ri f.2 r∧r∈f.1)∧∀st2,Ka ops o st st2→(∀r∈f.1,st2.h r=st.h r)→∀K:St→Prop,K (st2.after o v e)→GX cx true ops.toList o st2 K
theorem RW{cx:Cx}{ops:Array Oper}{o:Oper}{st st2:St}(h:Ka ops o st st2):MS cx ops.toList o st2=MS cx ops.toList o st:=by
 unfold MS;split
 ·exact Up h.operands
 ·rename_i j want hg;split
  ·rfl
  ·rename_i d hd;simp only[h.guard hg hd];split<;>first | exact Up h.operands | rfl
theorem NQ{cx:Cx}{ops:Array Oper}{o:Oper}{st:St}{f:Fl}{K:St→Prop}(hk:GX cx true ops.toList o st K)(hf:MS cx ops.toList o st=some f) :
  ∃v e,OW cx ops o st f v e∧K (st.after o v e):=by
 obtain⟨R,w⟩:=f;have skip:R=[]∧w=none→K (st.put o.dst (.v undef) st.h)→(∀st2,Ka ops o st st2→∀K:St→Prop,K (st2.put o.dst (.v undef) st2.h)→GX cx true ops.toList o st2 K)→∃v e,OW cx ops o st (R,w) v e∧K (st.after o v e):=by
  rintro⟨rfl,rfl⟩ h1 h2
  exact⟨.v undef,[],⟨fun r o' e=>(by cases e),fun st2 hl _ K h=>h2 st2 hl K h⟩,h1⟩
 have run:E5 cx o st=some (R,w)→FF cx true o st (fun v h=>K (st.put o.dst v h))→(∀st2,Ka ops o st st2→∀K:St→Prop,FF cx true o st2 (fun v h=>K (st2.put o.dst v h))→GX cx true ops.toList o st2 K)→∃v e,OW cx ops o st (R,w) v e∧K (st.after o v e):=by
  intro hf hk h2;obtain⟨v,e,q1,q2,q3⟩:=au hk hf;exact⟨v,e,⟨q2,fun st2 hl hh K h=>h2 st2 hl K (q3 st2 ⟨hl.operands,hh⟩ _ h)⟩,q1⟩
 unfold GX at hk;unfold MS at hf;cases hg:o.guard with
 |none =>
  rw[hg]at hk hf;exact run hf hk (fun st2 hl K h=>by unfold GX;rw[hg];exact h)
 |some p =>
  obtain⟨j,want⟩:=p;rw[hg]at hk hf;simp only at hk hf;cases hd:JX ops.toList j with
  |none=>rw[hd]at hk;exact hk.elim
  |some d =>
   rw[hd]at hk hf;simp only at hk hf;have he:∀st2,Ka ops o st st2→st2.t d=st.t d:=fun st2 hl=>hl.guard hg hd;generalize hx:st.t d=x at hk hf he;split at hk
   ·exact run hf hk (fun st2 hl K h=>by unfold GX;simp only[hg,hd,he st2 hl];exact h)
   ·exact run hf hk (fun st2 hl K h=>by unfold GX;simp only[hg,hd,he st2 hl];exact h)
   ·exact skip (by cases hf;exact⟨rfl,rfl⟩) hk (fun st2 hl K h=>by unfold GX;simp only[hg,hd,he st2 hl];exact h)
   ·exact skip (by cases hf;exact⟨rfl,rfl⟩) hk (fun st2 hl K h=>by unfold GX;simp only[hg,hd,he st2 hl];exact h)
   ·exact skip (by cases hf;exact⟨rfl,rfl⟩) hk (fun st2 hl K h=>by unfold GX;simp only[hg,hd,he st2 hl];exact h)
   ·exact hk.elim
def ox(cx:Cx)(ops:Array Oper)(FT:Nat→Fl)(i:Nat)(K:St→Prop)(st:St):Prop :=
 match ops[i]? with
 |none=>K st
 |some o=>MS cx ops.toList o st=some (FT i)∧GX cx true ops.toList o st K
def Wo(cx:Cx)(ops:Array Oper)(FT:Nat→Fl)(K:St→Prop):Nat→Array Bool→St→Prop
 |0,listed,st=>Region.ready .any ops listed=[]∧K st
 |fuel+1,listed,st =>
  (Region.ready .any ops listed=[]→K st)∧∀i∈Region.ready .any ops listed,ox cx ops FT i (Wo cx ops FT K fuel (listed.setIfInBounds i true)) st
theorem cD(t:Nat→AV){d d' : Nat}(h:d'≠d)(v v' : AV):GT (GT t d v) d' v'=GT (GT t d' v') d v:=by
 funext i
 unfold GT
 by_cases h1:i=d<;>by_cases h2:i=d'
 ·exact absurd (h2.symm.trans h1) h
 ·subst h1;simp[Cw h2]
 ·subst h2;simp[Cw h1]
 ·simp[Cw h1,Cw h2]
theorem bi(t:Nat→HO){d d' : Nat}(h:d'≠d)(v v' : HO):AS (AS t d v) d' v'=AS (AS t d' v') d v:=by
 funext i
 unfold AS
 by_cases h1:i=d<;>by_cases h2:i=d'
 ·exact absurd (h2.symm.trans h1) h
 ·subst h1;simp[Cw h2]
 ·subst h2;simp[Cw h1]
 ·simp[Cw h1,Cw h2]
theorem Oq{l:List Nat}{n:Nat}(h:n∈l):Iy l n=true:=by
 induction l with
 |nil=>cases h
 |cons a l ih =>
  unfold Iy
  by_cases e:a=n
  ·subst e;simp
  ·rw[Cw e];exact ih ((Av.1 h).resolve_left (fun q=>e q.symm))
theorem Xp{l:List Nat}{n:Nat}(h:Iy l n=true):n∈l:=by
 induction l with
 |nil=>cases h
 |cons a l ih =>
  unfold Iy at h
  by_cases e:a=n
  ·exact e▸Ab ..
  ·rw[Cw e]at h;exact Ah _ (ih h)
theorem XA{l:List Nat}{x:Nat}(h:Xy l x=true):∀r,Ri (some x) r→r∉l:=by
 intro r hc hr;unfold Xy at h
 by_cases hx:x=Vd
 ·subst hx;rw[CK,Jx]at h;cases l with
  |nil=>cases hr
  |cons a l=>cases h
 rw[Cw hx,Eh]at h;simp only[Ae,Ci,CG,B7]at h;rcases hc with rfl | ⟨h1,h2⟩ | hc
 ·rw[Oq hr]at h;cases h.1
 ·rcases h.2 with h3 | h3
  ·omega
  ·rcases h2 with rfl | rfl
   ·rw[Oq hr]at h3;cases h3.1
   ·rw[Oq hr]at h3;cases h3.2
 ·exact hx hc
theorem aN{a b:Fl}(h:RJ a b=true):(∀r,Ri a.2 r→r∉b.1)∧∀r,Ri b.2 r→r∉a.1:=by
 obtain⟨a1,a2⟩:=a;obtain⟨b1,b2⟩:=b;simp only[RJ,Ae]at h;refine⟨fun r e=>?_,fun r e=>?_⟩
 ·cases a2 with
  |none=>exact e.elim
  |some x=>exact XA h.1 r e
 ·cases b2 with
  |none=>exact e.elim
  |some x=>exact XA h.2 r e
section
variable {cx:Cx}{ops:Array Oper}{FT:Nat→Fl}
theorem Qm{oi oj:Oper}(h:∀d,oi.dst=some d→d∉oj.looksAt ops)(st:St)(v:AV)(e:List (Nat×HO)):Ka ops oj st (st.after oi v e):=by
 intro d hd;cases hdst:oi.dst with
 |none=>simp[St.after,St.put,hdst]
 |some d' =>
  have:d≠d':=fun q=>h d' hdst (q▸hd)
  simp[St.after,St.put,hdst,GT,Cw this]
theorem Ka.symm{o:Oper}{st st2:St}(h:Ka ops o st st2):Ka ops o st2 st:=fun d hd=>(h d hd).symm
theorem Zp{o:Oper}{st:St}{v:AV}{e:List (Nat×HO)}:(st.after o v e).h=HS st.h e:=by
 unfold St.after St.put;cases o.dst<;>rfl
theorem Pc{r:Nat}:∀{e:List (Nat×HO)} {h:Nat→HO},(∀o',(r,o')∉e)→HS h e r=h r
 | [],_,_=>rfl
 |p::e,h,hr=>by
  have:r≠p.1:=fun q=>hr p.2 (by rw[q];exact Ab ..)
  show HS (AS h p.1 p.2) e r=h r;rw[Pc fun o' ho=>hr o' (Ah _ ho),BR _ _ _ _ this]
theorem WG{r:Nat}{o:HO}:∀{e:List (Nat×HO)} {h:Nat→HO},(∀r' o',(r',o')∈e→r'≠r)→HS (AS h r o) e=AS (HS h e) r o
 | [],_,_=>rfl
 |p::e,h,hr=>by
  show HS (AS (AS h r o) p.1 p.2) e=AS (HS (AS h p.1 p.2) e) r o;rw[bi h (hr p.1 p.2 (Ab ..)),WG fun r' o' ho=>hr r' o' (Ah _ ho)]
theorem Um:∀{e e' : List (Nat×HO)} {h:Nat→HO},(∀r o r' o',(r,o)∈e→(r',o')∈e'→r'≠r)→HS (HS h e) e'=HS (HS h e') e
 | [],_,_,_=>rfl
 |p::e,e',h,hd=>by
  show HS (HS (AS h p.1 p.2) e) e'=HS (AS (HS h e') p.1 p.2) e;rw[←WG fun r' o' ho=>hd p.1 p.2 r' o' (Ab ..) ho,Um fun r o r' o' h1 h2=>hd r o r' o' (Ah _ h1) h2]
theorem X4{oi oj:Oper}{st:St}{v v' : AV}{e e' : List (Nat×HO)}(h1:∀d,oi.dst=some d→oj.dst≠some d)(h2:∀r o r' o',(r,o)∈e→(r',o')∈e'→r'≠r) :
  (st.after oi v e).after oj v' e'=(st.after oj v' e').after oi v e:=by
 have hh:HS (HS st.h e) e'=HS (HS st.h e') e:=Um h2;have key:∀o:Oper,∀v e,∀st:St,st.after o v e=⟨match o.dst with | none=>st.t | some d=>GT st.t d v,HS st.h e⟩:=fun o v e st=>by
  unfold St.after St.put;cases o.dst<;>rfl
 rw[key,key,key,key];simp only[hh];cases hi:oi.dst with
 |none=>rfl
 |some d =>
  cases hj:oj.dst with
  |none=>rfl
  |some d' =>
   have Dt:d'≠d:=fun q=>h1 d hi (by rw[hj,q]);simp only[cD st.t Dt v v']
theorem X3{K:St→Prop}{i:Nat}{oi:Oper}{v:AV}{e:List (Nat×HO)}(hi:ops[i]?=some oi)(D:Nat→Prop)
  (hD:∀j,D j→∃oj,ops[j]?=some oj∧∃ed∈oj.after,Region.binds .any ed=true∧(ed.on=i∨D ed.on)) :
  ∀(fuel:Nat) (listed:Array Bool) (st:St),
   (∀j oj,ops[j]?=some oj→j≠i→listed.getD j true=false→¬D j→oi.apart ops oj=true∧RJ (FT i) (FT j)=true) →
   i∈Region.ready .any ops listed→(∀j,D j→listed.getD j true=false)→MS cx ops.toList oi st=some (FT i)→OW cx ops oi st (FT i) v e →
   Wo cx ops FT K fuel (listed.setIfInBounds i true) (st.after oi v e)→Wo cx ops FT K (fuel+1) listed st:=by
 have here:∀(fuel:Nat) (listed:Array Bool) (st:St),MS cx ops.toList oi st=some (FT i)→OW cx ops oi st (FT i) v e →
   Wo cx ops FT K fuel (listed.setIfInBounds i true) (st.after oi v e)→ox cx ops FT i (Wo cx ops FT K fuel (listed.setIfInBounds i true)) st:=by
  intro fuel listed st hf hy H;unfold ox;rw[hi];exact⟨hf,hy.2 st (fun _ _=>rfl) (fun _ _=>rfl) _ H⟩
 intro fuel
 induction fuel with
 |zero =>
  intro listed st _ hr _ hf hy H;refine⟨fun h=>(by rw[h]at hr;cases hr),fun j hj=>?_⟩
  by_cases MF:j=i
  ·subst MF;exact here 0 listed st hf hy H
  ·have:=ready_mono hj MF
   rw[H.1]at this;cases this
 |succ fuel ih =>
  intro listed st Aa hr wL hf hy H;refine⟨fun h=>(by rw[h]at hr;cases hr),fun j hj=>?_⟩
  by_cases MF:j=i
  ·subst MF;exact here (fuel+1) listed st hf hy H
  ·have h1:=H.2 j (ready_mono hj MF);obtain⟨pQ,oj,jm,GF⟩:=mem_ready.1 hj;have pe:∀k,listed.getD k true=false→listed.getD k false=true→False:=fun k h0 h1=>by
    rcases EA k listed.size with h' | h'
    ·simp[h']at h0 h1;rw[h0]at h1;cases h1
    ·simp[Array.getElem?_eq_none h']at h1
   have rP:¬D j:=fun rG=>by
    obtain⟨oj',kN,ed,he,hb,zp⟩:=hD j rG;rw[jm]at kN;cases kN;have hl:=GF ed he hb;rcases zp with h2 | h2
    ·exact pe _ (by rw[h2];exact(mem_ready.1 hr).1) hl
    ·exact pe _ (wL _ h2) hl
   obtain⟨pA,rG⟩:=Aa j oj jm MF pQ rP;obtain⟨a1,a2,a3⟩:=Oper.apart_spec pA;obtain⟨d1,d2⟩:=aN rG;unfold ox at h1⊢;rw[jm]at h1⊢;obtain⟨w6,ze⟩:=h1;have xe:=Qm (ops:=ops) a1 st v e;obtain⟨vj,ej,xw,hK⟩:=NQ ze w6;have t6:∀r o',(r,o')∈e→r∉(FT j).1:=fun r o' q=>d1 r (hy.1 r o' q).1;have cQ:∀r o',(r,o')∈ej→r∉(FT i).1:=fun r o' q=>d2 r (xw.1 r o' q).1;refine⟨by rw[←RW xe];exact w6,xw.2 st xe.symm (fun r mK=>?_) _ ?_⟩
   ·rw[Zp,Pc (fun o' q=>t6 r o' q mK)]
   ·have xd:=Qm (ops:=ops) a3 st vj ej;refine ih (listed.setIfInBounds j true) (st.after oj vj ej) (fun k ok hk xc jq QI=>?_) (ready_mono hr (Ne.symm MF)) (fun k hk=>?_) (by rw[RW xd];exact hf) ⟨hy.1,fun st2 hl hh K' h'=>?_⟩ ?_
    ·by_cases jj:j=k
     ·subst jj;exact Aa _ ok hk xc pQ QI
     ·rw[getD_set_ne true jj]at jq;exact Aa k ok hk xc jq QI
    ·by_cases jj:j=k
     ·subst jj;exact absurd hk rP
     ·rw[getD_set_ne true jj];exact wL k hk
    ·refine hy.2 st2 (fun d hd=>(hl d hd).trans (xd d hd)) (fun r mK=>?_) K' h';rw[hh r mK,Zp,Pc (fun o' q=>cQ r o' q mK)]
    ·rw[Array.setIfInBounds_comm _ _ (Ne.symm MF)]at hK;rw[←X4 a2 (fun r o r' o' q q' e2=>cQ r' o' q' (by rw[e2];exact(hy.1 r o q).2))];exact hK
def ly(cx:Cx)(ops:Array Oper)(K:St→Prop):List Oper→List Fl→St→Prop
 | [],[],st=>K st
 |o::r,f::fs,st=>MS cx ops.toList o st=some f∧∃v e,OW cx ops o st f v e∧ly cx ops K r fs (st.after o v e)
 |_,_,_=>False
theorem Rr{K:St→Prop}:∀(l:List Oper) (acc:List Fl) (st:St),Ws cx ops l acc st K→∃fs,RK ops (acc.reverse++fs)=true∧ly cx ops K l fs st
 | [],acc,st,h=>⟨[],by simpa using h.1,h.2⟩
 |o::r,acc,st,h=>by
  unfold Ws at h;split at h
  ·rename_i f hf;obtain⟨v,e,h1,h2⟩:=NQ h hf;obtain⟨fs,q1,q2⟩:=Rr r _ _ h2;exact⟨f::fs,by simpa using q1,hf,v,e,h1,q2⟩
  ·exact h.elim
theorem Vz{o:Oper}{i:Nat}{D:List Nat}(h:Oh o i D=true):∃ed∈o.after,Region.binds .any ed=true∧(ed.on=i∨ed.on∈D):=by
 unfold Oh at h;obtain⟨ed,h1,h2⟩:=Bd.1 h;simp only[Ae,Ci]at h2;exact⟨ed,by simpa using h1,h2.1,h2.2.imp AH Xp⟩
theorem Tj{i:Nat}{D:List Nat}:∀(l:List Oper) (k:Nat),Ti i D k l=true→∀j o,l[j]?=some o→k+j∈D→Oh o i D=true
 | [],_,_,_,_,h,_=>by simp at h
 |o::l,k,hs,j,o',h,hm=>by
  simp only[Ti,Ae]at hs;cases j with
  |zero =>
   simp only[A4,Bj]at h;subst h;have h1:=hs.1;rw[Oq (by simpa using hm)]at h1;simpa using h1
  |succ j=>exact Tj l (k+1) hs.2 j o' (by simpa using h) (by rw[Gf,Nat.add_comm 1 j];exact hm)
theorem T6{oi:Oper}{fi:Fl}{D:List Nat}:∀(l:List Oper) (fs:List Fl) (k:Nat),Ig ops oi fi D k l fs=true→l.length=fs.length∧∀j o f,l[j]?=some o→fs[j]?=some f→k+j∉D→oi.apart ops o=true∧RJ fi f=true
 | [],[],_,_=>⟨rfl,fun _ _ _ h=>by simp at h⟩
 | [],_::_,_,h=>by simp[Ig]at h
 |_::_,[],_,h=>by simp[Ig]at h
 |o::l,f::fs,k,h=>by
  simp only[Ig,Ae,Ci]at h;obtain⟨h1,h2⟩:=T6 l fs (k+1) h.2;refine⟨by simp[h1],fun j o' f' q1 q2 hn=>?_⟩;cases j with
  |zero =>
   simp only[A4,Bj]at q1 q2;subst q1;subst q2;rcases h.1 with h3 | h3
   ·exact absurd (Xp h3) hn
   ·exact h3
  |succ j=>exact h2 j o' f' (by simpa using q1) (by simpa using q2) (by simpa[Nat.add_assoc,Nat.add_comm 1 j]using hn)
theorem Wp{K:St→Prop}:∀(l:List Oper) (fs:List Fl) (k:Nat) (listed:Array Bool) (st:St),(∀j,l[j]?=ops[k+j]?)→(∀j f,fs[j]?=some f→FT (k+j)=f)→listed.size=ops.size →
  (∀j,j<ops.size→listed.getD j true=decide (j<k))→Lz ops ops.toList k l fs=true→ly cx ops K l fs st→Wo cx ops FT K l.length listed st
 | [],[],k,listed,st,hl,_,hs,hL,_,h=>by
  refine⟨?_,h⟩;apply Li.2;intro j hj;obtain⟨h1,o,ho,_⟩:=mem_ready.1 hj;have Dz:=(Bm.1 ho).1;rw[hL j Dz]at h1;have n8:k≤j:=by simpa using h1
  have:=hl (j-k)
  rw[show k+(j-k)=j by omega,ho]at this;simp at this
 | [],_::_,_,_,_,_,_,_,_,h,_=>by simp[Lz]at h
 |_::_,[],_,_,_,_,_,_,_,h,_=>by simp[Lz]at h
 |o::l,f::fs,k,listed,st,hl,hF,hs,hL,hg,h=>by
  simp only[Lz,Ae]at hg;obtain⟨⟨⟨⟨g1,g2⟩,g3⟩,g4⟩,g5⟩:=hg;obtain⟨hf,v,e,hy,hp⟩:=h;have h0:ops[k]?=some o:=by simpa using(hl 0).symm
  have hk:=(Bm.1 h0).1;have tv:FT k=f:=by simpa using hF 0 f rfl
  have Ph : ∀j,l[j]?=ops[k+1+j]?:=fun j=>by have:=hl (j+1);simpa[Nat.add_assoc,Nat.add_comm 1 j]using this
  have nT : ∀j f,fs[j]?=some f→FT (k+1+j)=f:=fun j f' hj=>by have:=hF (j+1) f' (by simpa using hj);simpa[Nat.add_assoc,Nat.add_comm 1 j]using this
  obtain⟨Cu,pA⟩:=T6 l fs (k+1) g4;have Zn:∀j,j∈Pb k [] 0 ops.toList→k<j∧j<ops.size:=fun j hj=>by
   have:=(Bp.1 g3) j hj
   simp only[Ae,B7,BW]at this;exact this
  refine X3 h0 (fun j=>j∈Pb k [] 0 ops.toList) (fun j hj=>?_) l.length listed st (fun j oj jm jj jq rP=>?_) ?_ (fun j hj=>?_) (by rw[tv];exact hf) (by rw[tv];exact hy) ?_
  ·have Dz:=(Zn j hj).2
   have:=Tj ops.toList 0 g2 j ops[j] (by simp[Dz]) (by simpa using hj)
   obtain⟨ed,e1,e2,e3⟩:=Vz this;exact⟨ops[j],by simp[Dz],ed,e1,e2,e3⟩
  ·have Dz:=(Bm.1 jm).1;rw[hL j Dz]at jq;have n8:k<j:=by have q:k≤j:=(by simpa using jq);omega
   have e1:l[j-(k+1)]?=some oj:=by rw[Ph,show k+1+(j-(k+1))=j by omega];exact jm
   have hfl:j-(k+1)<fs.length:=by rw[←Cu];exact(Ap.1 e1).1
   have e2:fs[j-(k+1)]?=some fs[j-(k+1)]:=As hfl;have e3:=nT _ _ e2;rw[show k+1+(j-(k+1))=j by omega]at e3;rw[tv,e3];exact pA _ _ _ e1 e2 (by rw[show k+1+(j-(k+1))=j by omega];exact rP)
  ·refine mem_ready.2 ⟨by rw[hL k hk];simp,o,h0,fun ed he hb=>?_⟩
   have:=(Bp.1 g1) ed (by simpa using he)
   simp only[hb,Bool.not_true,Ls,B7]at this;have h1:=hL ed.on (by omega);have Dz:ed.on<listed.size:=by omega
   simp[Dz]at h1⊢;rw[h1];simpa using this
  ·have:=Zn j hj
   rw[hL j this.2];simp;omega
  ·refine Wp l fs (k+1) _ _ Ph nT (by simp[hs]) (fun j hj=>?_) g5 hp
   by_cases jj:j=k
   ·subst jj
    have:j<listed.size:=by omega
    simp[this]
   ·rw[getD_set_ne true (Ne.symm jj),hL j hj]
    by_cases h1:j<k
    ·simp[h1];omega
    ·simp[h1];omega
theorem ap{K:St→Prop}{st:St}(h:Ws cx ops ops.toList [] st K):Region.noSelect ops=true∧∃FT,Wo cx ops FT K ops.size (Array.replicate ops.size false) st:=by
 obtain⟨fs,h1,h2⟩:=Rr _ _ _ h;simp only[RK,List.reverse_nil,Fp,Ae]at h1;refine⟨h1.1,fun j=>fs.getD j default,?_⟩
 have:=Wp (FT:=fun j=>fs.getD j default) ops.toList fs 0 (Array.replicate ops.size false) st (by simp) (fun j f hj=>by simp[hj]) (by simp) (fun j hj=>by simp[hj]) h1.2 h2
 simpa using this
end
end Go.Eng
