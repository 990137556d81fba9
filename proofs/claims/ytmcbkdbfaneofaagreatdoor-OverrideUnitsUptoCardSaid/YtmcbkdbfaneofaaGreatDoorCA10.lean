/- Lemmas for the claims of this seat, without a condition: part 10 (EngX, EngY, EngZ). -/
import Derived.Test.YtmcbkdbfaneofaaGreatDoorCA09
namespace Go.Eng
section
variable {cx:Cx}{dst:Option Nat}{ty:Nat}{pos:String}{after:Array Edge}{gd:Option (Nat×Bool)}{st:St}{R:List Nat}{w:Option Nat}{K:HK}
theorem YS{t:Nat}{p:Operand}(hk:FE cx true ⟨dst,.load t p,ty,pos,after,gd⟩ st K)(hf:E5 cx ⟨dst,.load t p,ty,pos,after,gd⟩ st=some (R,w)):D5 cx ⟨dst,.load t p,ty,pos,after,gd⟩ st R w K:=by
 simp only[FE]at hk;have hn:∀st2,Iz ⟨dst,.load t p,ty,pos,after,gd⟩ R st st2→ev st2.t p=ev st.t p:=fun st2 ha=>ha.t p (by simp[Op.operands]);simp only[E5]at hf;unfold HX at hk;split at hf
 ·rename_i cs hp;cases hf;rw[hp]at hk;simp only at hk;exact .pick (H3 _ _ _) hk fun st2 ha K' h=>by simp only[FE,HX,hn st2 ha,hp];exact h
 ·rename_i r off hp;cases hf;rw[hp]at hk;simp only at hk;split at hk
  ·rename_i cs hr;exact .pick (H3 _ _ _) hk fun st2 ha K' h=>by simp only[FE,HX,hn st2 ha,hp,ha.h r (Aa ..),hr];exact h
  ·rename_i cs hr;exact .pick (H3 _ _ _) hk fun st2 ha K' h=>by simp only[FE,HX,hn st2 ha,hp,ha.h r (Aa ..),hr];exact h
  ·exact hk.elim
 ·rename_i r n sz i off hp;cases hf;rw[hp]at hk;simp only at hk;split at hk
  ·rename_i Gf es hr;split at hk
   ·rename_i hs;exact .pick (Dw (MF fun _=>Dw (H3 _ _ _))) hk fun st2 ha K' h=>by simp only[FE,HX,hn st2 ha,hp,ha.h r (Aa ..),hr,hs];exact h
   ·exact hk.elim
  ·rename_i Gf es i' c av hr;split at hk
   ·rename_i hs;exact .pick (Dw (H3 _ _ _)) hk fun st2 ha K' h=>by simp only[FE,HX,hn st2 ha,hp,ha.h r (Aa ..),hr,hs];exact h
   ·exact hk.elim
  ·exact hk.elim
 ·cases hf
theorem VX{x:Operand}(hk:FE cx true ⟨dst,.assign x,ty,pos,after,gd⟩ st K)(hf:E5 cx ⟨dst,.assign x,ty,pos,after,gd⟩ st=some (R,w)):D5 cx ⟨dst,.assign x,ty,pos,after,gd⟩ st R w K:=by
 simp only[FE]at hk;have hn:∀st2,Iz ⟨dst,.assign x,ty,pos,after,gd⟩ R st st2→ev st2.t x=ev st.t x:=fun st2 ha=>ha.t x (by simp[Op.operands]);simp only[E5]at hf;split at hf
 ·cases hf
 ·rename_i hx;cases hf;have same:∃y,∀(h:Nat→HO) (K:HK),N5 cx dst h (ev st.t x) K↔K y h:=by
   unfold N5;cases dst with
   |none=>exact⟨_,fun _ _=>Qj⟩
   |some d =>
    simp only;cases Gu cx.pl.tok d with
    |some sz =>
     simp only;cases Nat.beq sz 0 with
     |true=>exact⟨_,fun _ _=>Qj⟩
     |false =>
      refine⟨ev st.t x,fun h K=>?_⟩;simp only;split
      ·rename_i e;exact absurd e (hx _ _ _)
      ·exact Qj
    |none =>
     simp only;cases Gu cx.pl.arr d with
     |some sz =>
      refine⟨ev st.t x,fun h K=>?_⟩;simp only;split
      ·rename_i e;exact absurd e (hx _ _ _)
      ·exact Qj
     |none=>exact⟨_,fun _ _=>Qj⟩
  obtain⟨y,same⟩:=same;exact .pick (Dm y) ((same _ _).1 hk) fun st2 ha K' h=>by simp only[FE];rw[hn st2 ha];exact(same _ _).2 h
theorem Qy{t:Nat}{x:Operand}{lo hi mx:Option Operand}(hp:Nh cx.pl.tok dst=none)(hk:FE cx true ⟨dst,.slice t x lo hi mx,ty,pos,after,gd⟩ st K)(hf:E5 cx ⟨dst,.slice t x lo hi mx,ty,pos,after,gd⟩ st=some (R,w)) :
  D5 cx ⟨dst,.slice t x lo hi mx,ty,pos,after,gd⟩ st R w K:=by
 simp only[FE,hp]at hk;have hn:∀st2,Iz ⟨dst,.slice t x lo hi mx,ty,pos,after,gd⟩ R st st2→ev st2.t x=ev st.t x∧B5 st2.t lo=B5 st.t lo∧B5 st2.t hi=B5 st.t hi∧B5 st2.t mx=B5 st.t mx:=by
  intro st2 ha;have uZ:∀y:Option Operand,(∀z,y=some z→ev st2.t z=ev st.t z)→B5 st2.t y=B5 st.t y:=by
   intro y hy;cases y with
   |none=>rfl
   |some z=>simp only[B5];rw[hy z rfl]
  exact⟨ha.t x (by simp[Op.operands]),uZ lo (fun z e=>ha.t z (by simp[Op.operands,e])),uZ hi (fun z e=>ha.t z (by simp[Op.operands,e])),uZ mx (fun z e=>ha.t z (by simp[Op.operands,e]))⟩
 simp only[E5,hp]at hf;split at hf
 ·cases hf
 ·rename_i hx;cases hf;have e3:B5 st.t none=some none:=rfl
  have Im:FX (fun K1=>Gd cx dst st.h t (ev st.t x) (B5 st.t lo) (B5 st.t hi) (some none) fun v _=>K1 v) ∧
    ∀(h:Nat→HO) (K:HK),Gd cx dst h t (ev st.t x) (B5 st.t lo) (B5 st.t hi) (some none) K↔Gd cx dst st.h t (ev st.t x) (B5 st.t lo) (B5 st.t hi) (some none) (fun v _=>K v h):=by
   generalize ev st.t x=X at hx;unfold Gd;constructor
   ·repeat' split
    all_goals first | exact Cy | exact Dw (Dm _) | exact Dw (Dw (Dm _)) | skip
    all_goals first | (rename_i e;cases e;done) | skip
    all_goals (exfalso;exact hx _ _ rfl)
   ·intro h K
    repeat' split
    all_goals first | exact Qj | skip
    all_goals exfalso
    all_goals first | exact hx _ _ rfl | (rename some none=some (some _)=>e4;cases e4)
  rw[e3]at hk;exact .pick Im.1 ((Im.2 _ _).1 hk) fun st2 ha K' h=>by
   obtain⟨n1,n2,n3,n4⟩:=hn st2 ha;simp only[FE,hp];rw[n1,n2,n3,n4,e3];exact(Im.2 _ _).2 h
 ·rename_i y tk es hx;obtain⟨d,rfl,e0⟩:=Ik hf;cases e0;rw[hx]at hk;unfold Gd at hk;split at hk
  ·rename_i Ht Ly lD e1 e2 e3;split at hk
   ·split at hk<;>first | exact hk.elim | (rename_i e;cases e)
   ·rename_i e he;split at hk
    ·exact hk.elim
    ·rename_i k EB;simp only at hk;split at hk
     ·exfalso
      rename_i e4;simp only[B5]at e3;split at e3<;>cases e3
     ·rename_i m;split at hk
      ·rename some d=some _=>e5
       cases e5
       split at hk
       ·rename_i mF;refine⟨_,none,hk.2.2,fun r o' e=>(by cases e),fun st2 GN K' h'=>?_⟩;obtain⟨n1,n2,n3,n4⟩:=hn st2 GN;simp only[FE,hp];rw[n1,n2,n3,n4,hx,e1,e2,e3];unfold Gd;simp only[he];split
        ·rename_i e0;rw[EB]at e0;cases e0
        ·simp only[mF];exact⟨hk.1,hk.2.1,h'⟩
       rename_i mF;split at hk
       ·rename_i hd;refine⟨_,some (d,_),hk.2.2,fun r o' e=>(by cases e;exact⟨rfl,Aa ..⟩),fun st2 GN K' h'=>?_⟩;obtain⟨n1,n2,n3,n4⟩:=hn st2 GN;simp only[FE,hp];rw[n1,n2,n3,n4,hx,e1,e2,e3];unfold Gd;simp only[he];split
        ·rename_i e0;rw[EB]at e0;cases e0
        ·simp only[mF];rw[GN.h d (Aa ..),hd];exact⟨hk.1,hk.2.1,h'⟩
       ·exact hk.elim
      ·exact hk.elim
   ·exact hk.elim
  ·exact hk.elim
 ·cases hf
theorem bH{t:Nat}{x:Operand}{lo hi mx:Option Operand}{p:Nat}(hp:Nh cx.pl.tok dst=some p)(hk:FE cx true ⟨dst,.slice t x lo hi mx,ty,pos,after,gd⟩ st K)(hf:E5 cx ⟨dst,.slice t x lo hi mx,ty,pos,after,gd⟩ st=some (R,w)) :
  Rh cx ⟨dst,.slice t x lo hi mx,ty,pos,after,gd⟩ st R w K:=by
 simp only[FE,hp]at hk;simp only[E5,hp]at hf;obtain⟨d',r,n,hd,hx,e0⟩:=YQ hf;cases e0;cases dst with
 |none=>cases hd
 |some d =>
 cases hd
 unfold M7 at hk;split at hk
 ·rw[hx]at hk;unfold gI at hk;split at hk
  ·rename_i d0 Ly e1 e2;cases e1;split at hk
   ·rename_i e he;split at hk
    ·exact hk.elim
    ·rename_i k EB;simp only at hk;split at hk
     ·rename_i sz es hr;split at hk
      ·rename_i hd;split at hk
       ·rename_i q1 q3;obtain⟨h1,hk⟩:=hk;have zB:r<10000000∧0<Ki cx d:=by simpa using q3
        obtain⟨xi,hz⟩:=zB;refine⟨_,[(r,.dead),(Ki cx d,_)],hk,fun r' o' e=>?_,fun st2 ha K' h'=>?_⟩
        ·rcases Au.1 e with e | e
         ·cases e
          refine⟨.inr (.inl ⟨by omega,.inl ?_⟩),Aa ..⟩;rw[Nat.add_mul_mod_self_left,Nat.mod_eq_of_lt xi]
         ·obtain e:=Al.1 e;cases e;refine⟨.inr (.inl ⟨by omega,.inr ?_⟩),Af _ (Aa ..)⟩;rw[Nat.add_mul_div_left _ _ (by decide),Nat.div_eq_of_lt xi,Bi]
        ·have o1:B5 st2.t hi=B5 st.t hi:=by
          cases hi with
          |none=>rfl
          |some z=>simp only[B5];rw[ha.t z (by simp[Op.operands])]
         simp only[FE,hp];unfold M7;rw[ha.t x (by simp[Op.operands]),o1,hx,e2];unfold gI;simp only[he];split
         ·rename_i e0;rw[EB]at e0;cases e0
         ·simp only[ha.h r (Aa ..),hr,ha.h (Ki cx d) (Af _ (Aa ..)),hd,q1,q3];exact⟨h1,h'⟩
       ·exact hk.elim
      ·exact hk.elim
     ·exact hk.elim
   ·exact hk.elim
  ·exact hk.elim
 ·exact hk.elim
theorem VW{s x:Operand}{GC:Array TypeId}(hk:FE cx true ⟨dst,.call ⟨.builtin .append,#[s,x],GC⟩,ty,pos,after,gd⟩ st K)(hf:E5 cx ⟨dst,.call ⟨.builtin .append,#[s,x],GC⟩,ty,pos,after,gd⟩ st=some (R,w)) :
  D5 cx ⟨dst,.call ⟨.builtin .append,#[s,x],GC⟩,ty,pos,after,gd⟩ st R w K:=by
 have hk:FL cx dst st.h .append GC.toList [ev st.t s,ev st.t x] K:=hk;have hf:VV cx dst (ev st.t s) (ev st.t x)=some (R,w):=hf;have hn:∀st2,Iz ⟨dst,.call ⟨.builtin .append,#[s,x],GC⟩,ty,pos,after,gd⟩ R st st2→ev st2.t s=ev st.t s∧ev st2.t x=ev st.t x:=fun st2 ha =>
  ⟨ha.t s (by simp[Op.operands,Call.operands]),ha.t x (by simp[Op.operands,Call.operands])⟩
 have JQ:∀st2,Iz ⟨dst,.call ⟨.builtin .append,#[s,x],GC⟩,ty,pos,after,gd⟩ R st st2→∀K' : HK,FL cx dst st2.h .append GC.toList [ev st.t s,ev st.t x] K'→FE cx true ⟨dst,.call ⟨.builtin .append,#[s,x],GC⟩,ty,pos,after,gd⟩ st2 K':=by
  intro st2 ha K' h;rw[←(hn st2 ha).1,←(hn st2 ha).2]at h;exact h
 generalize GC.toList=l at hk JQ
 match l,hk,JQ with
 | [t,t'],hk,JQ =>
  simp only[FL]at hk JQ;split at hk
  ·rename_i ht;simp only[ht]at JQ;unfold H5 at hk JQ;split at hk
   ·rename_i e he;simp only[he]at JQ;split at hk
    ·exact hk.elim
    ·rename_i hz;simp only[hz]at JQ;split at hk
     ·exact hk.elim
     ·rename_i k EB;obtain⟨es2,q1,q2⟩:=YK hk;have iG:∀d,R=d::ci (ev st.t x)→∀st2,Iz ⟨dst,.call ⟨.builtin .append,#[s,x],GC⟩,ty,pos,after,gd⟩ R st st2→∀r n,ev st.t x=.msl r n→st2.h r=st.h r:=fun d hR st2 ha r n e=>ha.h r (by rw[hR,e];simp[ci]);unfold VV at hf;split at hf
      ·rename_i hs;obtain⟨d,bM,e0⟩:=Ik hf;cases e0;rw[hs]at q1 JQ;simp only at q1 JQ;obtain⟨d',hd,v,y,q3,q4⟩:=H8 q1.2;rw[bM]at hd;cases hd;refine⟨v,some (d,y),q3,fun r o' e=>(by cases e;exact⟨rfl,Aa ..⟩),fun st2 GN K' h'=>JQ st2 GN K' ?_⟩;split
       ·rename_i e0;rw[EB]at e0;cases e0
       ·exact q2 st2.h (iG d rfl st2 GN) _ ⟨q1.1,q4 st2.h (GN.h d (Aa ..)) K' h'⟩
      ·rename_i Gf es hs;obtain⟨d,bM,e0⟩:=Ik hf;cases e0;rw[hs]at q1 JQ;simp only at q1 JQ;split at q1
       ·rename_i h1;obtain⟨d',hd,v,y,q3,q4⟩:=H8 q1.2;rw[bM]at hd;cases hd;refine⟨v,some (d,y),q3,fun r o' e=>(by cases e;exact⟨rfl,Aa ..⟩),fun st2 GN K' h'=>JQ st2 GN K' ?_⟩;split
        ·rename_i e0;rw[EB]at e0;cases e0
        ·refine q2 st2.h (iG d rfl st2 GN) _ ?_;simp only[h1];exact⟨q1.1,q4 st2.h (GN.h d (Aa ..)) K' h'⟩
       ·exact q1.elim
      ·rename_i r Gf es hs;cases hf;rw[hs]at q1 JQ;simp only at q1 JQ;split at q1
       ·rename_i sz n hr;split at q1
        ·rename_i h1 h2;refine⟨_,some (r,_),q1.2,fun r o' e=>(by cases e;exact⟨rfl,Aa ..⟩),fun st2 GN K' h'=>JQ st2 GN K' ?_⟩;split
         ·rename_i e0;rw[EB]at e0;cases e0
         ·refine q2 st2.h (iG r rfl st2 GN) _ ?_;simp only[GN.h r (Aa ..),hr,h1,h2];exact⟨q1.1,h'⟩
        ·exact q1.elim
       ·exact q1.elim
      ·rename_i r n hs;cases hf;rw[hs]at q1 JQ;simp only at q1 JQ;split at q1
       ·rename_i sz es hr;split at q1
        ·rename_i h1;refine⟨_,some (r,_),q1.2,fun r o' e=>(by cases e;exact⟨rfl,Aa ..⟩),fun st2 GN K' h'=>JQ st2 GN K' ?_⟩;split
         ·rename_i e0;rw[EB]at e0;cases e0
         ·refine q2 st2.h (iG r rfl st2 GN) _ ?_;simp only[GN.h r (Aa ..),hr,h1];exact⟨q1.1,h'⟩
        ·exact q1.elim
       ·exact q1.elim
      ·cases hf
   ·exact hk.elim
  ·exact hk.elim
 | [],hk,_=>exact hk.elim
 | [_],hk,_=>exact hk.elim
 |_::_::_::_,hk,_=>exact hk.elim
theorem Ve(T:Gj)(t:Nat):FX (JZ T t):=by
 unfold JZ
 repeat' split
 all_goals first | exact Cy | exact Dm _
theorem To(T:Gj)(ty:Nat)(ok:Bool)(B2:List (Value×AV))(kx:Value):FX (LN T ty ok B2 kx):=by
 unfold LN
 repeat' split
 ·refine aA (MF fun a=>Dw (Dm _)) (Dw ?_);intro K hk;obtain⟨v,h1,h2⟩:=Ve T _ _ hk;exact⟨_,h1,fun K' h=>h2 _ h⟩
 ·exact aA (MF fun a=>Dw (Dm _)) (Dw (Ve T _))
 ·exact Cy
theorem X7(T:Gj)(ty:Nat)(sh:EA)(k:AV){F:Value→(AV→Prop)→Prop}(h:∀x,FX (F x)):FX fun K=>JT T ty sh k fun kx=>F kx K:=by
 unfold JT
 repeat' split
 all_goals first | exact Cy | exact h _
theorem VY{t:Nat}{m k:Operand}{ok:Bool}(hk:FE cx true ⟨dst,.lookup t m k ok,ty,pos,after,gd⟩ st K)(hf:E5 cx ⟨dst,.lookup t m k ok,ty,pos,after,gd⟩ st=some (R,w)) :
  D5 cx ⟨dst,.lookup t m k ok,ty,pos,after,gd⟩ st R w K:=by
 simp only[FE]at hk;have hn:∀st2,Iz ⟨dst,.lookup t m k ok,ty,pos,after,gd⟩ R st st2→ev st2.t m=ev st.t m∧ev st2.t k=ev st.t k:=fun st2 ha=>⟨ha.t m (by simp[Op.operands]),ha.t k (by simp[Op.operands])⟩;simp only[E5]at hf;unfold Mx at hk;split at hf
 ·rename_i sh B2 hm;cases hf;rw[hm]at hk;simp only at hk;exact .pick (X7 _ _ _ _ fun _=>To _ _ _ _ _) hk fun st2 ha K' h=>by simp only[FE,Mx,hn st2 ha,hm];exact h
 ·rename_i r hm;cases hf;rw[hm]at hk;simp only at hk;split at hk
  all_goals first | exact hk.elim | (rename_i e;exact .pick (X7 _ _ _ _ fun _=>To _ _ _ _ _) hk fun st2 ha K' h=>by simp only[FE,Mx,hn st2 ha,hm,ha.h r (Aa ..),e];exact h)
 ·cases hf
theorem gD(T:Gj)(t:Nat)(h:Nat→HO)(x:AV):FX (QF T t h x):=by
 unfold QF
 repeat' split
 all_goals first | exact Cy | exact Dm _
theorem nl{T:Gj}{t:Nat}{h h2:Nat→HO}{x:AV}(e:∀r,x=.mref r→h2 r=h r){K:AV→Prop}:QF T t h2 x K=QF T t h x K:=by
 cases x<;>first | rfl | skip
 rename_i r;unfold QF;simp only[e r rfl]
theorem bG{x:Operand}{GC:Array TypeId}(hk:FE cx true ⟨dst,.call ⟨.builtin .len,#[x],GC⟩,ty,pos,after,gd⟩ st K)(hf:E5 cx ⟨dst,.call ⟨.builtin .len,#[x],GC⟩,ty,pos,after,gd⟩ st=some (R,w)) :
  D5 cx ⟨dst,.call ⟨.builtin .len,#[x],GC⟩,ty,pos,after,gd⟩ st R w K:=by
 have hk:FL cx dst st.h .len GC.toList [ev st.t x] K:=hk;have hf:GI cx dst (.builtin .len) st.t [ev st.t x]=some (R,w):=hf;have hn:∀st2,Iz ⟨dst,.call ⟨.builtin .len,#[x],GC⟩,ty,pos,after,gd⟩ R st st2→ev st2.t x=ev st.t x:=fun st2 ha=>ha.t x (by simp[Op.operands,Call.operands]);have JQ:∀st2,Iz ⟨dst,.call ⟨.builtin .len,#[x],GC⟩,ty,pos,after,gd⟩ R st st2→∀K' : HK,FL cx dst st2.h .len GC.toList [ev st.t x] K'→FE cx true ⟨dst,.call ⟨.builtin .len,#[x],GC⟩,ty,pos,after,gd⟩ st2 K':=by
  intro st2 ha K' h;rw[←hn st2 ha]at h;exact h
 generalize GC.toList=l at hk JQ
 match l,hk,JQ with
 | [t],hk,JQ =>
  have hR:∀r,ev st.t x=.mref r→r∈R:=fun r e=>by
   rw[e]at hf;cases hf;exact Aa ..
  have hw:w=none:=by
   unfold GI at hf;split at hf<;>first | (cases hf;rfl) | (rename_i e;cases e) | (rename_i e _;cases e) | skip
   all_goals (cases hf)
  subst hw;exact .pick (gD _ _ _ _) hk fun st2 ha K' h=>JQ st2 ha K' (by
   simp only[FL];rw[nl fun r e=>ha.h r (hR r e)];exact h)
 | [],hk,_=>exact hk.elim
 |_::_::_,hk,_=>exact hk.elim
end
theorem jV{l:List Nat}{n:Nat}(h:Ix l n=true):n∈l:=by
 induction l with
 |nil=>cases h
 |cons a l ih =>
  unfold Ix at h
  by_cases e:a=n
  ·exact e▸Aa ..
  ·rw[CH e]at h;exact Af _ (ih h)
theorem W4(G:Nat→HO):∀(σ:IK) (h:Nat→HO),Ef σ=true→(fun i=>match Ct σ i with | some j=>G j | none=>h i)=HS h (σ.map fun p=>(p.1,G p.2))
 | [],h,_=>rfl
 |(i,j)::r,h,hσ=>by
  unfold Ef at hσ;simp only[Ag]at hσ;have ih:=W4 G r (AU h i (G j)) hσ.2;show _=HS (AU h i (G j)) (r.map fun p=>(p.1,G p.2));rw[←ih]
  funext i'
  have hn:Ct r i=none:=by
   have:=hσ.1.1.1
   cases e:Ct r i with
   |none=>rfl
   |some k=>rw[e]at this;simp at this
  by_cases e:i'=i
  ·subst e;have e1:Ct ((i',j)::r) i'=some j:=by unfold Ct;rw[CV];rfl
   rw[e1,hn];show G j=AU h i' (G j) i';unfold AU;rw[CV];rfl
  ·have e1:Ct ((i,j)::r) i'=Ct r i':=by
    show(bif Nat.beq i i' then some j else Ct r i')=_;rw[CH (Ne.symm e)];rfl
   rw[e1];cases Ct r i' with
   |some k=>rfl
   |none=>show h i'=AU h i (G j) i';unfold AU;rw[CH e];rfl
theorem Ut{σ:IK}{d:Nat}(hσ:Ef σ=true){h h' : Nat→HO}:DZ σ d 0 h h'=HS h (σ.map fun p=>(p.1,(h' p.2).ren (EX σ d 0) h')):=by
 rw[←W4 (fun j=>(h' j).ren (EX σ d 0) h') σ h hσ]
 funext i
 unfold DZ;cases Ct σ i with
 |some j=>rfl
 |none =>
  have:(Nat.ble (Bo d 0) i&&Nat.blt i (Bo d 0))=false:=by
   rw[AI];simp only[U7,Ag,Db,Cj];omega
  simp only[this]
section
variable {cx:Cx}{op:Op}{dst:Option Nat}{ty:Nat}{pos:String}{after:Array Edge}{gd:Option (Nat×Bool)}{st:St}{R:List Nat}{w:Option Nat}{K:HK}
theorem D5.toL(h:D5 cx ⟨dst,op,ty,pos,after,gd⟩ st R w K):Rh cx ⟨dst,op,ty,pos,after,gd⟩ st R w K:=by
 obtain⟨v,e,h1,h2,h3⟩:=h;cases e with
 |none=>exact⟨v,[],h1,fun r o' e=>(by cases e),h3⟩
 |some p=>exact⟨v,[p],h1,fun r o' e=>by
   obtain rfl:=Al.1 e;obtain⟨a,b⟩:=h2 r o' rfl;exact⟨by rw[a];exact .inl rfl,b⟩,h3⟩
theorem YR{c:Call}(hk:FE cx true ⟨dst,.call c,ty,pos,after,gd⟩ st K)(hf:E5 cx ⟨dst,.call c,ty,pos,after,gd⟩ st=some (R,w)):Rh cx ⟨dst,.call c,ty,pos,after,gd⟩ st R w K:=by
 obtain⟨mo,args,GC⟩:=c;have I6:∀st2,Iz ⟨dst,.call ⟨mo,args,GC⟩,ty,pos,after,gd⟩ R st st2→args.toList.map (ev st2.t)=args.toList.map (ev st.t):=fun st2 ha =>
  Be fun x hx=>ha.t x (by simp only[Op.operands,Call.operands,Ry];exact .inr (by simpa using hx))
 cases mo with
 |invoke r m=>exact hk.elim
 |value f =>
  have hk:F2 cx true dst st (ev st.t f) (args.toList.map (ev st.t)) K:=hk;have hf:GI cx dst (.value f) st.t (args.toList.map (ev st.t))=some (R,w):=hf;unfold GI at hf;unfold F2 at hk;simp only at hf hk;have hn:=I6;split at hf
  ·rename_i Z0;rw[Z0]at hk;cases hf;obtain⟨res,h1,h2⟩:=hk;refine D5.toL ⟨res,none,h2,fun r o' e=>(by cases e),fun st2 ha K' h'=>?_⟩;show F2 cx true dst st2 (ev st2.t f) (args.toList.map (ev st2.t)) K';rw[I6 st2 ha,ha.t f (by simp[Op.operands,Call.operands])];unfold F2;simp only[Z0];refine⟨res,?_,h'⟩;rw[KB (h:=st.h) (fun r hr=>ha.h r (Bn _ hr)),Qb (h:=st.h) (fun r hr=>ha.h r (Bj _ hr))];exact h1
  ·rename_i Z0;rw[Z0]at hk;simp only at hk;cases dst with
   |none=>exact hk.elim
   |some d =>
    obtain⟨n,sz,es,h1,h2,h3⟩:=hk;have hf:some (Bo d 0::(WC (ev st.t f)++SE (args.toList.map (ev st.t))),some (Bo d 0))=some (R,w):=hf;cases hf;refine D5.toL ⟨_,some (Bo d 0,_),h3,fun r o' e=>(by cases e;exact⟨rfl,Aa ..⟩),fun st2 ha K' h'=>?_⟩;show F2 cx true (some d) st2 (ev st2.t f) (args.toList.map (ev st2.t)) K';rw[I6 st2 ha,ha.t f (by simp[Op.operands,Call.operands])];unfold F2;simp only[Z0];refine⟨n,sz,es,?_,?_,h'⟩
    ·have:DC st2.h d 1=DC st.h d 1:=by simp only[DC,ha.h (Bo d 0) (Aa ..)]
     rw[this];exact h1
    ·rw[KB (h:=st.h) (fun r hr=>ha.h r (Af _ (Bn _ hr))),Qb (h:=st.h) (fun r hr=>ha.h r (Af _ (Bj _ hr)))];exact h2
  ·rename_i Z0;rw[Z0]at hk;have hk:QT cx 0 dst st.h (ev st.t f) (args.toList.map (ev st.t)) K:=hk;split at hf
   ·rename_i r n l hl;cases hf;have Im:=hk;unfold QT at Im;rw[hl]at Im;split at Im
    ·rename_i d0 f0 r0 n0 l0 e1 e2 z1 z2;cases e2;split at Im
     ·rename_i vs dq;split at Im
      ·rename_i sz es hr;obtain⟨n',Ft,h1,h2⟩:=Im;refine D5.toL ⟨_,some (r,_),h2,fun r o' e=>(by cases e;exact⟨rfl,Aa ..⟩),fun st2 ha K' h'=>?_⟩;show F2 cx true _ st2 (ev st2.t f) (args.toList.map (ev st2.t)) K';rw[I6 st2 ha,ha.t f (by simp[Op.operands,Call.operands]),hl,e1];unfold F2;simp only[Z0];unfold OV;simp only;unfold QT;simp only[dq,ha.h r (Aa ..),hr];exact⟨n',Ft,h1,h'⟩
      ·exact Im.elim
     ·exact Im.elim
    ·exact Im.elim
   ·cases hf
  ·rename_i k Z0;rw[Z0]at hk;cases hb:Nat.beq k 1 with
   |true =>
    have T2:Nat.beq (k+1) 2=true:=hb;have hk:TG cx dst st (ev st.t f) (args.toList.map (ev st.t)) K:=by
     have Im:(match Nat.beq (k+1) 2 with | true=>TG cx dst st (ev st.t f) (args.toList.map (ev st.t)) K | false=>match Nat.beq (k+1) 3 with | true=>Qh cx dst st (ev st.t f) (args.toList.map (ev st.t)) K | false=>OV cx (k+1) dst st (ev st.t f) (args.toList.map (ev st.t)) K):=hk;rw[T2]at Im;exact Im
    rw[hb]at hf;cases dst with
    |none=>exact hk.elim
    |some d =>
     obtain⟨sz,es,h1,h2,h3⟩:=hk;have hf:some (Bo d 0::(WC (ev st.t f)++SE (args.toList.map (ev st.t))),some (Bo d 0))=some (R,w):=hf;cases hf;refine D5.toL ⟨_,some (Bo d 0,_),h3,fun r o' e=>(by cases e;exact⟨rfl,Aa ..⟩),fun st2 ha K' h'=>?_⟩;show F2 cx true (some d) st2 (ev st2.t f) (args.toList.map (ev st2.t)) K';rw[I6 st2 ha,ha.t f (by simp[Op.operands,Call.operands])];unfold F2;simp only[Z0,T2];refine⟨sz,es,?_,?_,h'⟩
     ·have:DC st2.h d 1=DC st.h d 1:=by simp only[DC,ha.h (Bo d 0) (Aa ..)]
      rw[this];exact h1
     ·rw[KB (h:=st.h) (fun r hr=>ha.h r (Af _ (Bn _ hr))),Qb (h:=st.h) (fun r hr=>ha.h r (Af _ (Bj _ hr)))];exact h2
   |false =>
    have T2:Nat.beq (k+1) 2=false:=hb;rw[hb]at hf;have Im:(match Nat.beq (k+1) 2 with | true=>TG cx dst st (ev st.t f) (args.toList.map (ev st.t)) K | false=>match Nat.beq (k+1) 3 with | true=>Qh cx dst st (ev st.t f) (args.toList.map (ev st.t)) K | false=>OV cx (k+1) dst st (ev st.t f) (args.toList.map (ev st.t)) K):=hk;rw[T2]at Im;cases hc:Nat.beq k 2 with
    |true =>
     have n8:Nat.beq (k+1) 3=true:=hc;rw[hc]at hf;simp only[n8]at Im;have hf:eD (args.toList.map (ev st.t))=some (R,w):=hf;unfold eD at hf;unfold Qh at Im;split at hf
     ·rename_i vs dq;cases hf;split at Im
      ·rename_i l dw e1 e2 z1 z2;rw[dq]at e2;cases e2;split at Im
       ·rename_i r sz es aN n e3 e4;obtain⟨⟨rfl,rfl⟩,v,Ft,n',h1,h2⟩:=Im;refine⟨_,[(1001,_),(1000,_)],h2,fun r' o' e=>?_,fun st2 ha K' h'=>?_⟩
        ·rcases Au.1 e with e | e
         ·cases e
          exact⟨.inr (.inl ⟨by decide,.inr (by decide)⟩),by simp⟩
         ·obtain e:=Al.1 e;cases e;exact⟨.inr (.inl ⟨by decide,.inl (by decide)⟩),by simp⟩
        show F2 cx true _ st2 (ev st2.t f) (args.toList.map (ev st2.t)) K';rw[I6 st2 ha,ha.t f (by simp[Op.operands,Call.operands]),e1];unfold F2;simp only[Z0,T2,n8];unfold Qh;simp only[dq,ha.h 1000 (by simp),ha.h 1001 (by simp),e3,e4];exact⟨⟨trivial,trivial⟩,v,Ft,n',h1,h'⟩
       ·exact Im.elim
      ·exact Im.elim
     ·cases hf
    |false =>
    have n8:Nat.beq (k+1) 3=false:=hc;rw[hc]at hf;have UP:OV cx (k+1) dst st (ev st.t f) (args.toList.map (ev st.t)) K:=by
     simp only[n8]at Im;exact Im
    have mI:eh k dst (args.toList.map (ev st.t))=some (R,w):=hf;unfold eh at mI;unfold OV at UP;cases he:Nat.beq k 3 with
    |true =>
     have iB:Nat.beq (k+1) 4=true:=he;rw[he]at mI;rw[iB]at UP;have mI:some (jl,some VE)=some (R,w):=mI;have UP:Xl cx dst st (ev st.t f) (args.toList.map (ev st.t)) K:=UP;cases mI;unfold Xl at UP;split at UP
     ·rename_i d f' e2 _ _ _;obtain⟨σ,H0,Hn,args',res,g1,g2,g3,g4⟩:=UP;simp only[Ag]at g2;refine⟨_,σ.map fun p=>(p.1,(Ah Hn Ab p.2).ren (EX σ d 0) (Ah Hn Ab)),(Ut (h:=st.h) (h':=Ah Hn Ab) (d:=d) g2.1.1)▸g4,fun r' o' e=>?_,fun st2 ha K' h'=>?_⟩
      ·obtain⟨p,hp,e⟩:=Am.1 e;cases e;exact⟨.inr (.inr rfl),jV (Bp.1 g2.2 p hp)⟩
      ·show F2 cx true _ st2 (ev st2.t f) (args.toList.map (ev st2.t)) K';rw[I6 st2 ha,ha.t f (by simp[Op.operands,Call.operands])];unfold F2;simp only[Z0,T2,n8];unfold OV;simp only[iB];unfold Xl;rw[e2];refine⟨σ,H0,Hn,args',res,fun h2 hh=>g1 h2 fun r hr=>(hh r hr).trans (ha.h r hr),by simp only[Ag];exact g2,g3,?_⟩;rw[Ut (h:=st2.h) (h':=Ah Hn Ab) (d:=d) g2.1.1];exact h'
     ·exact UP.elim
    |false =>
    have iB:Nat.beq (k+1) 4=false:=he;rw[he]at mI;rw[iB]at UP;have hf:ZQ dst (args.toList.map (ev st.t))=some (R,w):=mI;have hk:QT cx (k+1) dst st.h (ev st.t f) (args.toList.map (ev st.t)) K:=UP;obtain⟨d,r,n,l,rfl,hl,e0⟩:=YP hf;cases e0;unfold QT at hk;rw[hl]at hk;split at hk
    ·rename_i d0 f0 r0 n0 l0 e9 e1 e2;cases e9;cases e2;split at hk
     ·rename_i vs dq;split at hk
      ·rename_i sz es hr;obtain⟨n',Ft,h0,h1,h2⟩:=hk;have th:=h0;simp only[Ag,Cj]at th;refine⟨_,[(r,.dead),(Bo d 0,_)],h2,fun r' o' e=>?_,fun st2 ha K' h'=>?_⟩
       ·rcases Au.1 e with e | e
        ·cases e
         refine⟨.inr (.inl ⟨by unfold Bo;omega,.inl ?_⟩),Aa ..⟩;rw[Nat.add_mul_mod_self_left,Nat.mod_eq_of_lt th.1.2]
        ·obtain e:=Al.1 e;cases e;refine⟨.inr (.inl ⟨by unfold Bo;omega,.inr ?_⟩),Af _ (Aa ..)⟩;rw[Nat.add_mul_div_left _ _ (by decide),Nat.div_eq_of_lt th.1.2,Bi]
       show F2 cx true _ st2 (ev st2.t f) (args.toList.map (ev st2.t)) K';rw[I6 st2 ha,ha.t f (by simp[Op.operands,Call.operands]),hl,e1];unfold F2;simp only[Z0,T2,n8];unfold OV;simp only[iB];unfold QT;simp only[dq,ha.h r (Aa ..),hr]
       have:DC st2.h d 1=DC st.h d 1:=by simp only[DC,ha.h (Bo d 0) (Af _ (Aa ..))]
       exact⟨n',Ft,by rw[this];exact h0,h1,h'⟩
      ·exact hk.elim
     ·exact hk.elim
    ·exact hk.elim
 |builtin b =>
  refine D5.toL ?_;have mm:∀f:Int→Int→Int,(∀(d:Option Nat) (h:Nat→HO) (GC:List Nat) (args:List AV) (K:HK),FL cx d h b GC args K=(match args with | [x,y]=>jX f x y fun v=>K v h | _=>False))→R=[]∧w=none→D5 cx ⟨dst,.call ⟨.builtin b,args,GC⟩,ty,pos,after,gd⟩ st R w K:=by
   rintro f hb ⟨rfl,rfl⟩
   have hk:FL cx dst st.h b GC.toList (args.toList.map (ev st.t)) K:=hk;rw[hb]at hk;split at hk
   ·rename_i x y e;refine .pick (kl f x y) hk fun st2 ha K' h=>?_;show FL cx dst st2.h b GC.toList (args.toList.map (ev st2.t)) K';rw[hb,I6 st2 ha,e];exact h
   ·exact hk.elim
  cases b
  case max=>exact mm max (fun d h GC args K=>by cases args with | nil=>rfl | cons x l=>cases l with | nil=>rfl | cons y l=>cases l<;>rfl) (by
   have hf:GI cx dst (.builtin .max) st.t (args.toList.map (ev st.t))=some (R,w):=hf;simp only[GI]at hf;cases hf;exact⟨rfl,rfl⟩)
  case min=>exact mm min (fun d h GC args K=>by cases args with | nil=>rfl | cons x l=>cases l with | nil=>rfl | cons y l=>cases l<;>rfl) (by
   have hf:GI cx dst (.builtin .min) st.t (args.toList.map (ev st.t))=some (R,w):=hf;simp only[GI]at hf;cases hf;exact⟨rfl,rfl⟩)
  case append =>
   obtain⟨l⟩:=args
   match l,hk,hf with
   | [s,x],hk,hf=>exact VW hk hf
   | [],hk,hf=>cases GC;exact hk.elim
   | [_],hk,hf=>exact hk.elim
   |_::_::_::_,hk,hf=>exact hk.elim
  case len =>
   obtain⟨l⟩:=args
   match l,hk,hf with
   | [x],hk,hf=>exact bG hk hf
   | [],hk,hf=>exact hk.elim
   |_::_::_,hk,hf=>exact hk.elim
  all_goals exact hk.elim
theorem Ys{o:Oper}(hc:∀c,o.op≠.call c)(hs:(∃t x lo hi mx,o.op=.slice t x lo hi mx)→Nh cx.pl.tok o.dst=none)(hk:FE cx true o st K)(hf:E5 cx o st=some (R,w)):D5 cx o st R w K:=by
 obtain⟨dst,op,ty,pos,after,gd⟩:=o;cases op with
 |call c=>exact absurd rfl (hc c)
 |alloc e=>exact Xh hk hf
 |box e x=>exact bF hk hf
 |buildSlice t n ps=>exact PB hk hf
 |makeSlice t n c=>exact QX hk hf
 |makeMap t r=>exact TZ hk hf
 |store t p x=>exact Xj hk hf
 |mapUpdate t m k x=>exact QY hk hf
 |makeFunc fn first cap=>exact Sp hk hf
 |load t p=>exact YS hk hf
 |assign x=>exact VX hk hf
 |slice t x lo hi mx=>exact Qy (hs ⟨t,x,lo,hi,mx,rfl⟩) hk hf
 |lookup t x i ok=>exact VY hk hf
 |move x =>
  cases hf
  exact .pick (Dm _) hk fun st2 ha K' h=>by simp only[FE,ha.t x (by simp[Op.operands])];exact h
 |pick c a b =>
  cases hf
  exact .pick (cN _ _ _) hk fun st2 ha K' h=>by simp only[FE,ha.t c (by simp[Op.operands]),ha.t a (by simp[Op.operands]),ha.t b (by simp[Op.operands])];exact h
 |nilCheck x =>
  cases hf
  exact .pick (gE _) hk fun st2 ha K' h=>by simp only[FE,ha.t x (by simp[Op.operands])];exact h
 |binOp op t x y u =>
  simp only[E5]at hf;split at hf
  ·cases hf
  ·rename_i hx;cases hf;exact .pick (cL _ _ _ _ _ _ hx) hk fun st2 ha K' h=>by simp only[FE,ha.t x (by simp[Op.operands]),ha.t y (by simp[Op.operands])];exact h
 |unOp op t x =>
  cases hf
  exact .pick (cO _ _) hk fun st2 ha K' h=>by simp only[FE,ha.t x (by simp[Op.operands])];exact h
 |convert s t x =>
  cases hf
  exact .pick (cM _ _ _ _) hk fun st2 ha K' h=>by simp only[FE,ha.t x (by simp[Op.operands])];exact h
 |fieldAddr s x f =>
  cases hf
  exact .pick (Zq _ _ _ _) hk fun st2 ha K' h=>by simp only[FE,ha.t x (by simp[Op.operands])];exact h
 |field s x f =>
  cases hf
  exact .pick (X6 _ _ _ _) hk fun st2 ha K' h=>by simp only[FE,ha.t x (by simp[Op.operands])];exact h
 |indexAddr t x i =>
  cases hf
  exact .pick (Tp _ _ _ _) hk fun st2 ha K' h=>by simp only[FE,ha.t x (by simp[Op.operands]),ha.t i (by simp[Op.operands])];exact h
 |index t x i =>
  cases hf
  exact .pick (Zs _ _ _ _) hk fun st2 ha K' h=>by simp only[FE,ha.t x (by simp[Op.operands]),ha.t i (by simp[Op.operands])];exact h
 |extract x i =>
  cases hf
  exact .pick (Wi _ _) hk fun st2 ha K' h=>by simp only[FE,ha.t x (by simp[Op.operands])];exact h
 |build t ps =>
  cases hf
  refine .pick (Zp _ _ _ _) hk fun st2 ha K' h=>?_;have hx:∀p∈ps.toList,ev st2.t p.2=ev st.t p.2:=fun p hp=>ha.t p.2 (by
   simp only[Op.operands,List.mem_toArray];exact Am.2 ⟨p,hp,rfl⟩)
  simp only[FE];have fill:∀(pl:Nat→Option (Nat×Nat)) (l:List (Nat×Operand)) (cs:List AV) (K:List AV→Prop),(∀p∈l,ev st2.t p.2=ev st.t p.2)→Kk pl cs st2.t l K=Kk pl cs st.t l K:=by
   intro pl l
   induction l with
   |nil=>intro cs K _;rfl
   |cons p l ih =>
    intro cs K hp;obtain⟨i,x⟩:=p;have h1:ev st2.t x=ev st.t x:=hp (i,x) (Aa ..);have h2:∀cs,Kk pl cs st2.t l K=Kk pl cs st.t l K:=fun cs=>ih cs K (fun p mV=>hp p (Af _ mV));simp only[Kk,h1,h2]
  unfold Pr at h⊢;simp only[fill _ _ _ _ hx];exact h
 |_=>cases hf
theorem bf{o:Oper}(hk:FE cx true o st K)(hf:E5 cx o st=some (R,w)):Rh cx o st R w K:=by
 obtain⟨dst,op,ty,pos,after,gd⟩:=o
 by_cases h:∃c,op=.call c
 ·obtain⟨c,rfl⟩:=h;exact YR hk hf
 ·by_cases h2:∃t x lo hi mx,op=.slice t x lo hi mx
  ·obtain⟨t,x,lo,hi,mx,rfl⟩:=h2;cases hp:Nh cx.pl.tok dst with
   |none=>exact D5.toL (Qy hp hk hf)
   |some p=>exact bH hp hk hf
  ·exact D5.toL (Ys (fun c e=>h ⟨c,e⟩) (fun e=>absurd e h2) hk hf)
end
theorem UK{cx:Cx}{o:Oper}{st st2:St}(h:∀x∈o.op.operands,ev st2.t x=ev st.t x):E5 cx o st2=E5 cx o st:=by
 obtain⟨dst,op,ty,pos,after,gd⟩:=o;cases op with
 |call c =>
  obtain⟨mo,args,GC⟩:=c;have ha:args.toList.map (ev st2.t)=args.toList.map (ev st.t):=Be fun x hx=>h x (by simp only[Op.operands,Call.operands,Ry];exact .inr (by simpa using hx));simp only[E5];rw[ha];cases mo with
  |value f =>
   have hf:ev st2.t f=ev st.t f:=h f (by simp[Op.operands,Call.operands]);simp only[GI,hf]
  |builtin b =>
   generalize args.toList.map (ev st.t)=l
   match l with
   | []=>cases b<;>rfl
   | [x]=>cases b<;>cases x<;>rfl
   | [x,y]=>cases b<;>cases x<;>rfl
   |x::_::_::_=>cases b<;>cases x<;>rfl
  |invoke r m=>rfl
 |box e x=>simp only[E5,h x (by simp[Op.operands])]
 |buildSlice t n ps =>
  have hx:ps.toList.map (fun p=>ev st2.t p.2)=ps.toList.map (fun p=>ev st.t p.2):=Be fun p hp=>h p.2 (by
   simp only[Op.operands,List.mem_toArray];exact Am.2 ⟨p,hp,rfl⟩)
  simp only[E5,hx]
 |store t p x=>simp only[E5,h p (by simp[Op.operands]),h x (by simp[Op.operands])]
 |mapUpdate t m k x=>simp only[E5,h m (by simp[Op.operands]),h x (by simp[Op.operands])]
 |makeFunc fn first cap =>
  have hx:cap.toList.map (ev st2.t)=cap.toList.map (ev st.t):=Be fun x hx=>h x (by simp only[Op.operands,Ry];exact .inr (by simpa using hx));simp only[E5,hx]
 |load t p=>simp only[E5,h p (by simp[Op.operands])]
 |assign x=>simp only[E5,h x (by simp[Op.operands])]
 |binOp op t x y u=>simp only[E5,h x (by simp[Op.operands])]
 |slice t x lo hi mx=>simp only[E5,h x (by simp[Op.operands])]
 |lookup t x i ok=>simp only[E5,h x (by simp[Op.operands])]
 |_=>rfl
def J9(ops:Array Oper)(o:Oper)(st st2:St):Prop:=∀d∈o.looksAt ops,st2.t d=st.t d
theorem J9.operands{ops:Array Oper}{o:Oper}{st st2:St}(h:J9 ops o st st2):∀x∈o.op.operands,ev st2.t x=ev st.t x:=fun x hx=>by
 cases x with
 |tmp t=>exact h t (Bn _ (List.mem_filterMap.2 ⟨.tmp t,by simpa using hx,rfl⟩))
 |_=>rfl
theorem Va(ops:Array Oper)(j:Nat):JV ops.toList j=(ops[j]?).bind (·.dst):=by
 have:∀(l:List Oper) (j:Nat),JV l j=(l[j]?).bind (·.dst):=by
  intro l
  induction l with
  |nil=>intro j;simp[JV]
  |cons o l ih =>
   intro j;cases j with
   |zero=>simp[JV]
   |succ j=>simp[JV,ih]
 rw[this];simp
theorem J9.guard{ops:Array Oper}{o:Oper}{st st2:St}(h:J9 ops o st st2){j:Nat}{b:Bool}(hg:o.guard=some (j,b)){d:Nat}(hd:JV ops.toList j=some d):st2.t d=st.t d :=
 h d (Bj _ (by rw[hg];simp only;rw[←Va,hd];simp))
def St.after(st:St)(o:Oper)(v:AV)(e:List (Nat×HO)):St:=st.put o.dst v (HS st.h e)
def Pm(cx:Cx)(ops:Array Oper)(o:Oper)(st:St)(f:Fj)(v:AV)(e:List (Nat×HO)):Prop :=
 (∀r o',(r,o')∈e→RA f.2 r∧r∈f.1)∧∀st2,J9 ops o st st2→(∀r∈f.1,st2.h r=st.h r)→∀K:St→Prop,K (st2.after o v e)→GX cx true ops.toList o st2 K
theorem So{cx:Cx}{ops:Array Oper}{o:Oper}{st st2:St}(h:J9 ops o st st2):M0 cx ops.toList o st2=M0 cx ops.toList o st:=by
 unfold M0;split
 ·exact UK h.operands
 ·rename_i j want hg;split
  ·rfl
  ·rename_i d hd;simp only[h.guard hg hd];split<;>first | exact UK h.operands | rfl
theorem N4{cx:Cx}{ops:Array Oper}{o:Oper}{st:St}{f:Fj}{K:St→Prop}(hk:GX cx true ops.toList o st K)(hf:M0 cx ops.toList o st=some f) :
  ∃v e,Pm cx ops o st f v e∧K (st.after o v e):=by
 obtain⟨R,w⟩:=f;have skip:R=[]∧w=none→K (st.put o.dst (.v undef) st.h)→(∀st2,J9 ops o st st2→∀K:St→Prop,K (st2.put o.dst (.v undef) st2.h)→GX cx true ops.toList o st2 K)→∃v e,Pm cx ops o st (R,w) v e∧K (st.after o v e):=by
  rintro⟨rfl,rfl⟩ h1 h2
  exact⟨.v undef,[],⟨fun r o' e=>(by cases e),fun st2 hl _ K h=>h2 st2 hl K h⟩,h1⟩
 have run:E5 cx o st=some (R,w)→FE cx true o st (fun v h=>K (st.put o.dst v h))→(∀st2,J9 ops o st st2→∀K:St→Prop,FE cx true o st2 (fun v h=>K (st2.put o.dst v h))→GX cx true ops.toList o st2 K)→∃v e,Pm cx ops o st (R,w) v e∧K (st.after o v e):=by
  intro hf hk h2;obtain⟨v,e,q1,q2,q3⟩:=bf hk hf;exact⟨v,e,⟨q2,fun st2 hl hh K h=>h2 st2 hl K (q3 st2 ⟨hl.operands,hh⟩ _ h)⟩,q1⟩
 unfold GX at hk;unfold M0 at hf;cases hg:o.guard with
 |none =>
  rw[hg]at hk hf;exact run hf hk (fun st2 hl K h=>by unfold GX;rw[hg];exact h)
 |some p =>
  obtain⟨j,want⟩:=p;rw[hg]at hk hf;simp only at hk hf;cases hd:JV ops.toList j with
  |none=>rw[hd]at hk;exact hk.elim
  |some d =>
   rw[hd]at hk hf;simp only at hk hf;have he:∀st2,J9 ops o st st2→st2.t d=st.t d:=fun st2 hl=>hl.guard hg hd;generalize hx:st.t d=x at hk hf he;split at hk
   ·exact run hf hk (fun st2 hl K h=>by unfold GX;simp only[hg,hd,he st2 hl];exact h)
   ·exact run hf hk (fun st2 hl K h=>by unfold GX;simp only[hg,hd,he st2 hl];exact h)
   ·exact skip (by cases hf;exact⟨rfl,rfl⟩) hk (fun st2 hl K h=>by unfold GX;simp only[hg,hd,he st2 hl];exact h)
   ·exact skip (by cases hf;exact⟨rfl,rfl⟩) hk (fun st2 hl K h=>by unfold GX;simp only[hg,hd,he st2 hl];exact h)
   ·exact skip (by cases hf;exact⟨rfl,rfl⟩) hk (fun st2 hl K h=>by unfold GX;simp only[hg,hd,he st2 hl];exact h)
   ·exact hk.elim
def oJ(cx:Cx)(ops:Array Oper)(FT:Nat→Fj)(i:Nat)(K:St→Prop)(st:St):Prop :=
 match ops[i]? with
 |none=>K st
 |some o=>M0 cx ops.toList o st=some (FT i)∧GX cx true ops.toList o st K
def WI(cx:Cx)(ops:Array Oper)(FT:Nat→Fj)(K:St→Prop):Nat→Array Bool→St→Prop
 |0,listed,st=>Region.ready .any ops listed=[]∧K st
 |fuel+1,listed,st =>
  (Region.ready .any ops listed=[]→K st)∧∀i∈Region.ready .any ops listed,oJ cx ops FT i (WI cx ops FT K fuel (listed.setIfInBounds i true)) st
theorem de(t:Nat→AV){d d' : Nat}(h:d'≠d)(v v' : AV):GU (GU t d v) d' v'=GU (GU t d' v') d v:=by
 funext i
 unfold GU
 by_cases h1:i=d<;>by_cases h2:i=d'
 ·exact absurd (h2.symm.trans h1) h
 ·subst h1;simp[CH h2]
 ·subst h2;simp[CH h1]
 ·simp[CH h1,CH h2]
theorem bP(t:Nat→HO){d d' : Nat}(h:d'≠d)(v v' : HO):AU (AU t d v) d' v'=AU (AU t d' v') d v:=by
 funext i
 unfold AU
 by_cases h1:i=d<;>by_cases h2:i=d'
 ·exact absurd (h2.symm.trans h1) h
 ·subst h1;simp[CH h2]
 ·subst h2;simp[CH h1]
 ·simp[CH h1,CH h2]
theorem OH{l:List Nat}{n:Nat}(h:n∈l):Ix l n=true:=by
 induction l with
 |nil=>cases h
 |cons a l ih =>
  unfold Ix
  by_cases e:a=n
  ·subst e;simp
  ·rw[CH e];exact ih ((Au.1 h).resolve_left (fun q=>e q.symm))
theorem XN{l:List Nat}{n:Nat}(h:Ix l n=true):n∈l:=by
 induction l with
 |nil=>cases h
 |cons a l ih =>
  unfold Ix at h
  by_cases e:a=n
  ·exact e▸Aa ..
  ·rw[CH e]at h;exact Af _ (ih h)
theorem X1{l:List Nat}{x:Nat}(h:XZ l x=true):∀r,RA (some x) r→r∉l:=by
 intro r hc hr;unfold XZ at h
 by_cases hx:x=VE
 ·subst hx;rw[CV,JA]at h;cases l with
  |nil=>cases hr
  |cons a l=>cases h
 rw[CH hx,Eh]at h;simp only[Ag,CB,CQ,Cj]at h;rcases hc with rfl | ⟨h1,h2⟩ | hc
 ·rw[OH hr]at h;cases h.1
 ·rcases h.2 with h3 | h3
  ·omega
  ·rcases h2 with rfl | rfl
   ·rw[OH hr]at h3;cases h3.1
   ·rw[OH hr]at h3;cases h3.2
 ·exact hx hc
theorem bx{a b:Fj}(h:RZ a b=true):(∀r,RA a.2 r→r∉b.1)∧∀r,RA b.2 r→r∉a.1:=by
 obtain⟨a1,a2⟩:=a;obtain⟨b1,b2⟩:=b;simp only[RZ,Ag]at h;refine⟨fun r e=>?_,fun r e=>?_⟩
 ·cases a2 with
  |none=>exact e.elim
  |some x=>exact X1 h.1 r e
 ·cases b2 with
  |none=>exact e.elim
  |some x=>exact X1 h.2 r e
section
variable {cx:Cx}{ops:Array Oper}{FT:Nat→Fj}
theorem QH{oi oj:Oper}(h:∀d,oi.dst=some d→d∉oj.looksAt ops)(st:St)(v:AV)(e:List (Nat×HO)):J9 ops oj st (st.after oi v e):=by
 intro d hd;cases hdst:oi.dst with
 |none=>simp[St.after,St.put,hdst]
 |some d' =>
  have:d≠d':=fun q=>h d' hdst (q▸hd)
  simp[St.after,St.put,hdst,GU,CH this]
theorem J9.symm{o:Oper}{st st2:St}(h:J9 ops o st st2):J9 ops o st2 st:=fun d hd=>(h d hd).symm
theorem ZX{o:Oper}{st:St}{v:AV}{e:List (Nat×HO)}:(st.after o v e).h=HS st.h e:=by
 unfold St.after St.put;cases o.dst<;>rfl
theorem Px{r:Nat}:∀{e:List (Nat×HO)} {h:Nat→HO},(∀o',(r,o')∉e)→HS h e r=h r
 | [],_,_=>rfl
 |p::e,h,hr=>by
  have:r≠p.1:=fun q=>hr p.2 (by rw[q];exact Aa ..)
  show HS (AU h p.1 p.2) e r=h r;rw[Px fun o' ho=>hr o' (Af _ ho),BX _ _ _ _ this]
theorem W5{r:Nat}{o:HO}:∀{e:List (Nat×HO)} {h:Nat→HO},(∀r' o',(r',o')∈e→r'≠r)→HS (AU h r o) e=AU (HS h e) r o
 | [],_,_=>rfl
 |p::e,h,hr=>by
  show HS (AU (AU h r o) p.1 p.2) e=AU (HS (AU h p.1 p.2) e) r o;rw[bP h (hr p.1 p.2 (Aa ..)),W5 fun r' o' ho=>hr r' o' (Af _ ho)]
theorem UG:∀{e e' : List (Nat×HO)} {h:Nat→HO},(∀r o r' o',(r,o)∈e→(r',o')∈e'→r'≠r)→HS (HS h e) e'=HS (HS h e') e
 | [],_,_,_=>rfl
 |p::e,e',h,hd=>by
  show HS (HS (AU h p.1 p.2) e) e'=HS (AU (HS h e') p.1 p.2) e;rw[←W5 fun r' o' ho=>hd p.1 p.2 r' o' (Aa ..) ho,UG fun r o r' o' h1 h2=>hd r o r' o' (Af _ h1) h2]
theorem Yr{oi oj:Oper}{st:St}{v v' : AV}{e e' : List (Nat×HO)}(h1:∀d,oi.dst=some d→oj.dst≠some d)(h2:∀r o r' o',(r,o)∈e→(r',o')∈e'→r'≠r) :
  (st.after oi v e).after oj v' e'=(st.after oj v' e').after oi v e:=by
 have hh:HS (HS st.h e) e'=HS (HS st.h e') e:=UG h2;have key:∀o:Oper,∀v e,∀st:St,st.after o v e=⟨match o.dst with | none=>st.t | some d=>GU st.t d v,HS st.h e⟩:=fun o v e st=>by
  unfold St.after St.put;cases o.dst<;>rfl
 rw[key,key,key,key];simp only[hh];cases hi:oi.dst with
 |none=>rfl
 |some d =>
  cases hj:oj.dst with
  |none=>rfl
  |some d' =>
   have Dz:d'≠d:=fun q=>h1 d hi (by rw[hj,q]);simp only[de st.t Dz v v']
theorem Yq{K:St→Prop}{i:Nat}{oi:Oper}{v:AV}{e:List (Nat×HO)}(hi:ops[i]?=some oi)(D:Nat→Prop)
  (hD:∀j,D j→∃oj,ops[j]?=some oj∧∃ed∈oj.after,Region.binds .any ed=true∧(ed.on=i∨D ed.on)) :
  ∀(fuel:Nat) (listed:Array Bool) (st:St),
   (∀j oj,ops[j]?=some oj→j≠i→listed.getD j true=false→¬D j→oi.apart ops oj=true∧RZ (FT i) (FT j)=true) →
   i∈Region.ready .any ops listed→(∀j,D j→listed.getD j true=false)→M0 cx ops.toList oi st=some (FT i)→Pm cx ops oi st (FT i) v e →
   WI cx ops FT K fuel (listed.setIfInBounds i true) (st.after oi v e)→WI cx ops FT K (fuel+1) listed st:=by
 have here:∀(fuel:Nat) (listed:Array Bool) (st:St),M0 cx ops.toList oi st=some (FT i)→Pm cx ops oi st (FT i) v e →
   WI cx ops FT K fuel (listed.setIfInBounds i true) (st.after oi v e)→oJ cx ops FT i (WI cx ops FT K fuel (listed.setIfInBounds i true)) st:=by
  intro fuel listed st hf hy H;unfold oJ;rw[hi];exact⟨hf,hy.2 st (fun _ _=>rfl) (fun _ _=>rfl) _ H⟩
 intro fuel
 induction fuel with
 |zero =>
  intro listed st _ hr _ hf hy H;refine⟨fun h=>(by rw[h]at hr;cases hr),fun j hj=>?_⟩
  by_cases HT:j=i
  ·subst HT;exact here 0 listed st hf hy H
  ·have:=ready_mono hj HT
   rw[H.1]at this;cases this
 |succ fuel ih =>
  intro listed st Ab hr wG hf hy H;refine⟨fun h=>(by rw[h]at hr;cases hr),fun j hj=>?_⟩
  by_cases HT:j=i
  ·subst HT;exact here (fuel+1) listed st hf hy H
  ·have h1:=H.2 j (ready_mono hj HT);obtain⟨p5,oj,jD,FM⟩:=mem_ready.1 hj;have pt:∀k,listed.getD k true=false→listed.getD k false=true→False:=fun k h0 h1=>by
    rcases Ez k listed.size with h' | h'
    ·simp[h']at h0 h1;rw[h0]at h1;cases h1
    ·simp[Array.getElem?_eq_none h']at h1
   have rR:¬D j:=fun rI=>by
    obtain⟨oj',lk,ed,he,hb,zv⟩:=hD j rI;rw[jD]at lk;cases lk;have hl:=FM ed he hb;rcases zv with h2 | h2
    ·exact pt _ (by rw[h2];exact(mem_ready.1 hr).1) hl
    ·exact pt _ (wG _ h2) hl
   obtain⟨pJ,rI⟩:=Ab j oj jD HT p5 rR;obtain⟨a1,a2,a3⟩:=Oper.apart_spec pJ;obtain⟨d1,d2⟩:=bx rI;unfold oJ at h1⊢;rw[jD]at h1⊢;obtain⟨wW,zk⟩:=h1;have xa:=QH (ops:=ops) a1 st v e;obtain⟨vj,ej,xr,hK⟩:=N4 zk wW;have y0:∀r o',(r,o')∈e→r∉(FT j).1:=fun r o' q=>d1 r (hy.1 r o' q).1;have iB:∀r o',(r,o')∈ej→r∉(FT i).1:=fun r o' q=>d2 r (xr.1 r o' q).1;refine⟨by rw[←So xa];exact wW,xr.2 st xa.symm (fun r mW=>?_) _ ?_⟩
   ·rw[ZX,Px (fun o' q=>y0 r o' q mW)]
   ·have w9:=QH (ops:=ops) a3 st vj ej;refine ih (listed.setIfInBounds j true) (st.after oj vj ej) (fun k ok hk w8 jH Ra=>?_) (ready_mono hr (Ne.symm HT)) (fun k hk=>?_) (by rw[So w9];exact hf) ⟨hy.1,fun st2 hl hh K' h'=>?_⟩ ?_
    ·by_cases jA:j=k
     ·subst jA;exact Ab _ ok hk w8 p5 Ra
     ·rw[getD_set_ne true jA]at jH;exact Ab k ok hk w8 jH Ra
    ·by_cases jA:j=k
     ·subst jA;exact absurd hk rR
     ·rw[getD_set_ne true jA];exact wG k hk
    ·refine hy.2 st2 (fun d hd=>(hl d hd).trans (w9 d hd)) (fun r mW=>?_) K' h';rw[hh r mW,ZX,Px (fun o' q=>iB r o' q mW)]
    ·rw[Array.setIfInBounds_comm _ _ (Ne.symm HT)]at hK;rw[←Yr a2 (fun r o r' o' q q' e2=>iB r' o' q' (by rw[e2];exact(hy.1 r o q).2))];exact hK
def lO(cx:Cx)(ops:Array Oper)(K:St→Prop):List Oper→List Fj→St→Prop
 | [],[],st=>K st
 |o::r,f::fs,st=>M0 cx ops.toList o st=some f∧∃v e,Pm cx ops o st f v e∧lO cx ops K r fs (st.after o v e)
 |_,_,_=>False
theorem RG{K:St→Prop}:∀(l:List Oper) (acc:List Fj) (st:St),WM cx ops l acc st K→∃fs,Sa ops (acc.reverse++fs)=true∧lO cx ops K l fs st
 | [],acc,st,h=>⟨[],by simpa using h.1,h.2⟩
 |o::r,acc,st,h=>by
  unfold WM at h;split at h
  ·rename_i f hf;obtain⟨v,e,h1,h2⟩:=N4 h hf;obtain⟨fs,q1,q2⟩:=RG r _ _ h2;exact⟨f::fs,by simpa using q1,hf,v,e,h1,q2⟩
  ·exact h.elim
theorem V0{o:Oper}{i:Nat}{D:List Nat}(h:Oy o i D=true):∃ed∈o.after,Region.binds .any ed=true∧(ed.on=i∨ed.on∈D):=by
 unfold Oy at h;obtain⟨ed,h1,h2⟩:=Ba.1 h;simp only[Ag,CB]at h2;exact⟨ed,by simpa using h1,h2.1,h2.2.imp AL XN⟩
theorem TB{i:Nat}{D:List Nat}:∀(l:List Oper) (k:Nat),TA i D k l=true→∀j o,l[j]?=some o→k+j∈D→Oy o i D=true
 | [],_,_,_,_,h,_=>by simp at h
 |o::l,k,hs,j,o',h,hm=>by
  simp only[TA,Ag]at hs;cases j with
  |zero =>
   simp only[A7,Bm]at h;subst h;have h1:=hs.1;rw[OH (by simpa using hm)]at h1;simpa using h1
  |succ j=>exact TB l (k+1) hs.2 j o' (by simpa using h) (by rw[Gi,Nat.add_comm 1 j];exact hm)
theorem Up{oi:Oper}{fi:Fj}{D:List Nat}:∀(l:List Oper) (fs:List Fj) (k:Nat),If ops oi fi D k l fs=true→l.length=fs.length∧∀j o f,l[j]?=some o→fs[j]?=some f→k+j∉D→oi.apart ops o=true∧RZ fi f=true
 | [],[],_,_=>⟨rfl,fun _ _ _ h=>by simp at h⟩
 | [],_::_,_,h=>by simp[If]at h
 |_::_,[],_,h=>by simp[If]at h
 |o::l,f::fs,k,h=>by
  simp only[If,Ag,CB]at h;obtain⟨h1,h2⟩:=Up l fs (k+1) h.2;refine⟨by simp[h1],fun j o' f' q1 q2 hn=>?_⟩;cases j with
  |zero =>
   simp only[A7,Bm]at q1 q2;subst q1;subst q2;rcases h.1 with h3 | h3
   ·exact absurd (XN h3) hn
   ·exact h3
  |succ j=>exact h2 j o' f' (by simpa using q1) (by simpa using q2) (by simpa[Nat.add_assoc,Nat.add_comm 1 j]using hn)
theorem WJ{K:St→Prop}:∀(l:List Oper) (fs:List Fj) (k:Nat) (listed:Array Bool) (st:St),(∀j,l[j]?=ops[k+j]?)→(∀j f,fs[j]?=some f→FT (k+j)=f)→listed.size=ops.size →
  (∀j,j<ops.size→listed.getD j true=decide (j<k))→LG ops ops.toList k l fs=true→lO cx ops K l fs st→WI cx ops FT K l.length listed st
 | [],[],k,listed,st,hl,_,hs,hL,_,h=>by
  refine⟨?_,h⟩;apply Lp.2;intro j hj;obtain⟨h1,o,ho,_⟩:=mem_ready.1 hj;have DF:=(Bw.1 ho).1;rw[hL j DF]at h1;have og:k≤j:=by simpa using h1
  have:=hl (j-k)
  rw[show k+(j-k)=j by omega,ho]at this;simp at this
 | [],_::_,_,_,_,_,_,_,_,h,_=>by simp[LG]at h
 |_::_,[],_,_,_,_,_,_,_,h,_=>by simp[LG]at h
 |o::l,f::fs,k,listed,st,hl,hF,hs,hL,hg,h=>by
  simp only[LG,Ag]at hg;obtain⟨⟨⟨⟨g1,g2⟩,g3⟩,g4⟩,g5⟩:=hg;obtain⟨hf,v,e,hy,hp⟩:=h;have h0:ops[k]?=some o:=by simpa using(hl 0).symm
  have hk:=(Bw.1 h0).1;have tq:FT k=f:=by simpa using hF 0 f rfl
  have PD : ∀j,l[j]?=ops[k+1+j]?:=fun j=>by have:=hl (j+1);simpa[Nat.add_assoc,Nat.add_comm 1 j]using this
  have nX : ∀j f,fs[j]?=some f→FT (k+1+j)=f:=fun j f' hj=>by have:=hF (j+1) f' (by simpa using hj);simpa[Nat.add_assoc,Nat.add_comm 1 j]using this
  obtain⟨CE,pJ⟩:=Up l fs (k+1) g4;have ZV:∀j,j∈Pw k [] 0 ops.toList→k<j∧j<ops.size:=fun j hj=>by
   have:=(Bp.1 g3) j hj
   simp only[Ag,Cj,B3]at this;exact this
  refine Yq h0 (fun j=>j∈Pw k [] 0 ops.toList) (fun j hj=>?_) l.length listed st (fun j oj jD jA jH rR=>?_) ?_ (fun j hj=>?_) (by rw[tq];exact hf) (by rw[tq];exact hy) ?_
  ·have DF:=(ZV j hj).2
   have:=TB ops.toList 0 g2 j ops[j] (by simp[DF]) (by simpa using hj)
   obtain⟨ed,e1,e2,e3⟩:=V0 this;exact⟨ops[j],by simp[DF],ed,e1,e2,e3⟩
  ·have DF:=(Bw.1 jD).1;rw[hL j DF]at jH;have og:k<j:=by have q:k≤j:=(by simpa using jH);omega
   have e1:l[j-(k+1)]?=some oj:=by rw[PD,show k+1+(j-(k+1))=j by omega];exact jD
   have hfl:j-(k+1)<fs.length:=by rw[←CE];exact(As.1 e1).1
   have e2:fs[j-(k+1)]?=some fs[j-(k+1)]:=Ay hfl;have e3:=nX _ _ e2;rw[show k+1+(j-(k+1))=j by omega]at e3;rw[tq,e3];exact pJ _ _ _ e1 e2 (by rw[show k+1+(j-(k+1))=j by omega];exact rR)
  ·refine mem_ready.2 ⟨by rw[hL k hk];simp,o,h0,fun ed he hb=>?_⟩
   have:=(Bp.1 g1) ed (by simpa using he)
   simp only[hb,Bool.not_true,Lx,Cj]at this;have h1:=hL ed.on (by omega);have DF:ed.on<listed.size:=by omega
   simp[DF]at h1⊢;rw[h1];simpa using this
  ·have:=ZV j hj
   rw[hL j this.2];simp;omega
  ·refine WJ l fs (k+1) _ _ PD nX (by simp[hs]) (fun j hj=>?_) g5 hp
   by_cases jA:j=k
   ·subst jA
    have:j<listed.size:=by omega
    simp[this]
   ·rw[getD_set_ne true (Ne.symm jA),hL j hj]
    by_cases h1:j<k
    ·simp[h1];omega
    ·simp[h1];omega
theorem aY{K:St→Prop}{st:St}(h:WM cx ops ops.toList [] st K):Region.noSelect ops=true∧∃FT,WI cx ops FT K ops.size (Array.replicate ops.size false) st:=by
 obtain⟨fs,h1,h2⟩:=RG _ _ _ h;simp only[Sa,List.reverse_nil,D6,Ag]at h1;refine⟨h1.1,fun j=>fs.getD j default,?_⟩
 have:=WJ (FT:=fun j=>fs.getD j default) ops.toList fs 0 (Array.replicate ops.size false) st (by simp) (fun j f hj=>by simp[hj]) (by simp) (fun j hj=>by simp[hj]) h1.2 h2
 simpa using this
end
end Go.Eng
