/- Lemmas for the claims of this seat, without a condition: part 11 (EngX, EngY, EngZ). -/
import Derived.Test.YtddfphmpfnmknaaGreatDoorFA10
namespace Go.Eng
section
variable {cx:Cx}{dst:Option Nat}{ty:Nat}{pos:String}{after:Array Edge}{gd:Option (Nat×Bool)}{st:St}{R:List Nat}{w:Option Nat}{K:HK}
theorem Za{t:Nat}{p:Operand}(hk:FN cx true ⟨dst,.load t p,ty,pos,after,gd⟩ st K)(hf:Fb cx ⟨dst,.load t p,ty,pos,after,gd⟩ st=some (R,w)):Ea cx ⟨dst,.load t p,ty,pos,after,gd⟩ st R w K:=by
 simp only[FN]at hk;have hn:∀st2,IK ⟨dst,.load t p,ty,pos,after,gd⟩ R st st2→ev st2.t p=ev st.t p:=fun st2 ha=>ha.t p (by simp[Op.operands]);simp only[Fb]at hf;unfold H9 at hk;split at hf
 ·rename_i cs hp;cases hf;rw[hp]at hk;simp only at hk;exact .pick (Ib _ _ _) hk fun st2 ha K' h=>by simp only[FN,H9,hn st2 ha,hp];exact h
 ·rename_i r off hp;cases hf;rw[hp]at hk;simp only at hk;split at hk
  ·rename_i cs hr;exact .pick (Ib _ _ _) hk fun st2 ha K' h=>by simp only[FN,H9,hn st2 ha,hp,ha.h r (Aa ..),hr];exact h
  ·rename_i cs hr;exact .pick (Ib _ _ _) hk fun st2 ha K' h=>by simp only[FN,H9,hn st2 ha,hp,ha.h r (Aa ..),hr];exact h
  ·exact hk.elim
 ·rename_i r n sz i off hp;cases hf;rw[hp]at hk;simp only at hk;split at hk
  ·rename_i Gq es hr;split at hk
   ·rename_i hs;exact .pick (Di (MJ fun _=>Di (Ib _ _ _))) hk fun st2 ha K' h=>by simp only[FN,H9,hn st2 ha,hp,ha.h r (Aa ..),hr,hs];exact h
   ·exact hk.elim
  ·rename_i Gq es i' c av hr;split at hk
   ·rename_i hs;exact .pick (Di (Ib _ _ _)) hk fun st2 ha K' h=>by simp only[FN,H9,hn st2 ha,hp,ha.h r (Aa ..),hr,hs];exact h
   ·exact hk.elim
  ·exact hk.elim
 ·cases hf
theorem Wd{x:Operand}(hk:FN cx true ⟨dst,.assign x,ty,pos,after,gd⟩ st K)(hf:Fb cx ⟨dst,.assign x,ty,pos,after,gd⟩ st=some (R,w)):Ea cx ⟨dst,.assign x,ty,pos,after,gd⟩ st R w K:=by
 simp only[FN]at hk;have hn:∀st2,IK ⟨dst,.assign x,ty,pos,after,gd⟩ R st st2→ev st2.t x=ev st.t x:=fun st2 ha=>ha.t x (by simp[Op.operands]);simp only[Fb]at hf;split at hf
 ·cases hf
 ·rename_i hx;cases hf;have same:∃y,∀(h:Nat→HO) (K:HK),Oa cx dst h (ev st.t x) K↔K y h:=by
   unfold Oa;cases dst with
   |none=>exact⟨_,fun _ _=>Qq⟩
   |some d =>
    simp only;cases GB cx.pl.tok d with
    |some sz =>
     simp only;cases Nat.beq sz 0 with
     |true=>exact⟨_,fun _ _=>Qq⟩
     |false =>
      refine⟨ev st.t x,fun h K=>?_⟩;simp only;split
      ·rename_i e;exact absurd e (hx _ _ _)
      ·exact Qq
    |none =>
     simp only;cases GB cx.pl.arr d with
     |some sz =>
      refine⟨ev st.t x,fun h K=>?_⟩;simp only;split
      ·rename_i e;exact absurd e (hx _ _ _)
      ·exact Qq
     |none=>exact⟨_,fun _ _=>Qq⟩
  obtain⟨y,same⟩:=same;exact .pick (CQ y) ((same _ _).1 hk) fun st2 ha K' h=>by simp only[FN];rw[hn st2 ha];exact(same _ _).2 h
theorem QG{t:Nat}{x:Operand}{lo hi mx:Option Operand}(hp:Nk cx.pl.tok dst=none)(hk:FN cx true ⟨dst,.slice t x lo hi mx,ty,pos,after,gd⟩ st K)(hf:Fb cx ⟨dst,.slice t x lo hi mx,ty,pos,after,gd⟩ st=some (R,w)) :
  Ea cx ⟨dst,.slice t x lo hi mx,ty,pos,after,gd⟩ st R w K:=by
 simp only[FN,hp]at hk;have hn:∀st2,IK ⟨dst,.slice t x lo hi mx,ty,pos,after,gd⟩ R st st2→ev st2.t x=ev st.t x∧B2 st2.t lo=B2 st.t lo∧B2 st2.t hi=B2 st.t hi∧B2 st2.t mx=B2 st.t mx:=by
  intro st2 ha;have wb:∀y:Option Operand,(∀z,y=some z→ev st2.t z=ev st.t z)→B2 st2.t y=B2 st.t y:=by
   intro y hy;cases y with
   |none=>rfl
   |some z=>simp only[B2];rw[hy z rfl]
  exact⟨ha.t x (by simp[Op.operands]),wb lo (fun z e=>ha.t z (by simp[Op.operands,e])),wb hi (fun z e=>ha.t z (by simp[Op.operands,e])),wb mx (fun z e=>ha.t z (by simp[Op.operands,e]))⟩
 simp only[Fb,hp]at hf;split at hf
 ·cases hf
 ·rename_i hx;cases hf;have e3:B2 st.t none=some none:=rfl
  have Iu:F2 (fun K1=>Gp cx dst st.h t (ev st.t x) (B2 st.t lo) (B2 st.t hi) (some none) fun v _=>K1 v) ∧
    ∀(h:Nat→HO) (K:HK),Gp cx dst h t (ev st.t x) (B2 st.t lo) (B2 st.t hi) (some none) K↔Gp cx dst st.h t (ev st.t x) (B2 st.t lo) (B2 st.t hi) (some none) (fun v _=>K v h):=by
   generalize ev st.t x=X at hx;unfold Gp;constructor
   ·repeat' split
    all_goals first | exact Cp | exact Di (CQ _) | exact Di (Di (CQ _)) | skip
    all_goals first | (rename_i e;cases e;done) | skip
    all_goals (exfalso;exact hx _ _ rfl)
   ·intro h K
    repeat' split
    all_goals first | exact Qq | skip
    all_goals exfalso
    all_goals first | exact hx _ _ rfl | (rename some none=some (some _)=>e4;cases e4)
  rw[e3]at hk;exact .pick Iu.1 ((Iu.2 _ _).1 hk) fun st2 ha K' h=>by
   obtain⟨n1,n2,n3,n4⟩:=hn st2 ha;simp only[FN,hp];rw[n1,n2,n3,n4,e3];exact(Iu.2 _ _).2 h
 ·rename_i y tk es hx;obtain⟨d,rfl,e0⟩:=Is hf;cases e0;rw[hx]at hk;unfold Gp at hk;split at hk
  ·rename_i HD LH mg e1 e2 e3;split at hk
   ·split at hk<;>first | exact hk.elim | (rename_i e;cases e)
   ·rename_i e he;split at hk
    ·exact hk.elim
    ·rename_i k Ew;simp only at hk;split at hk
     ·exfalso
      rename_i e4;simp only[B2]at e3;split at e3<;>cases e3
     ·rename_i m;split at hk
      ·rename some d=some _=>e5
       cases e5
       split at hk
       ·rename_i nv;refine⟨_,none,hk.2.2,fun r o' e=>(by cases e),fun st2 GT K' h'=>?_⟩;obtain⟨n1,n2,n3,n4⟩:=hn st2 GT;simp only[FN,hp];rw[n1,n2,n3,n4,hx,e1,e2,e3];unfold Gp;simp only[he];split
        ·rename_i e0;rw[Ew]at e0;cases e0
        ·simp only[nv];exact⟨hk.1,hk.2.1,h'⟩
       rename_i nv;split at hk
       ·rename_i hd;refine⟨_,some (d,_),hk.2.2,fun r o' e=>(by cases e;exact⟨rfl,Aa ..⟩),fun st2 GT K' h'=>?_⟩;obtain⟨n1,n2,n3,n4⟩:=hn st2 GT;simp only[FN,hp];rw[n1,n2,n3,n4,hx,e1,e2,e3];unfold Gp;simp only[he];split
        ·rename_i e0;rw[Ew]at e0;cases e0
        ·simp only[nv];rw[GT.h d (Aa ..),hd];exact⟨hk.1,hk.2.1,h'⟩
       ·exact hk.elim
      ·exact hk.elim
   ·exact hk.elim
  ·exact hk.elim
 ·cases hf
theorem ca{t:Nat}{x:Operand}{lo hi mx:Option Operand}{p:Nat}(hp:Nk cx.pl.tok dst=some p)(hk:FN cx true ⟨dst,.slice t x lo hi mx,ty,pos,after,gd⟩ st K)(hf:Fb cx ⟨dst,.slice t x lo hi mx,ty,pos,after,gd⟩ st=some (R,w)) :
  Rs cx ⟨dst,.slice t x lo hi mx,ty,pos,after,gd⟩ st R w K:=by
 simp only[FN,hp]at hk;simp only[Fb,hp]at hf;obtain⟨d',r,n,hd,hx,e0⟩:=Y8 hf;cases e0;cases dst with
 |none=>cases hd
 |some d =>
 cases hd
 unfold Nb at hk;split at hk
 ·rw[hx]at hk;unfold ic at hk;split at hk
  ·rename_i d0 LH e1 e2;cases e1;split at hk
   ·rename_i e he;split at hk
    ·exact hk.elim
    ·rename_i k Ew;simp only at hk;split at hk
     ·rename_i sz es hr;split at hk
      ·rename_i hd;split at hk
       ·rename_i q1 q3;obtain⟨h1,hk⟩:=hk;have hr8:r<10000000∧0<Kp cx d:=by simpa using q3
        obtain⟨ym,hz⟩:=hr8;refine⟨_,[(r,.dead),(Kp cx d,_)],hk,fun r' o' e=>?_,fun st2 ha K' h'=>?_⟩
        ·rcases Au.1 e with e | e
         ·cases e
          refine⟨.inr (.inl ⟨by omega,.inl ?_⟩),Aa ..⟩;rw[Nat.add_mul_mod_self_left,Nat.mod_eq_of_lt ym]
         ·obtain e:=Am.1 e;cases e;refine⟨.inr (.inl ⟨by omega,.inr ?_⟩),Ag _ (Aa ..)⟩;rw[Nat.add_mul_div_left _ _ (by decide),Nat.div_eq_of_lt ym,Bg]
        ·have o1:B2 st2.t hi=B2 st.t hi:=by
          cases hi with
          |none=>rfl
          |some z=>simp only[B2];rw[ha.t z (by simp[Op.operands])]
         simp only[FN,hp];unfold Nb;rw[ha.t x (by simp[Op.operands]),o1,hx,e2];unfold ic;simp only[he];split
         ·rename_i e0;rw[Ew]at e0;cases e0
         ·simp only[ha.h r (Aa ..),hr,ha.h (Kp cx d) (Ag _ (Aa ..)),hd,q1,q3];exact⟨h1,h'⟩
       ·exact hk.elim
      ·exact hk.elim
     ·exact hk.elim
   ·exact hk.elim
  ·exact hk.elim
 ·exact hk.elim
theorem Wc{s x:Operand}{GJ:Array TypeId}(hk:FN cx true ⟨dst,.call ⟨.builtin .append,#[s,x],GJ⟩,ty,pos,after,gd⟩ st K)(hf:Fb cx ⟨dst,.call ⟨.builtin .append,#[s,x],GJ⟩,ty,pos,after,gd⟩ st=some (R,w)) :
  Ea cx ⟨dst,.call ⟨.builtin .append,#[s,x],GJ⟩,ty,pos,after,gd⟩ st R w K:=by
 have hk:FW cx dst st.h .append GJ.toList [ev st.t s,ev st.t x] K:=hk;have hf:Wb cx dst (ev st.t s) (ev st.t x)=some (R,w):=hf;have hn:∀st2,IK ⟨dst,.call ⟨.builtin .append,#[s,x],GJ⟩,ty,pos,after,gd⟩ R st st2→ev st2.t s=ev st.t s∧ev st2.t x=ev st.t x:=fun st2 ha =>
  ⟨ha.t s (by simp[Op.operands,Call.operands]),ha.t x (by simp[Op.operands,Call.operands])⟩
 have J3:∀st2,IK ⟨dst,.call ⟨.builtin .append,#[s,x],GJ⟩,ty,pos,after,gd⟩ R st st2→∀K' : HK,FW cx dst st2.h .append GJ.toList [ev st.t s,ev st.t x] K'→FN cx true ⟨dst,.call ⟨.builtin .append,#[s,x],GJ⟩,ty,pos,after,gd⟩ st2 K':=by
  intro st2 ha K' h;rw[←(hn st2 ha).1,←(hn st2 ha).2]at h;exact h
 generalize GJ.toList=l at hk J3
 match l,hk,J3 with
 | [t,t'],hk,J3 =>
  simp only[FW]at hk J3;split at hk
  ·rename_i ht;simp only[ht]at J3;unfold Ie at hk J3;split at hk
   ·rename_i e he;simp only[he]at J3;split at hk
    ·exact hk.elim
    ·rename_i hz;simp only[hz]at J3;split at hk
     ·exact hk.elim
     ·rename_i k Ew;obtain⟨es2,q1,q2⟩:=Y2 hk;have pk:∀d,R=d::cH (ev st.t x)→∀st2,IK ⟨dst,.call ⟨.builtin .append,#[s,x],GJ⟩,ty,pos,after,gd⟩ R st st2→∀r n,ev st.t x=.msl r n→st2.h r=st.h r:=fun d hR st2 ha r n e=>ha.h r (by rw[hR,e];simp[cH]);unfold Wb at hf;split at hf
      ·rename_i hs;obtain⟨d,cg,e0⟩:=Is hf;cases e0;rw[hs]at q1 J3;simp only at q1 J3;obtain⟨d',hd,v,y,q3,q4⟩:=Ih q1.2;rw[cg]at hd;cases hd;refine⟨v,some (d,y),q3,fun r o' e=>(by cases e;exact⟨rfl,Aa ..⟩),fun st2 GT K' h'=>J3 st2 GT K' ?_⟩;split
       ·rename_i e0;rw[Ew]at e0;cases e0
       ·exact q2 st2.h (pk d rfl st2 GT) _ ⟨q1.1,q4 st2.h (GT.h d (Aa ..)) K' h'⟩
      ·rename_i Gq es hs;obtain⟨d,cg,e0⟩:=Is hf;cases e0;rw[hs]at q1 J3;simp only at q1 J3;split at q1
       ·rename_i h1;obtain⟨d',hd,v,y,q3,q4⟩:=Ih q1.2;rw[cg]at hd;cases hd;refine⟨v,some (d,y),q3,fun r o' e=>(by cases e;exact⟨rfl,Aa ..⟩),fun st2 GT K' h'=>J3 st2 GT K' ?_⟩;split
        ·rename_i e0;rw[Ew]at e0;cases e0
        ·refine q2 st2.h (pk d rfl st2 GT) _ ?_;simp only[h1];exact⟨q1.1,q4 st2.h (GT.h d (Aa ..)) K' h'⟩
       ·exact q1.elim
      ·rename_i r Gq es hs;cases hf;rw[hs]at q1 J3;simp only at q1 J3;split at q1
       ·rename_i sz n hr;split at q1
        ·rename_i h1 h2;refine⟨_,some (r,_),q1.2,fun r o' e=>(by cases e;exact⟨rfl,Aa ..⟩),fun st2 GT K' h'=>J3 st2 GT K' ?_⟩;split
         ·rename_i e0;rw[Ew]at e0;cases e0
         ·refine q2 st2.h (pk r rfl st2 GT) _ ?_;simp only[GT.h r (Aa ..),hr,h1,h2];exact⟨q1.1,h'⟩
        ·exact q1.elim
       ·exact q1.elim
      ·rename_i r n hs;cases hf;rw[hs]at q1 J3;simp only at q1 J3;split at q1
       ·rename_i sz es hr;split at q1
        ·rename_i h1;refine⟨_,some (r,_),q1.2,fun r o' e=>(by cases e;exact⟨rfl,Aa ..⟩),fun st2 GT K' h'=>J3 st2 GT K' ?_⟩;split
         ·rename_i e0;rw[Ew]at e0;cases e0
         ·refine q2 st2.h (pk r rfl st2 GT) _ ?_;simp only[GT.h r (Aa ..),hr,h1];exact⟨q1.1,h'⟩
        ·exact q1.elim
       ·exact q1.elim
      ·cases hf
   ·exact hk.elim
  ·exact hk.elim
 | [],hk,_=>exact hk.elim
 | [_],hk,_=>exact hk.elim
 |_::_::_::_,hk,_=>exact hk.elim
theorem Vj(T:Gs)(t:Nat):F2 (Kc T t):=by
 unfold Kc
 repeat' split
 all_goals first | exact Cp | exact CQ _
theorem Tx(T:Gs)(ty:Nat)(ok:Bool)(BX:List (Value×AV))(kx:Value):F2 (LU T ty ok BX kx):=by
 unfold LU
 repeat' split
 ·refine aR (MJ fun a=>Di (CQ _)) (Di ?_);intro K hk;obtain⟨v,h1,h2⟩:=Vj T _ _ hk;exact⟨_,h1,fun K' h=>h2 _ h⟩
 ·exact aR (MJ fun a=>Di (CQ _)) (Di (Vj T _))
 ·exact Cp
theorem Yo(T:Gs)(ty:Nat)(sh:EE)(k:AV){F:Value→(AV→Prop)→Prop}(h:∀x,F2 (F x)):F2 fun K=>J6 T ty sh k fun kx=>F kx K:=by
 unfold J6
 repeat' split
 all_goals first | exact Cp | exact h _
theorem We{t:Nat}{m k:Operand}{ok:Bool}(hk:FN cx true ⟨dst,.lookup t m k ok,ty,pos,after,gd⟩ st K)(hf:Fb cx ⟨dst,.lookup t m k ok,ty,pos,after,gd⟩ st=some (R,w)) :
  Ea cx ⟨dst,.lookup t m k ok,ty,pos,after,gd⟩ st R w K:=by
 simp only[FN]at hk;have hn:∀st2,IK ⟨dst,.lookup t m k ok,ty,pos,after,gd⟩ R st st2→ev st2.t m=ev st.t m∧ev st2.t k=ev st.t k:=fun st2 ha=>⟨ha.t m (by simp[Op.operands]),ha.t k (by simp[Op.operands])⟩;simp only[Fb]at hf;unfold MB at hk;split at hf
 ·rename_i sh BX hm;cases hf;rw[hm]at hk;simp only at hk;exact .pick (Yo _ _ _ _ fun _=>Tx _ _ _ _ _) hk fun st2 ha K' h=>by simp only[FN,MB,hn st2 ha,hm];exact h
 ·rename_i r hm;cases hf;rw[hm]at hk;simp only at hk;split at hk
  all_goals first | exact hk.elim | (rename_i e;exact .pick (Yo _ _ _ _ fun _=>Tx _ _ _ _ _) hk fun st2 ha K' h=>by simp only[FN,MB,hn st2 ha,hm,ha.h r (Aa ..),e];exact h)
 ·cases hf
theorem hJ(T:Gs)(t:Nat)(h:Nat→HO)(x:AV):F2 (QN T t h x):=by
 unfold QN
 repeat' split
 all_goals first | exact Cp | exact CQ _
theorem oa{T:Gs}{t:Nat}{h h2:Nat→HO}{x:AV}(e:∀r,x=.mref r→h2 r=h r){K:AV→Prop}:QN T t h2 x K=QN T t h x K:=by
 cases x<;>first | rfl | skip
 rename_i r;unfold QN;simp only[e r rfl]
theorem bZ{x:Operand}{GJ:Array TypeId}(hk:FN cx true ⟨dst,.call ⟨.builtin .len,#[x],GJ⟩,ty,pos,after,gd⟩ st K)(hf:Fb cx ⟨dst,.call ⟨.builtin .len,#[x],GJ⟩,ty,pos,after,gd⟩ st=some (R,w)) :
  Ea cx ⟨dst,.call ⟨.builtin .len,#[x],GJ⟩,ty,pos,after,gd⟩ st R w K:=by
 have hk:FW cx dst st.h .len GJ.toList [ev st.t x] K:=hk;have hf:GO cx dst (.builtin .len) st.t [ev st.t x]=some (R,w):=hf;have hn:∀st2,IK ⟨dst,.call ⟨.builtin .len,#[x],GJ⟩,ty,pos,after,gd⟩ R st st2→ev st2.t x=ev st.t x:=fun st2 ha=>ha.t x (by simp[Op.operands,Call.operands]);have J3:∀st2,IK ⟨dst,.call ⟨.builtin .len,#[x],GJ⟩,ty,pos,after,gd⟩ R st st2→∀K' : HK,FW cx dst st2.h .len GJ.toList [ev st.t x] K'→FN cx true ⟨dst,.call ⟨.builtin .len,#[x],GJ⟩,ty,pos,after,gd⟩ st2 K':=by
  intro st2 ha K' h;rw[←hn st2 ha]at h;exact h
 generalize GJ.toList=l at hk J3
 match l,hk,J3 with
 | [t],hk,J3 =>
  have hR:∀r,ev st.t x=.mref r→r∈R:=fun r e=>by
   rw[e]at hf;cases hf;exact Aa ..
  have hw:w=none:=by
   unfold GO at hf;split at hf<;>first | (cases hf;rfl) | (rename_i e;cases e) | (rename_i e _;cases e) | skip
   all_goals (cases hf)
  subst hw;exact .pick (hJ _ _ _ _) hk fun st2 ha K' h=>J3 st2 ha K' (by
   simp only[FW];rw[oa fun r e=>ha.h r (hR r e)];exact h)
 | [],hk,_=>exact hk.elim
 |_::_::_,hk,_=>exact hk.elim
end
theorem kE{l:List Nat}{n:Nat}(h:IH l n=true):n∈l:=by
 induction l with
 |nil=>cases h
 |cons a l ih =>
  unfold IH at h
  by_cases e:a=n
  ·exact e▸Aa ..
  ·rw[Cz e]at h;exact Ag _ (ih h)
theorem Xj(G:Nat→HO):∀(σ:IV) (h:Nat→HO),Ei σ=true→(fun i=>match Cf σ i with | some j=>G j | none=>h i)=H5 h (σ.map fun p=>(p.1,G p.2))
 | [],h,_=>rfl
 |(i,j)::r,h,hσ=>by
  unfold Ei at hσ;simp only[Af]at hσ;have ih:=Xj G r (AT h i (G j)) hσ.2;show _=H5 (AT h i (G j)) (r.map fun p=>(p.1,G p.2));rw[←ih]
  funext i'
  have hn:Cf r i=none:=by
   have:=hσ.1.1.1
   cases e:Cf r i with
   |none=>rfl
   |some k=>rw[e]at this;simp at this
  by_cases e:i'=i
  ·subst e;have e1:Cf ((i',j)::r) i'=some j:=by unfold Cf;rw[CN];rfl
   rw[e1,hn];show G j=AT h i' (G j) i';unfold AT;rw[CN];rfl
  ·have e1:Cf ((i,j)::r) i'=Cf r i':=by
    show(bif Nat.beq i i' then some j else Cf r i')=_;rw[Cz (T5 e)];rfl
   rw[e1];cases Cf r i' with
   |some k=>rfl
   |none=>show h i'=AT h i (G j) i';unfold AT;rw[Cz e];rfl
theorem UF{σ:IV}{d:Nat}(hσ:Ei σ=true){h h' : Nat→HO}:D4 σ d 0 h h'=H5 h (σ.map fun p=>(p.1,(h' p.2).ren (E3 σ d 0) h')):=by
 rw[←Xj (fun j=>(h' j).ren (E3 σ d 0) h') σ h hσ]
 funext i
 unfold D4;cases Cf σ i with
 |some j=>rfl
 |none =>
  have:(Nat.ble (Bo d 0) i&&Nat.blt i (Bo d 0))=false:=by
   rw[AM];simp only[Vc,Af,CV,B9];omega
  simp only[this]
section
variable {cx:Cx}{op:Op}{dst:Option Nat}{ty:Nat}{pos:String}{after:Array Edge}{gd:Option (Nat×Bool)}{st:St}{R:List Nat}{w:Option Nat}{K:HK}
theorem Ea.toL(h:Ea cx ⟨dst,op,ty,pos,after,gd⟩ st R w K):Rs cx ⟨dst,op,ty,pos,after,gd⟩ st R w K:=by
 obtain⟨v,e,h1,h2,h3⟩:=h;cases e with
 |none=>exact⟨v,[],h1,fun r o' e=>(by cases e),h3⟩
 |some p=>exact⟨v,[p],h1,fun r o' e=>by
   obtain rfl:=Am.1 e;obtain⟨a,b⟩:=h2 r o' rfl;exact⟨by rw[a];exact .inl rfl,b⟩,h3⟩
theorem Y9{c:Call}(hk:FN cx true ⟨dst,.call c,ty,pos,after,gd⟩ st K)(hf:Fb cx ⟨dst,.call c,ty,pos,after,gd⟩ st=some (R,w)):Rs cx ⟨dst,.call c,ty,pos,after,gd⟩ st R w K:=by
 obtain⟨m8,args,GJ⟩:=c;have Ji:∀st2,IK ⟨dst,.call ⟨m8,args,GJ⟩,ty,pos,after,gd⟩ R st st2→args.toList.map (ev st2.t)=args.toList.map (ev st.t):=fun st2 ha =>
  A5 fun x hx=>ha.t x (by simp only[Op.operands,Call.operands,RH];exact .inr (by simpa using hx))
 cases m8 with
 |invoke r m=>exact hk.elim
 |value f =>
  have hk:Gi cx true dst st (ev st.t f) (args.toList.map (ev st.t)) K:=hk;have hf:GO cx dst (.value f) st.t (args.toList.map (ev st.t))=some (R,w):=hf;unfold GO at hf;unfold Gi at hk;simp only at hf hk;have hn:=Ji;split at hf
  ·rename_i au;rw[au]at hk;cases hf;obtain⟨res,h1,h2⟩:=hk;refine Ea.toL ⟨res,none,h2,fun r o' e=>(by cases e),fun st2 ha K' h'=>?_⟩;show Gi cx true dst st2 (ev st2.t f) (args.toList.map (ev st2.t)) K';rw[Ji st2 ha,ha.t f (by simp[Op.operands,Call.operands])];unfold Gi;simp only[au];refine⟨res,?_,h'⟩;rw[KI (h:=st.h) (fun r hr=>ha.h r (Bm _ hr)),Qh (h:=st.h) (fun r hr=>ha.h r (Bd _ hr))];exact h1
  ·rename_i au;rw[au]at hk;simp only at hk;cases dst with
   |none=>exact hk.elim
   |some d =>
    obtain⟨n,sz,es,h1,h2,h3⟩:=hk;have hf:some (Bo d 0::(WR (ev st.t f)++SO (args.toList.map (ev st.t))),some (Bo d 0))=some (R,w):=hf;cases hf;refine Ea.toL ⟨_,some (Bo d 0,_),h3,fun r o' e=>(by cases e;exact⟨rfl,Aa ..⟩),fun st2 ha K' h'=>?_⟩;show Gi cx true (some d) st2 (ev st2.t f) (args.toList.map (ev st2.t)) K';rw[Ji st2 ha,ha.t f (by simp[Op.operands,Call.operands])];unfold Gi;simp only[au];refine⟨n,sz,es,?_,?_,h'⟩
    ·have:Dx st2.h d 1=Dx st.h d 1:=by simp only[Dx,ha.h (Bo d 0) (Aa ..)]
     rw[this];exact h1
    ·rw[KI (h:=st.h) (fun r hr=>ha.h r (Ag _ (Bm _ hr))),Qh (h:=st.h) (fun r hr=>ha.h r (Ag _ (Bd _ hr)))];exact h2
  ·rename_i au;rw[au]at hk;have hk:Q0 cx 0 dst st.h (ev st.t f) (args.toList.map (ev st.t)) K:=hk;split at hf
   ·rename_i r n l hl;cases hf;have Iu:=hk;unfold Q0 at Iu;rw[hl]at Iu;split at Iu
    ·rename_i d0 f0 r0 n0 l0 e1 e2 z1 z2;cases e2;split at Iu
     ·rename_i vs dP;split at Iu
      ·rename_i sz es hr;obtain⟨n',FB,h1,h2⟩:=Iu;refine Ea.toL ⟨_,some (r,_),h2,fun r o' e=>(by cases e;exact⟨rfl,Aa ..⟩),fun st2 ha K' h'=>?_⟩;show Gi cx true _ st2 (ev st2.t f) (args.toList.map (ev st2.t)) K';rw[Ji st2 ha,ha.t f (by simp[Op.operands,Call.operands]),hl,e1];unfold Gi;simp only[au];unfold Pc;simp only;unfold Q0;simp only[dP,ha.h r (Aa ..),hr];exact⟨n',FB,h1,h'⟩
      ·exact Iu.elim
     ·exact Iu.elim
    ·exact Iu.elim
   ·cases hf
  ·rename_i k au;rw[au]at hk;cases hb:Nat.beq k 1 with
   |true =>
    have SI:Nat.beq (k+1) 2=true:=hb;have hk:TV cx dst st (ev st.t f) (args.toList.map (ev st.t)) K:=by
     have Iu:(match Nat.beq (k+1) 2 with | true=>TV cx dst st (ev st.t f) (args.toList.map (ev st.t)) K | false=>match Nat.beq (k+1) 3 with | true=>Qn cx dst st (ev st.t f) (args.toList.map (ev st.t)) K | false=>Pc cx (k+1) dst st (ev st.t f) (args.toList.map (ev st.t)) K):=hk;rw[SI]at Iu;exact Iu
    rw[hb]at hf;cases dst with
    |none=>exact hk.elim
    |some d =>
     obtain⟨sz,es,h1,h2,h3⟩:=hk;have hf:some (Bo d 0::(WR (ev st.t f)++SO (args.toList.map (ev st.t))),some (Bo d 0))=some (R,w):=hf;cases hf;refine Ea.toL ⟨_,some (Bo d 0,_),h3,fun r o' e=>(by cases e;exact⟨rfl,Aa ..⟩),fun st2 ha K' h'=>?_⟩;show Gi cx true (some d) st2 (ev st2.t f) (args.toList.map (ev st2.t)) K';rw[Ji st2 ha,ha.t f (by simp[Op.operands,Call.operands])];unfold Gi;simp only[au,SI];refine⟨sz,es,?_,?_,h'⟩
     ·have:Dx st2.h d 1=Dx st.h d 1:=by simp only[Dx,ha.h (Bo d 0) (Aa ..)]
      rw[this];exact h1
     ·rw[KI (h:=st.h) (fun r hr=>ha.h r (Ag _ (Bm _ hr))),Qh (h:=st.h) (fun r hr=>ha.h r (Ag _ (Bd _ hr)))];exact h2
   |false =>
    have SI:Nat.beq (k+1) 2=false:=hb;rw[hb]at hf;have Iu:(match Nat.beq (k+1) 2 with | true=>TV cx dst st (ev st.t f) (args.toList.map (ev st.t)) K | false=>match Nat.beq (k+1) 3 with | true=>Qn cx dst st (ev st.t f) (args.toList.map (ev st.t)) K | false=>Pc cx (k+1) dst st (ev st.t f) (args.toList.map (ev st.t)) K):=hk;rw[SI]at Iu;cases hc:Nat.beq k 2 with
    |true =>
     have o7:Nat.beq (k+1) 3=true:=hc;rw[hc]at hf;simp only[o7]at Iu;have hf:fj (args.toList.map (ev st.t))=some (R,w):=hf;unfold fj at hf;unfold Qn at Iu;split at hf
     ·rename_i vs dP;cases hf;split at Iu
      ·rename_i l dR e1 e2 z1 z2;rw[dP]at e2;cases e2;split at Iu
       ·rename_i r sz es bl n e3 e4;obtain⟨⟨rfl,rfl⟩,v,FB,n',h1,h2⟩:=Iu;refine⟨_,[(1001,_),(1000,_)],h2,fun r' o' e=>?_,fun st2 ha K' h'=>?_⟩
        ·rcases Au.1 e with e | e
         ·cases e
          exact⟨.inr (.inl ⟨by decide,.inr (by decide)⟩),by simp⟩
         ·obtain e:=Am.1 e;cases e;exact⟨.inr (.inl ⟨by decide,.inl (by decide)⟩),by simp⟩
        show Gi cx true _ st2 (ev st2.t f) (args.toList.map (ev st2.t)) K';rw[Ji st2 ha,ha.t f (by simp[Op.operands,Call.operands]),e1];unfold Gi;simp only[au,SI,o7];unfold Qn;simp only[dP,ha.h 1000 (by simp),ha.h 1001 (by simp),e3,e4];exact⟨⟨trivial,trivial⟩,v,FB,n',h1,h'⟩
       ·exact Iu.elim
      ·exact Iu.elim
     ·cases hf
    |false =>
    have o7:Nat.beq (k+1) 3=false:=hc;rw[hc]at hf;have UY:Pc cx (k+1) dst st (ev st.t f) (args.toList.map (ev st.t)) K:=by
     simp only[o7]at Iu;exact Iu
    have ny:fg k dst (args.toList.map (ev st.t))=some (R,w):=hf;unfold fg at ny;unfold Pc at UY;cases he:Nat.beq k 3 with
    |true =>
     have dM:Nat.beq (k+1) 4=true:=he;rw[he]at ny;rw[dM]at UY;have ny:some (jM,some VJ)=some (R,w):=ny;have UY:XC cx dst st (ev st.t f) (args.toList.map (ev st.t)) K:=UY;cases ny;unfold XC at UY;split at UY
     ·rename_i d f' e2 _ _ _;obtain⟨σ,H0,Hn,args',res,g1,g2,g3,g4⟩:=UY;simp only[Af]at g2;refine⟨_,σ.map fun p=>(p.1,(Ai Hn Ab p.2).ren (E3 σ d 0) (Ai Hn Ab)),(UF (h:=st.h) (h':=Ai Hn Ab) (d:=d) g2.1.1)▸g4,fun r' o' e=>?_,fun st2 ha K' h'=>?_⟩
      ·obtain⟨p,hp,e⟩:=Ak.1 e;cases e;exact⟨.inr (.inr rfl),kE (Bp.1 g2.2 p hp)⟩
      ·show Gi cx true _ st2 (ev st2.t f) (args.toList.map (ev st2.t)) K';rw[Ji st2 ha,ha.t f (by simp[Op.operands,Call.operands])];unfold Gi;simp only[au,SI,o7];unfold Pc;simp only[dM];unfold XC;rw[e2];refine⟨σ,H0,Hn,args',res,fun h2 hh=>g1 h2 fun r hr=>(hh r hr).trans (ha.h r hr),by simp only[Af];exact g2,g3,?_⟩;rw[UF (h:=st2.h) (h':=Ai Hn Ab) (d:=d) g2.1.1];exact h'
     ·exact UY.elim
    |false =>
    have dM:Nat.beq (k+1) 4=false:=he;rw[he]at ny;rw[dM]at UY;have hf:ah dst (args.toList.map (ev st.t))=some (R,w):=ny;have hk:Q0 cx (k+1) dst st.h (ev st.t f) (args.toList.map (ev st.t)) K:=UY;obtain⟨d,r,n,l,rfl,hl,e0⟩:=Y7 hf;cases e0;unfold Q0 at hk;rw[hl]at hk;split at hk
    ·rename_i d0 f0 r0 n0 l0 e9 e1 e2;cases e9;cases e2;split at hk
     ·rename_i vs dP;split at hk
      ·rename_i sz es hr;obtain⟨n',FB,h0,h1,h2⟩:=hk;have ur:=h0;simp only[Af,B9]at ur;refine⟨_,[(r,.dead),(Bo d 0,_)],h2,fun r' o' e=>?_,fun st2 ha K' h'=>?_⟩
       ·rcases Au.1 e with e | e
        ·cases e
         refine⟨.inr (.inl ⟨by unfold Bo;omega,.inl ?_⟩),Aa ..⟩;rw[Nat.add_mul_mod_self_left,Nat.mod_eq_of_lt ur.1.2]
        ·obtain e:=Am.1 e;cases e;refine⟨.inr (.inl ⟨by unfold Bo;omega,.inr ?_⟩),Ag _ (Aa ..)⟩;rw[Nat.add_mul_div_left _ _ (by decide),Nat.div_eq_of_lt ur.1.2,Bg]
       show Gi cx true _ st2 (ev st2.t f) (args.toList.map (ev st2.t)) K';rw[Ji st2 ha,ha.t f (by simp[Op.operands,Call.operands]),hl,e1];unfold Gi;simp only[au,SI,o7];unfold Pc;simp only[dM];unfold Q0;simp only[dP,ha.h r (Aa ..),hr]
       have:Dx st2.h d 1=Dx st.h d 1:=by simp only[Dx,ha.h (Bo d 0) (Ag _ (Aa ..))]
       exact⟨n',FB,by rw[this];exact h0,h1,h'⟩
      ·exact hk.elim
     ·exact hk.elim
    ·exact hk.elim
 |builtin b =>
  refine Ea.toL ?_;have mm:∀f:Int→Int→Int,(∀(d:Option Nat) (h:Nat→HO) (GJ:List Nat) (args:List AV) (K:HK),FW cx d h b GJ args K=(match args with | [x,y]=>kG f x y fun v=>K v h | _=>False))→R=[]∧w=none→Ea cx ⟨dst,.call ⟨.builtin b,args,GJ⟩,ty,pos,after,gd⟩ st R w K:=by
   rintro f hb ⟨rfl,rfl⟩
   have hk:FW cx dst st.h b GJ.toList (args.toList.map (ev st.t)) K:=hk;rw[hb]at hk;split at hk
   ·rename_i x y e;refine .pick (kW f x y) hk fun st2 ha K' h=>?_;show FW cx dst st2.h b GJ.toList (args.toList.map (ev st2.t)) K';rw[hb,Ji st2 ha,e];exact h
   ·exact hk.elim
  cases b
  case max=>exact mm max (fun d h GJ args K=>by cases args with | nil=>rfl | cons x l=>cases l with | nil=>rfl | cons y l=>cases l<;>rfl) (by
   have hf:GO cx dst (.builtin .max) st.t (args.toList.map (ev st.t))=some (R,w):=hf;simp only[GO]at hf;cases hf;exact⟨rfl,rfl⟩)
  case min=>exact mm min (fun d h GJ args K=>by cases args with | nil=>rfl | cons x l=>cases l with | nil=>rfl | cons y l=>cases l<;>rfl) (by
   have hf:GO cx dst (.builtin .min) st.t (args.toList.map (ev st.t))=some (R,w):=hf;simp only[GO]at hf;cases hf;exact⟨rfl,rfl⟩)
  case append =>
   obtain⟨l⟩:=args
   match l,hk,hf with
   | [s,x],hk,hf=>exact Wc hk hf
   | [],hk,hf=>cases GJ;exact hk.elim
   | [_],hk,hf=>exact hk.elim
   |_::_::_::_,hk,hf=>exact hk.elim
  case len =>
   obtain⟨l⟩:=args
   match l,hk,hf with
   | [x],hk,hf=>exact bZ hk hf
   | [],hk,hf=>exact hk.elim
   |_::_::_,hk,hf=>exact hk.elim
  all_goals exact hk.elim
theorem YP{o:Oper}(hc:∀c,o.op≠.call c)(hs:(∃t x lo hi mx,o.op=.slice t x lo hi mx)→Nk cx.pl.tok o.dst=none)(hk:FN cx true o st K)(hf:Fb cx o st=some (R,w)):Ea cx o st R w K:=by
 obtain⟨dst,op,ty,pos,after,gd⟩:=o;cases op with
 |call c=>exact absurd rfl (hc c)
 |alloc e=>exact Xx hk hf
 |box e x=>exact bY hk hf
 |buildSlice t n ps=>exact PD hk hf
 |makeSlice t n c=>exact Re hk hf
 |makeMap t r=>exact Ud hk hf
 |store t p x=>exact Xy hk hf
 |mapUpdate t m k x=>exact Rf hk hf
 |makeFunc fn first cap=>exact SA hk hf
 |load t p=>exact Za hk hf
 |assign x=>exact Wd hk hf
 |slice t x lo hi mx=>exact QG (hs ⟨t,x,lo,hi,mx,rfl⟩) hk hf
 |lookup t x i ok=>exact We hk hf
 |move x =>
  cases hf
  exact .pick (CQ _) hk fun st2 ha K' h=>by simp only[FN,ha.t x (by simp[Op.operands])];exact h
 |pick c a b =>
  cases hf
  exact .pick (dg _ _ _) hk fun st2 ha K' h=>by simp only[FN,ha.t c (by simp[Op.operands]),ha.t a (by simp[Op.operands]),ha.t b (by simp[Op.operands])];exact h
 |nilCheck x =>
  cases hf
  exact .pick (ia _) hk fun st2 ha K' h=>by simp only[FN,ha.t x (by simp[Op.operands])];exact h
 |binOp op t x y u =>
  simp only[Fb]at hf;split at hf
  ·cases hf
  ·rename_i hx;cases hf;exact .pick (de _ _ _ _ _ _ hx) hk fun st2 ha K' h=>by simp only[FN,ha.t x (by simp[Op.operands]),ha.t y (by simp[Op.operands])];exact h
 |unOp op t x =>
  cases hf
  exact .pick (dh _ _) hk fun st2 ha K' h=>by simp only[FN,ha.t x (by simp[Op.operands])];exact h
 |convert s t x =>
  cases hf
  exact .pick (df _ _ _ _) hk fun st2 ha K' h=>by simp only[FN,ha.t x (by simp[Op.operands])];exact h
 |fieldAddr s x f =>
  cases hf
  exact .pick (ZE _ _ _ _) hk fun st2 ha K' h=>by simp only[FN,ha.t x (by simp[Op.operands])];exact h
 |field s x f =>
  cases hf
  exact .pick (Yn _ _ _ _) hk fun st2 ha K' h=>by simp only[FN,ha.t x (by simp[Op.operands])];exact h
 |indexAddr t x i =>
  cases hf
  exact .pick (Ty _ _ _ _) hk fun st2 ha K' h=>by simp only[FN,ha.t x (by simp[Op.operands]),ha.t i (by simp[Op.operands])];exact h
 |index t x i =>
  cases hf
  exact .pick (ZF _ _ _ _) hk fun st2 ha K' h=>by simp only[FN,ha.t x (by simp[Op.operands]),ha.t i (by simp[Op.operands])];exact h
 |extract x i =>
  cases hf
  exact .pick (Wx _ _) hk fun st2 ha K' h=>by simp only[FN,ha.t x (by simp[Op.operands])];exact h
 |build t ps =>
  cases hf
  refine .pick (ZD _ _ _ _) hk fun st2 ha K' h=>?_;have hx:∀p∈ps.toList,ev st2.t p.2=ev st.t p.2:=fun p hp=>ha.t p.2 (by
   simp only[Op.operands,List.mem_toArray];exact Ak.2 ⟨p,hp,rfl⟩)
  simp only[FN];have fill:∀(pl:Nat→Option (Nat×Nat)) (l:List (Nat×Operand)) (cs:List AV) (K:List AV→Prop),(∀p∈l,ev st2.t p.2=ev st.t p.2)→Kr pl cs st2.t l K=Kr pl cs st.t l K:=by
   intro pl l
   induction l with
   |nil=>intro cs K _;rfl
   |cons p l ih =>
    intro cs K hp;obtain⟨i,x⟩:=p;have h1:ev st2.t x=ev st.t x:=hp (i,x) (Aa ..);have h2:∀cs,Kr pl cs st2.t l K=Kr pl cs st.t l K:=fun cs=>ih cs K (fun p nN=>hp p (Ag _ nN));simp only[Kr,h1,h2]
  unfold Pv at h⊢;simp only[fill _ _ _ _ hx];exact h
 |_=>cases hf
theorem bA{o:Oper}(hk:FN cx true o st K)(hf:Fb cx o st=some (R,w)):Rs cx o st R w K:=by
 obtain⟨dst,op,ty,pos,after,gd⟩:=o
 by_cases h:∃c,op=.call c
 ·obtain⟨c,rfl⟩:=h;exact Y9 hk hf
 ·by_cases h2:∃t x lo hi mx,op=.slice t x lo hi mx
  ·obtain⟨t,x,lo,hi,mx,rfl⟩:=h2;cases hp:Nk cx.pl.tok dst with
   |none=>exact Ea.toL (QG hp hk hf)
   |some p=>exact ca hp hk hf
  ·exact Ea.toL (YP (fun c e=>h ⟨c,e⟩) (fun e=>absurd e h2) hk hf)
end
theorem UU{cx:Cx}{o:Oper}{st st2:St}(h:∀x∈o.op.operands,ev st2.t x=ev st.t x):Fb cx o st2=Fb cx o st:=by
 obtain⟨dst,op,ty,pos,after,gd⟩:=o;cases op with
 |call c =>
  obtain⟨m8,args,GJ⟩:=c;have ha:args.toList.map (ev st2.t)=args.toList.map (ev st.t):=A5 fun x hx=>h x (by simp only[Op.operands,Call.operands,RH];exact .inr (by simpa using hx));simp only[Fb];rw[ha];cases m8 with
  |value f =>
   have hf:ev st2.t f=ev st.t f:=h f (by simp[Op.operands,Call.operands]);simp only[GO,hf]
  |builtin b =>
   generalize args.toList.map (ev st.t)=l
   match l with
   | []=>cases b<;>rfl
   | [x]=>cases b<;>cases x<;>rfl
   | [x,y]=>cases b<;>cases x<;>rfl
   |x::_::_::_=>cases b<;>cases x<;>rfl
  |invoke r m=>rfl
 |box e x=>simp only[Fb,h x (by simp[Op.operands])]
 |buildSlice t n ps =>
  have hx:ps.toList.map (fun p=>ev st2.t p.2)=ps.toList.map (fun p=>ev st.t p.2):=A5 fun p hp=>h p.2 (by
   simp only[Op.operands,List.mem_toArray];exact Ak.2 ⟨p,hp,rfl⟩)
  simp only[Fb,hx]
 |store t p x=>simp only[Fb,h p (by simp[Op.operands]),h x (by simp[Op.operands])]
 |mapUpdate t m k x=>simp only[Fb,h m (by simp[Op.operands]),h x (by simp[Op.operands])]
 |makeFunc fn first cap =>
  have hx:cap.toList.map (ev st2.t)=cap.toList.map (ev st.t):=A5 fun x hx=>h x (by simp only[Op.operands,RH];exact .inr (by simpa using hx));simp only[Fb,hx]
 |load t p=>simp only[Fb,h p (by simp[Op.operands])]
 |assign x=>simp only[Fb,h x (by simp[Op.operands])]
 |binOp op t x y u=>simp only[Fb,h x (by simp[Op.operands])]
 |slice t x lo hi mx=>simp only[Fb,h x (by simp[Op.operands])]
 |lookup t x i ok=>simp only[Fb,h x (by simp[Op.operands])]
 |_=>rfl
def Ki(ops:Array Oper)(o:Oper)(st st2:St):Prop:=∀d∈o.looksAt ops,st2.t d=st.t d
theorem Ki.operands{ops:Array Oper}{o:Oper}{st st2:St}(h:Ki ops o st st2):∀x∈o.op.operands,ev st2.t x=ev st.t x:=fun x hx=>by
 cases x with
 |tmp t=>exact h t (Bm _ (List.mem_filterMap.2 ⟨.tmp t,by simpa using hx,rfl⟩))
 |_=>rfl
theorem Ve(ops:Array Oper)(j:Nat):J8 ops.toList j=(ops[j]?).bind (·.dst):=by
 have:∀(l:List Oper) (j:Nat),J8 l j=(l[j]?).bind (·.dst):=by
  intro l
  induction l with
  |nil=>intro j;simp[J8]
  |cons o l ih =>
   intro j;cases j with
   |zero=>simp[J8]
   |succ j=>simp[J8,ih]
 rw[this];simp
theorem Ki.guard{ops:Array Oper}{o:Oper}{st st2:St}(h:Ki ops o st st2){j:Nat}{b:Bool}(hg:o.guard=some (j,b)){d:Nat}(hd:J8 ops.toList j=some d):st2.t d=st.t d :=
 h d (Bd _ (by rw[hg];simp only;rw[←Ve,hd];simp))
def St.after(st:St)(o:Oper)(v:AV)(e:List (Nat×HO)):St:=st.put o.dst v (H5 st.h e)
def Pr(cx:Cx)(ops:Array Oper)(o:Oper)(st:St)(f:Fu)(v:AV)(e:List (Nat×HO)):Prop :=
 (∀r o',(r,o')∈e→RJ f.2 r∧r∈f.1)∧∀st2,Ki ops o st st2→(∀r∈f.1,st2.h r=st.h r)→∀K:St→Prop,K (st2.after o v e)→G9 cx true ops.toList o st2 K
theorem Sz{cx:Cx}{ops:Array Oper}{o:Oper}{st st2:St}(h:Ki ops o st st2):M4 cx ops.toList o st2=M4 cx ops.toList o st:=by
 unfold M4;split
 ·exact UU h.operands
 ·rename_i j want hg;split
  ·rfl
  ·rename_i d hd;simp only[h.guard hg hd];split<;>first | exact UU h.operands | rfl
theorem N9{cx:Cx}{ops:Array Oper}{o:Oper}{st:St}{f:Fu}{K:St→Prop}(hk:G9 cx true ops.toList o st K)(hf:M4 cx ops.toList o st=some f) :
  ∃v e,Pr cx ops o st f v e∧K (st.after o v e):=by
 obtain⟨R,w⟩:=f;have skip:R=[]∧w=none→K (st.put o.dst (.v undef) st.h)→(∀st2,Ki ops o st st2→∀K:St→Prop,K (st2.put o.dst (.v undef) st2.h)→G9 cx true ops.toList o st2 K)→∃v e,Pr cx ops o st (R,w) v e∧K (st.after o v e):=by
  rintro⟨rfl,rfl⟩ h1 h2
  exact⟨.v undef,[],⟨fun r o' e=>(by cases e),fun st2 hl _ K h=>h2 st2 hl K h⟩,h1⟩
 have run:Fb cx o st=some (R,w)→FN cx true o st (fun v h=>K (st.put o.dst v h))→(∀st2,Ki ops o st st2→∀K:St→Prop,FN cx true o st2 (fun v h=>K (st2.put o.dst v h))→G9 cx true ops.toList o st2 K)→∃v e,Pr cx ops o st (R,w) v e∧K (st.after o v e):=by
  intro hf hk h2;obtain⟨v,e,q1,q2,q3⟩:=bA hk hf;exact⟨v,e,⟨q2,fun st2 hl hh K h=>h2 st2 hl K (q3 st2 ⟨hl.operands,hh⟩ _ h)⟩,q1⟩
 unfold G9 at hk;unfold M4 at hf;cases hg:o.guard with
 |none =>
  rw[hg]at hk hf;exact run hf hk (fun st2 hl K h=>by unfold G9;rw[hg];exact h)
 |some p =>
  obtain⟨j,want⟩:=p;rw[hg]at hk hf;simp only at hk hf;cases hd:J8 ops.toList j with
  |none=>rw[hd]at hk;exact hk.elim
  |some d =>
   rw[hd]at hk hf;simp only at hk hf;have he:∀st2,Ki ops o st st2→st2.t d=st.t d:=fun st2 hl=>hl.guard hg hd;generalize hx:st.t d=x at hk hf he;split at hk
   ·exact run hf hk (fun st2 hl K h=>by unfold G9;simp only[hg,hd,he st2 hl];exact h)
   ·exact run hf hk (fun st2 hl K h=>by unfold G9;simp only[hg,hd,he st2 hl];exact h)
   ·exact skip (by cases hf;exact⟨rfl,rfl⟩) hk (fun st2 hl K h=>by unfold G9;simp only[hg,hd,he st2 hl];exact h)
   ·exact skip (by cases hf;exact⟨rfl,rfl⟩) hk (fun st2 hl K h=>by unfold G9;simp only[hg,hd,he st2 hl];exact h)
   ·exact skip (by cases hf;exact⟨rfl,rfl⟩) hk (fun st2 hl K h=>by unfold G9;simp only[hg,hd,he st2 hl];exact h)
   ·exact hk.elim
def px(cx:Cx)(ops:Array Oper)(FT:Nat→Fu)(i:Nat)(K:St→Prop)(st:St):Prop :=
 match ops[i]? with
 |none=>K st
 |some o=>M4 cx ops.toList o st=some (FT i)∧G9 cx true ops.toList o st K
def WW(cx:Cx)(ops:Array Oper)(FT:Nat→Fu)(K:St→Prop):Nat→Array Bool→St→Prop
 |0,listed,st=>Region.ready .any ops listed=[]∧K st
 |fuel+1,listed,st =>
  (Region.ready .any ops listed=[]→K st)∧∀i∈Region.ready .any ops listed,px cx ops FT i (WW cx ops FT K fuel (listed.setIfInBounds i true)) st
theorem dD(t:Nat→AV){d d' : Nat}(h:d'≠d)(v v' : AV):G4 (G4 t d v) d' v'=G4 (G4 t d' v') d v:=by
 funext i
 unfold G4
 by_cases h1:i=d<;>by_cases h2:i=d'
 ·exact absurd (h2.symm.trans h1) h
 ·subst h1;simp[Cz h2]
 ·subst h2;simp[Cz h1]
 ·simp[Cz h1,Cz h2]
theorem cj(t:Nat→HO){d d' : Nat}(h:d'≠d)(v v' : HO):AT (AT t d v) d' v'=AT (AT t d' v') d v:=by
 funext i
 unfold AT
 by_cases h1:i=d<;>by_cases h2:i=d'
 ·exact absurd (h2.symm.trans h1) h
 ·subst h1;simp[Cz h2]
 ·subst h2;simp[Cz h1]
 ·simp[Cz h1,Cz h2]
theorem OP{l:List Nat}{n:Nat}(h:n∈l):IH l n=true:=by
 induction l with
 |nil=>cases h
 |cons a l ih =>
  unfold IH
  by_cases e:a=n
  ·subst e;simp
  ·rw[Cz e];exact ih ((Au.1 h).resolve_left (fun q=>e q.symm))
theorem X4{l:List Nat}{n:Nat}(h:IH l n=true):n∈l:=by
 induction l with
 |nil=>cases h
 |cons a l ih =>
  unfold IH at h
  by_cases e:a=n
  ·exact e▸Aa ..
  ·rw[Cz e]at h;exact Ag _ (ih h)
theorem Yf{l:List Nat}{x:Nat}(h:Yd l x=true):∀r,RJ (some x) r→r∉l:=by
 intro r hc hr;unfold Yd at h
 by_cases hx:x=VJ
 ·subst hx;rw[CN,JJ]at h;cases l with
  |nil=>cases hr
  |cons a l=>cases h
 rw[Cz hx,Ej]at h;simp only[Af,Cm,CI,B9]at h;rcases hc with rfl | ⟨h1,h2⟩ | hc
 ·rw[OP hr]at h;cases h.1
 ·rcases h.2 with h3 | h3
  ·omega
  ·rcases h2 with rfl | rfl
   ·rw[OP hr]at h3;cases h3.1
   ·rw[OP hr]at h3;cases h3.2
 ·exact hx hc
theorem bR{a b:Fu}(h:Sj a b=true):(∀r,RJ a.2 r→r∉b.1)∧∀r,RJ b.2 r→r∉a.1:=by
 obtain⟨a1,a2⟩:=a;obtain⟨b1,b2⟩:=b;simp only[Sj,Af]at h;refine⟨fun r e=>?_,fun r e=>?_⟩
 ·cases a2 with
  |none=>exact e.elim
  |some x=>exact Yf h.1 r e
 ·cases b2 with
  |none=>exact e.elim
  |some x=>exact Yf h.2 r e
section
variable {cx:Cx}{ops:Array Oper}{FT:Nat→Fu}
theorem QP{oi oj:Oper}(h:∀d,oi.dst=some d→d∉oj.looksAt ops)(st:St)(v:AV)(e:List (Nat×HO)):Ki ops oj st (st.after oi v e):=by
 intro d hd;cases hdst:oi.dst with
 |none=>simp[St.after,St.put,hdst]
 |some d' =>
  have:d≠d':=fun q=>h d' hdst (q▸hd)
  simp[St.after,St.put,hdst,G4,Cz this]
theorem Ki.symm{o:Oper}{st st2:St}(h:Ki ops o st st2):Ki ops o st2 st:=fun d hd=>(h d hd).symm
theorem ap{o:Oper}{st:St}{v:AV}{e:List (Nat×HO)}:(st.after o v e).h=H5 st.h e:=by
 unfold St.after St.put;cases o.dst<;>rfl
theorem Pz{r:Nat}:∀{e:List (Nat×HO)} {h:Nat→HO},(∀o',(r,o')∉e)→H5 h e r=h r
 | [],_,_=>rfl
 |p::e,h,hr=>by
  have:r≠p.1:=fun q=>hr p.2 (by rw[q];exact Aa ..)
  show H5 (AT h p.1 p.2) e r=h r;rw[Pz fun o' ho=>hr o' (Ag _ ho),BV _ _ _ _ this]
theorem Xk{r:Nat}{o:HO}:∀{e:List (Nat×HO)} {h:Nat→HO},(∀r' o',(r',o')∈e→r'≠r)→H5 (AT h r o) e=AT (H5 h e) r o
 | [],_,_=>rfl
 |p::e,h,hr=>by
  show H5 (AT (AT h r o) p.1 p.2) e=AT (H5 (AT h p.1 p.2) e) r o;rw[cj h (hr p.1 p.2 (Aa ..)),Xk fun r' o' ho=>hr r' o' (Ag _ ho)]
theorem UR:∀{e e' : List (Nat×HO)} {h:Nat→HO},(∀r o r' o',(r,o)∈e→(r',o')∈e'→r'≠r)→H5 (H5 h e) e'=H5 (H5 h e') e
 | [],_,_,_=>rfl
 |p::e,e',h,hd=>by
  show H5 (H5 (AT h p.1 p.2) e) e'=H5 (AT (H5 h e') p.1 p.2) e;rw[←Xk fun r' o' ho=>hd p.1 p.2 r' o' (Aa ..) ho,UR fun r o r' o' h1 h2=>hd r o r' o' (Ag _ h1) h2]
theorem YO{oi oj:Oper}{st:St}{v v' : AV}{e e' : List (Nat×HO)}(h1:∀d,oi.dst=some d→oj.dst≠some d)(h2:∀r o r' o',(r,o)∈e→(r',o')∈e'→r'≠r) :
  (st.after oi v e).after oj v' e'=(st.after oj v' e').after oi v e:=by
 have hh:H5 (H5 st.h e) e'=H5 (H5 st.h e') e:=UR h2;have key:∀o:Oper,∀v e,∀st:St,st.after o v e=⟨match o.dst with | none=>st.t | some d=>G4 st.t d v,H5 st.h e⟩:=fun o v e st=>by
  unfold St.after St.put;cases o.dst<;>rfl
 rw[key,key,key,key];simp only[hh];cases hi:oi.dst with
 |none=>rfl
 |some d =>
  cases hj:oj.dst with
  |none=>rfl
  |some d' =>
   have Dt:d'≠d:=fun q=>h1 d hi (by rw[hj,q]);simp only[dD st.t Dt v v']
theorem YM{K:St→Prop}{i:Nat}{oi:Oper}{v:AV}{e:List (Nat×HO)}(hi:ops[i]?=some oi)(D:Nat→Prop)
  (hD:∀j,D j→∃oj,ops[j]?=some oj∧∃ed∈oj.after,Region.binds .any ed=true∧(ed.on=i∨D ed.on)) :
  ∀(fuel:Nat) (listed:Array Bool) (st:St),
   (∀j oj,ops[j]?=some oj→j≠i→listed.getD j true=false→¬D j→oi.apart ops oj=true∧Sj (FT i) (FT j)=true) →
   i∈Region.ready .any ops listed→(∀j,D j→listed.getD j true=false)→M4 cx ops.toList oi st=some (FT i)→Pr cx ops oi st (FT i) v e →
   WW cx ops FT K fuel (listed.setIfInBounds i true) (st.after oi v e)→WW cx ops FT K (fuel+1) listed st:=by
 have here:∀(fuel:Nat) (listed:Array Bool) (st:St),M4 cx ops.toList oi st=some (FT i)→Pr cx ops oi st (FT i) v e →
   WW cx ops FT K fuel (listed.setIfInBounds i true) (st.after oi v e)→px cx ops FT i (WW cx ops FT K fuel (listed.setIfInBounds i true)) st:=by
  intro fuel listed st hf hy H;unfold px;rw[hi];exact⟨hf,hy.2 st (fun _ _=>rfl) (fun _ _=>rfl) _ H⟩
 intro fuel
 induction fuel with
 |zero =>
  intro listed st _ hr _ hf hy H;refine⟨fun h=>(by rw[h]at hr;cases hr),fun j hj=>?_⟩
  by_cases LZ:j=i
  ·subst LZ;exact here 0 listed st hf hy H
  ·have:=ready_mono hj LZ
   rw[H.1]at this;cases this
 |succ fuel ih =>
  intro listed st Ab hr xJ hf hy H;refine⟨fun h=>(by rw[h]at hr;cases hr),fun j hj=>?_⟩
  by_cases LZ:j=i
  ·subst LZ;exact here (fuel+1) listed st hf hy H
  ·have h1:=H.2 j (ready_mono hj LZ);obtain⟨qJ,oj,kh,GP⟩:=mem_ready.1 hj;have p9:∀k,listed.getD k true=false→listed.getD k false=true→False:=fun k h0 h1=>by
    rcases ED k listed.size with h' | h'
    ·simp[h']at h0 h1;rw[h0]at h1;cases h1
    ·simp[Array.getElem?_eq_none h']at h1
   have sV:¬D j:=fun sL=>by
    obtain⟨oj',lV,ed,he,hb,hon⟩:=hD j sL;rw[kh]at lV;cases lV;have hl:=GP ed he hb;rcases hon with h2 | h2
    ·exact p9 _ (by rw[h2];exact(mem_ready.1 hr).1) hl
    ·exact p9 _ (xJ _ h2) hl
   obtain⟨qr,sL⟩:=Ab j oj kh LZ qJ sV;obtain⟨a1,a2,a3⟩:=Oper.apart_spec qr;obtain⟨d1,d2⟩:=bR sL;unfold px at h1⊢;rw[kh]at h1⊢;obtain⟨xZ,hkj⟩:=h1;have yc:=QP (ops:=ops) a1 st v e;obtain⟨vj,ej,yx,hK⟩:=N9 hkj xZ;have uZ:∀r o',(r,o')∈e→r∉(FT j).1:=fun r o' q=>d1 r (hy.1 r o' q).1;have dM:∀r o',(r,o')∈ej→r∉(FT i).1:=fun r o' q=>d2 r (yx.1 r o' q).1;refine⟨by rw[←Sz yc];exact xZ,yx.2 st yc.symm (fun r nO=>?_) _ ?_⟩
   ·rw[ap,Pz (fun o' q=>uZ r o' q nO)]
   ·have yb:=QP (ops:=ops) a3 st vj ej;refine ih (listed.setIfInBounds j true) (st.after oj vj ej) (fun k ok hk ya km Ri=>?_) (ready_mono hr (T5 LZ)) (fun k hk=>?_) (by rw[Sz yb];exact hf) ⟨hy.1,fun st2 hl hh K' h'=>?_⟩ ?_
    ·by_cases kd:j=k
     ·subst kd;exact Ab _ ok hk ya qJ Ri
     ·rw[getD_set_ne true kd]at km;exact Ab k ok hk ya km Ri
    ·by_cases kd:j=k
     ·subst kd;exact absurd hk sV
     ·rw[getD_set_ne true kd];exact xJ k hk
    ·refine hy.2 st2 (fun d hd=>(hl d hd).trans (yb d hd)) (fun r nO=>?_) K' h';rw[hh r nO,ap,Pz (fun o' q=>dM r o' q nO)]
    ·rw[Array.setIfInBounds_comm _ _ (T5 LZ)]at hK;rw[←YO a2 (fun r o r' o' q q' e2=>dM r' o' q' (by rw[e2];exact(hy.1 r o q).2))];exact hK
def mB(cx:Cx)(ops:Array Oper)(K:St→Prop):List Oper→List Fu→St→Prop
 | [],[],st=>K st
 |o::r,f::fs,st=>M4 cx ops.toList o st=some f∧∃v e,Pr cx ops o st f v e∧mB cx ops K r fs (st.after o v e)
 |_,_,_=>False
theorem RQ{K:St→Prop}:∀(l:List Oper) (acc:List Fu) (st:St),W2 cx ops l acc st K→∃fs,Sm ops (acc.reverse++fs)=true∧mB cx ops K l fs st
 | [],acc,st,h=>⟨[],by simpa using h.1,h.2⟩
 |o::r,acc,st,h=>by
  unfold W2 at h;split at h
  ·rename_i f hf;obtain⟨v,e,h1,h2⟩:=N9 h hf;obtain⟨fs,q1,q2⟩:=RQ r _ _ h2;exact⟨f::fs,by simpa using q1,hf,v,e,h1,q2⟩
  ·exact h.elim
theorem Wg{o:Oper}{i:Nat}{D:List Nat}(h:OG o i D=true):∃ed∈o.after,Region.binds .any ed=true∧(ed.on=i∨ed.on∈D):=by
 unfold OG at h;obtain⟨ed,h1,h2⟩:=Bb.1 h;simp only[Af,Cm]at h2;exact⟨ed,by simpa using h1,h2.1,h2.2.imp AH X4⟩
theorem TR{i:Nat}{D:List Nat}:∀(l:List Oper) (k:Nat),TQ i D k l=true→∀j o,l[j]?=some o→k+j∈D→OG o i D=true
 | [],_,_,_,_,h,_=>by simp at h
 |o::l,k,hs,j,o',h,hm=>by
  simp only[TQ,Af]at hs;cases j with
  |zero =>
   simp only[A7,Bi]at h;subst h;have h1:=hs.1;rw[OP (by simpa using hm)]at h1;simpa using h1
  |succ j=>exact TR l (k+1) hs.2 j o' (by simpa using h) (by rw[Gr,Nat.add_comm 1 j];exact hm)
theorem UB{oi:Oper}{fi:Fu}{D:List Nat}:∀(l:List Oper) (fs:List Fu) (k:Nat),Io ops oi fi D k l fs=true→l.length=fs.length∧∀j o f,l[j]?=some o→fs[j]?=some f→k+j∉D→oi.apart ops o=true∧Sj fi f=true
 | [],[],_,_=>⟨rfl,fun _ _ _ h=>by simp at h⟩
 | [],_::_,_,h=>by simp[Io]at h
 |_::_,[],_,h=>by simp[Io]at h
 |o::l,f::fs,k,h=>by
  simp only[Io,Af,Cm]at h;obtain⟨h1,h2⟩:=UB l fs (k+1) h.2;refine⟨by simp[h1],fun j o' f' q1 q2 hn=>?_⟩;cases j with
  |zero =>
   simp only[A7,Bi]at q1 q2;subst q1;subst q2;rcases h.1 with h3 | h3
   ·exact absurd (X4 h3) hn
   ·exact h3
  |succ j=>exact h2 j o' f' (by simpa using q1) (by simpa using q2) (by simpa[Nat.add_assoc,Nat.add_comm 1 j]using hn)
theorem WX{K:St→Prop}:∀(l:List Oper) (fs:List Fu) (k:Nat) (listed:Array Bool) (st:St),(∀j,l[j]?=ops[k+j]?)→(∀j f,fs[j]?=some f→FT (k+j)=f)→listed.size=ops.size →
  (∀j,j<ops.size→listed.getD j true=decide (j<k))→LN ops ops.toList k l fs=true→mB cx ops K l fs st→WW cx ops FT K l.length listed st
 | [],[],k,listed,st,hl,_,hs,hL,_,h=>by
  refine⟨?_,h⟩;apply Lv.2;intro j hj;obtain⟨h1,o,ho,_⟩:=mem_ready.1 hj;have DA:=(Bl.1 ho).1;rw[hL j DA]at h1;have pe:k≤j:=by simpa using h1
  have:=hl (j-k)
  rw[show k+(j-k)=j by omega,ho]at this;simp at this
 | [],_::_,_,_,_,_,_,_,_,h,_=>by simp[LN]at h
 |_::_,[],_,_,_,_,_,_,_,h,_=>by simp[LN]at h
 |o::l,f::fs,k,listed,st,hl,hF,hs,hL,hg,h=>by
  simp only[LN,Af]at hg;obtain⟨⟨⟨⟨g1,g2⟩,g3⟩,g4⟩,g5⟩:=hg;obtain⟨hf,v,e,hy,hp⟩:=h;have h0:ops[k]?=some o:=by simpa using(hl 0).symm
  have hk:=(Bl.1 h0).1;have uy:FT k=f:=by simpa using hF 0 f rfl
  have PG : ∀j,l[j]?=ops[k+1+j]?:=fun j=>by have:=hl (j+1);simpa[Nat.add_assoc,Nat.add_comm 1 j]using this
  have o0 : ∀j f,fs[j]?=some f→FT (k+1+j)=f:=fun j f' hj=>by have:=hF (j+1) f' (by simpa using hj);simpa[Nat.add_assoc,Nat.add_comm 1 j]using this
  obtain⟨Cq,qr⟩:=UB l fs (k+1) g4;have am:∀j,j∈Py k [] 0 ops.toList→k<j∧j<ops.size:=fun j hj=>by
   have:=(Bp.1 g3) j hj
   simp only[Af,B9,BY]at this;exact this
  refine YM h0 (fun j=>j∈Py k [] 0 ops.toList) (fun j hj=>?_) l.length listed st (fun j oj kh kd km sV=>?_) ?_ (fun j hj=>?_) (by rw[uy];exact hf) (by rw[uy];exact hy) ?_
  ·have DA:=(am j hj).2
   have:=TR ops.toList 0 g2 j ops[j] (by simp[DA]) (by simpa using hj)
   obtain⟨ed,e1,e2,e3⟩:=Wg this;exact⟨ops[j],by simp[DA],ed,e1,e2,e3⟩
  ·have DA:=(Bl.1 kh).1;rw[hL j DA]at km;have pe:k<j:=by have q:k≤j:=(by simpa using km);omega
   have e1:l[j-(k+1)]?=some oj:=by rw[PG,show k+1+(j-(k+1))=j by omega];exact kh
   have hfl:j-(k+1)<fs.length:=by rw[←Cq];exact(Ap.1 e1).1
   have e2:fs[j-(k+1)]?=some fs[j-(k+1)]:=At hfl;have e3:=o0 _ _ e2;rw[show k+1+(j-(k+1))=j by omega]at e3;rw[uy,e3];exact qr _ _ _ e1 e2 (by rw[show k+1+(j-(k+1))=j by omega];exact sV)
  ·refine mem_ready.2 ⟨by rw[hL k hk];simp,o,h0,fun ed he hb=>?_⟩
   have:=(Bp.1 g1) ed (by simpa using he)
   simp only[hb,Bool.not_true,LG,B9]at this;have h1:=hL ed.on (by omega);have DA:ed.on<listed.size:=by omega
   simp[DA]at h1⊢;rw[h1];simpa using this
  ·have:=am j hj
   rw[hL j this.2];simp;omega
  ·refine WX l fs (k+1) _ _ PG o0 (by simp[hs]) (fun j hj=>?_) g5 hp
   by_cases kd:j=k
   ·subst kd
    have:j<listed.size:=by omega
    simp[this]
   ·rw[getD_set_ne true (T5 kd),hL j hj]
    by_cases h1:j<k
    ·simp[h1];omega
    ·simp[h1];omega
theorem bw{K:St→Prop}{st:St}(h:W2 cx ops ops.toList [] st K):Region.noSelect ops=true∧∃FT,WW cx ops FT K ops.size (Array.replicate ops.size false) st:=by
 obtain⟨fs,h1,h2⟩:=RQ _ _ _ h;simp only[Sm,List.reverse_nil,Fx,Af]at h1;refine⟨h1.1,fun j=>fs.getD j default,?_⟩
 have:=WX (FT:=fun j=>fs.getD j default) ops.toList fs 0 (Array.replicate ops.size false) st (by simp) (fun j f hj=>by simp[hj]) (by simp) (fun j hj=>by simp[hj]) h1.2 h2
 simpa using this
end
end Go.Eng
