/- Lemmas for the claims of this seat, without a condition: part 11 (EngX, EngY, EngZ). -/
import Derived.Test.YtddfphmpfnmknaaGreatDoorBA10
namespace Go.Eng
section
variable {cx:Cx}{dst:Option Nat}{ty:Nat}{pos:String}{after:Array Edge}{gd:Option (Nat×Bool)}{st:St}{R:List Nat}{w:Option Nat}{K:HK}
theorem Yp{t:Nat}{p:Operand}(hk:FD cx true ⟨dst,.load t p,ty,pos,after,gd⟩ st K)(hf:E4 cx ⟨dst,.load t p,ty,pos,after,gd⟩ st=some (R,w)):D6 cx ⟨dst,.load t p,ty,pos,after,gd⟩ st R w K:=by
 simp only[FD]at hk;have hn:∀st2,Iy ⟨dst,.load t p,ty,pos,after,gd⟩ R st st2→ev st2.t p=ev st.t p:=fun st2 ha=>ha.t p (by simp[Op.operands]);simp only[E4]at hf;unfold HW at hk;split at hf
 ·rename_i cs hp;cases hf;rw[hp]at hk;simp only at hk;exact .pick (HZ _ _ _) hk fun st2 ha K' h=>by simp only[FD,HW,hn st2 ha,hp];exact h
 ·rename_i r off hp;cases hf;rw[hp]at hk;simp only at hk;split at hk
  ·rename_i cs hr;exact .pick (HZ _ _ _) hk fun st2 ha K' h=>by simp only[FD,HW,hn st2 ha,hp,ha.h r (Ab ..),hr];exact h
  ·rename_i cs hr;exact .pick (HZ _ _ _) hk fun st2 ha K' h=>by simp only[FD,HW,hn st2 ha,hp,ha.h r (Ab ..),hr];exact h
  ·exact hk.elim
 ·rename_i r n sz i off hp;cases hf;rw[hp]at hk;simp only at hk;split at hk
  ·rename_i Gc es hr;split at hk
   ·rename_i hs;exact .pick (Dg (Mr fun _=>Dg (HZ _ _ _))) hk fun st2 ha K' h=>by simp only[FD,HW,hn st2 ha,hp,ha.h r (Ab ..),hr,hs];exact h
   ·exact hk.elim
  ·rename_i Gc es i' c av hr;split at hk
   ·rename_i hs;exact .pick (Dg (HZ _ _ _)) hk fun st2 ha K' h=>by simp only[FD,HW,hn st2 ha,hp,ha.h r (Ab ..),hr,hs];exact h
   ·exact hk.elim
  ·exact hk.elim
 ·cases hf
theorem Vx{x:Operand}(hk:FD cx true ⟨dst,.assign x,ty,pos,after,gd⟩ st K)(hf:E4 cx ⟨dst,.assign x,ty,pos,after,gd⟩ st=some (R,w)):D6 cx ⟨dst,.assign x,ty,pos,after,gd⟩ st R w K:=by
 simp only[FD]at hk;have hn:∀st2,Iy ⟨dst,.assign x,ty,pos,after,gd⟩ R st st2→ev st2.t x=ev st.t x:=fun st2 ha=>ha.t x (by simp[Op.operands]);simp only[E4]at hf;split at hf
 ·cases hf
 ·rename_i hx;cases hf;have same:∃y,∀(h:Nat→HO) (K:HK),NP cx dst h (ev st.t x) K↔K y h:=by
   unfold NP;cases dst with
   |none=>exact⟨_,fun _ _=>PO⟩
   |some d =>
    simp only;cases Gq cx.pl.tok d with
    |some sz =>
     simp only;cases Nat.beq sz 0 with
     |true=>exact⟨_,fun _ _=>PO⟩
     |false =>
      refine⟨ev st.t x,fun h K=>?_⟩;simp only;split
      ·rename_i e;exact absurd e (hx _ _ _)
      ·exact PO
    |none =>
     simp only;cases Gq cx.pl.arr d with
     |some sz =>
      refine⟨ev st.t x,fun h K=>?_⟩;simp only;split
      ·rename_i e;exact absurd e (hx _ _ _)
      ·exact PO
     |none=>exact⟨_,fun _ _=>PO⟩
  obtain⟨y,same⟩:=same;exact .pick (CM y) ((same _ _).1 hk) fun st2 ha K' h=>by simp only[FD];rw[hn st2 ha];exact(same _ _).2 h
theorem Qb{t:Nat}{x:Operand}{lo hi mx:Option Operand}(hp:MZ cx.pl.tok dst=none)(hk:FD cx true ⟨dst,.slice t x lo hi mx,ty,pos,after,gd⟩ st K)(hf:E4 cx ⟨dst,.slice t x lo hi mx,ty,pos,after,gd⟩ st=some (R,w)) :
  D6 cx ⟨dst,.slice t x lo hi mx,ty,pos,after,gd⟩ st R w K:=by
 simp only[FD,hp]at hk;have hn:∀st2,Iy ⟨dst,.slice t x lo hi mx,ty,pos,after,gd⟩ R st st2→ev st2.t x=ev st.t x∧BY st2.t lo=BY st.t lo∧BY st2.t hi=BY st.t hi∧BY st2.t mx=BY st.t mx:=by
  intro st2 ha;have uU:∀y:Option Operand,(∀z,y=some z→ev st2.t z=ev st.t z)→BY st2.t y=BY st.t y:=by
   intro y hy;cases y with
   |none=>rfl
   |some z=>simp only[BY];rw[hy z rfl]
  exact⟨ha.t x (by simp[Op.operands]),uU lo (fun z e=>ha.t z (by simp[Op.operands,e])),uU hi (fun z e=>ha.t z (by simp[Op.operands,e])),uU mx (fun z e=>ha.t z (by simp[Op.operands,e]))⟩
 simp only[E4,hp]at hf;split at hf
 ·cases hf
 ·rename_i hx;cases hf;have e3:BY st.t none=some none:=rfl
  have Ik:FU (fun K1=>Gb cx dst st.h t (ev st.t x) (BY st.t lo) (BY st.t hi) (some none) fun v _=>K1 v) ∧
    ∀(h:Nat→HO) (K:HK),Gb cx dst h t (ev st.t x) (BY st.t lo) (BY st.t hi) (some none) K↔Gb cx dst st.h t (ev st.t x) (BY st.t lo) (BY st.t hi) (some none) (fun v _=>K v h):=by
   generalize ev st.t x=X at hx;unfold Gb;constructor
   ·repeat' split
    all_goals first | exact Cr | exact Dg (CM _) | exact Dg (Dg (CM _)) | skip
    all_goals first | (rename_i e;cases e;done) | skip
    all_goals (exfalso;exact hx _ _ rfl)
   ·intro h K
    repeat' split
    all_goals first | exact PO | skip
    all_goals exfalso
    all_goals first | exact hx _ _ rfl | (rename some none=some (some _)=>e4;cases e4)
  rw[e3]at hk;exact .pick Ik.1 ((Ik.2 _ _).1 hk) fun st2 ha K' h=>by
   obtain⟨n1,n2,n3,n4⟩:=hn st2 ha;simp only[FD,hp];rw[n1,n2,n3,n4,e3];exact(Ik.2 _ _).2 h
 ·rename_i y tk es hx;obtain⟨d,rfl,e0⟩:=Ih hf;cases e0;rw[hx]at hk;unfold Gb at hk;split at hk
  ·rename_i Hs Lp lc e1 e2 e3;split at hk
   ·split at hk<;>first | exact hk.elim | (rename_i e;cases e)
   ·rename_i e he;split at hk
    ·exact hk.elim
    ·rename_i k Et;simp only at hk;split at hk
     ·exfalso
      rename_i e4;simp only[BY]at e3;split at e3<;>cases e3
     ·rename_i m;split at hk
      ·rename some d=some _=>e5
       cases e5
       split at hk
       ·rename_i mj;refine⟨_,none,hk.2.2,fun r o' e=>(by cases e),fun st2 GJ K' h'=>?_⟩;obtain⟨n1,n2,n3,n4⟩:=hn st2 GJ;simp only[FD,hp];rw[n1,n2,n3,n4,hx,e1,e2,e3];unfold Gb;simp only[he];split
        ·rename_i e0;rw[Et]at e0;cases e0
        ·simp only[mj];exact⟨hk.1,hk.2.1,h'⟩
       rename_i mj;split at hk
       ·rename_i hd;refine⟨_,some (d,_),hk.2.2,fun r o' e=>(by cases e;exact⟨rfl,Ab ..⟩),fun st2 GJ K' h'=>?_⟩;obtain⟨n1,n2,n3,n4⟩:=hn st2 GJ;simp only[FD,hp];rw[n1,n2,n3,n4,hx,e1,e2,e3];unfold Gb;simp only[he];split
        ·rename_i e0;rw[Et]at e0;cases e0
        ·simp only[mj];rw[GJ.h d (Ab ..),hd];exact⟨hk.1,hk.2.1,h'⟩
       ·exact hk.elim
      ·exact hk.elim
   ·exact hk.elim
  ·exact hk.elim
 ·cases hf
theorem aT{t:Nat}{x:Operand}{lo hi mx:Option Operand}{p:Nat}(hp:MZ cx.pl.tok dst=some p)(hk:FD cx true ⟨dst,.slice t x lo hi mx,ty,pos,after,gd⟩ st K)(hf:E4 cx ⟨dst,.slice t x lo hi mx,ty,pos,after,gd⟩ st=some (R,w)) :
  QO cx ⟨dst,.slice t x lo hi mx,ty,pos,after,gd⟩ st R w K:=by
 simp only[FD,hp]at hk;simp only[E4,hp]at hf;obtain⟨d',r,n,hd,hx,e0⟩:=Yn hf;cases e0;cases dst with
 |none=>cases hd
 |some d =>
 cases hd
 unfold MT at hk;split at hk
 ·rw[hx]at hk;unfold gm at hk;split at hk
  ·rename_i d0 Lp e1 e2;cases e1;split at hk
   ·rename_i e he;split at hk
    ·exact hk.elim
    ·rename_i k Et;simp only at hk;split at hk
     ·rename_i sz es hr;split at hk
      ·rename_i hd;split at hk
       ·rename_i q1 q3;obtain⟨h1,hk⟩:=hk;have zv:r<10000000∧0<Kf cx d:=by simpa using q3
        obtain⟨xm,hz⟩:=zv;refine⟨_,[(r,.dead),(Kf cx d,_)],hk,fun r' o' e=>?_,fun st2 ha K' h'=>?_⟩
        ·rcases Au.1 e with e | e
         ·cases e
          refine⟨.inr (.inl ⟨by omega,.inl ?_⟩),Ab ..⟩;rw[Nat.add_mul_mod_self_left,Nat.mod_eq_of_lt xm]
         ·obtain e:=Ak.1 e;cases e;refine⟨.inr (.inl ⟨by omega,.inr ?_⟩),Ag _ (Ab ..)⟩;rw[Nat.add_mul_div_left _ _ (by decide),Nat.div_eq_of_lt xm,Bg]
        ·have o1:BY st2.t hi=BY st.t hi:=by
          cases hi with
          |none=>rfl
          |some z=>simp only[BY];rw[ha.t z (by simp[Op.operands])]
         simp only[FD,hp];unfold MT;rw[ha.t x (by simp[Op.operands]),o1,hx,e2];unfold gm;simp only[he];split
         ·rename_i e0;rw[Et]at e0;cases e0
         ·simp only[ha.h r (Ab ..),hr,ha.h (Kf cx d) (Ag _ (Ab ..)),hd,q1,q3];exact⟨h1,h'⟩
       ·exact hk.elim
      ·exact hk.elim
     ·exact hk.elim
   ·exact hk.elim
  ·exact hk.elim
 ·exact hk.elim
theorem Vw{s x:Operand}{Gy:Array TypeId}(hk:FD cx true ⟨dst,.call ⟨.builtin .append,#[s,x],Gy⟩,ty,pos,after,gd⟩ st K)(hf:E4 cx ⟨dst,.call ⟨.builtin .append,#[s,x],Gy⟩,ty,pos,after,gd⟩ st=some (R,w)) :
  D6 cx ⟨dst,.call ⟨.builtin .append,#[s,x],Gy⟩,ty,pos,after,gd⟩ st R w K:=by
 have hk:FM cx dst st.h .append Gy.toList [ev st.t s,ev st.t x] K:=hk;have hf:Vv cx dst (ev st.t s) (ev st.t x)=some (R,w):=hf;have hn:∀st2,Iy ⟨dst,.call ⟨.builtin .append,#[s,x],Gy⟩,ty,pos,after,gd⟩ R st st2→ev st2.t s=ev st.t s∧ev st2.t x=ev st.t x:=fun st2 ha =>
  ⟨ha.t s (by simp[Op.operands,Call.operands]),ha.t x (by simp[Op.operands,Call.operands])⟩
 have JO:∀st2,Iy ⟨dst,.call ⟨.builtin .append,#[s,x],Gy⟩,ty,pos,after,gd⟩ R st st2→∀K' : HK,FM cx dst st2.h .append Gy.toList [ev st.t s,ev st.t x] K'→FD cx true ⟨dst,.call ⟨.builtin .append,#[s,x],Gy⟩,ty,pos,after,gd⟩ st2 K':=by
  intro st2 ha K' h;rw[←(hn st2 ha).1,←(hn st2 ha).2]at h;exact h
 generalize Gy.toList=l at hk JO
 match l,hk,JO with
 | [t,t'],hk,JO =>
  simp only[FM]at hk JO;split at hk
  ·rename_i ht;simp only[ht]at JO;unfold H3 at hk JO;split at hk
   ·rename_i e he;simp only[he]at JO;split at hk
    ·exact hk.elim
    ·rename_i hz;simp only[hz]at JO;split at hk
     ·exact hk.elim
     ·rename_i k Et;obtain⟨es2,q1,q2⟩:=Yg hk;have od:∀d,R=d::bB (ev st.t x)→∀st2,Iy ⟨dst,.call ⟨.builtin .append,#[s,x],Gy⟩,ty,pos,after,gd⟩ R st st2→∀r n,ev st.t x=.msl r n→st2.h r=st.h r:=fun d hR st2 ha r n e=>ha.h r (by rw[hR,e];simp[bB]);unfold Vv at hf;split at hf
      ·rename_i hs;obtain⟨d,aZ,e0⟩:=Ih hf;cases e0;rw[hs]at q1 JO;simp only at q1 JO;obtain⟨d',hd,v,y,q3,q4⟩:=H6 q1.2;rw[aZ]at hd;cases hd;refine⟨v,some (d,y),q3,fun r o' e=>(by cases e;exact⟨rfl,Ab ..⟩),fun st2 GJ K' h'=>JO st2 GJ K' ?_⟩;split
       ·rename_i e0;rw[Et]at e0;cases e0
       ·exact q2 st2.h (od d rfl st2 GJ) _ ⟨q1.1,q4 st2.h (GJ.h d (Ab ..)) K' h'⟩
      ·rename_i Gc es hs;obtain⟨d,aZ,e0⟩:=Ih hf;cases e0;rw[hs]at q1 JO;simp only at q1 JO;split at q1
       ·rename_i h1;obtain⟨d',hd,v,y,q3,q4⟩:=H6 q1.2;rw[aZ]at hd;cases hd;refine⟨v,some (d,y),q3,fun r o' e=>(by cases e;exact⟨rfl,Ab ..⟩),fun st2 GJ K' h'=>JO st2 GJ K' ?_⟩;split
        ·rename_i e0;rw[Et]at e0;cases e0
        ·refine q2 st2.h (od d rfl st2 GJ) _ ?_;simp only[h1];exact⟨q1.1,q4 st2.h (GJ.h d (Ab ..)) K' h'⟩
       ·exact q1.elim
      ·rename_i r Gc es hs;cases hf;rw[hs]at q1 JO;simp only at q1 JO;split at q1
       ·rename_i sz n hr;split at q1
        ·rename_i h1 h2;refine⟨_,some (r,_),q1.2,fun r o' e=>(by cases e;exact⟨rfl,Ab ..⟩),fun st2 GJ K' h'=>JO st2 GJ K' ?_⟩;split
         ·rename_i e0;rw[Et]at e0;cases e0
         ·refine q2 st2.h (od r rfl st2 GJ) _ ?_;simp only[GJ.h r (Ab ..),hr,h1,h2];exact⟨q1.1,h'⟩
        ·exact q1.elim
       ·exact q1.elim
      ·rename_i r n hs;cases hf;rw[hs]at q1 JO;simp only at q1 JO;split at q1
       ·rename_i sz es hr;split at q1
        ·rename_i h1;refine⟨_,some (r,_),q1.2,fun r o' e=>(by cases e;exact⟨rfl,Ab ..⟩),fun st2 GJ K' h'=>JO st2 GJ K' ?_⟩;split
         ·rename_i e0;rw[Et]at e0;cases e0
         ·refine q2 st2.h (od r rfl st2 GJ) _ ?_;simp only[GJ.h r (Ab ..),hr,h1];exact⟨q1.1,h'⟩
        ·exact q1.elim
       ·exact q1.elim
      ·cases hf
   ·exact hk.elim
  ·exact hk.elim
 | [],hk,_=>exact hk.elim
 | [_],hk,_=>exact hk.elim
 |_::_::_::_,hk,_=>exact hk.elim
theorem UN(T:Gf)(t:Nat):FU (JY T t):=by
 unfold JY
 repeat' split
 all_goals first | exact Cr | exact CM _
theorem SQ(T:Gf)(ty:Nat)(ok:Bool)(BU:List (Value×AV))(kx:Value):FU (LA T ty ok BU kx):=by
 unfold LA
 repeat' split
 ·refine ZM (Mr fun a=>Dg (CM _)) (Dg ?_);intro K hk;obtain⟨v,h1,h2⟩:=UN T _ _ hk;exact⟨_,h1,fun K' h=>h2 _ h⟩
 ·exact ZM (Mr fun a=>Dg (CM _)) (Dg (UN T _))
 ·exact Cr
theorem XI(T:Gf)(ty:Nat)(sh:EA)(k:AV){F:Value→(AV→Prop)→Prop}(h:∀x,FU (F x)):FU fun K=>JS T ty sh k fun kx=>F kx K:=by
 unfold JS
 repeat' split
 all_goals first | exact Cr | exact h _
theorem Vy{t:Nat}{m k:Operand}{ok:Bool}(hk:FD cx true ⟨dst,.lookup t m k ok,ty,pos,after,gd⟩ st K)(hf:E4 cx ⟨dst,.lookup t m k ok,ty,pos,after,gd⟩ st=some (R,w)) :
  D6 cx ⟨dst,.lookup t m k ok,ty,pos,after,gd⟩ st R w K:=by
 simp only[FD]at hk;have hn:∀st2,Iy ⟨dst,.lookup t m k ok,ty,pos,after,gd⟩ R st st2→ev st2.t m=ev st.t m∧ev st2.t k=ev st.t k:=fun st2 ha=>⟨ha.t m (by simp[Op.operands]),ha.t k (by simp[Op.operands])⟩;simp only[E4]at hf;unfold Mj at hk;split at hf
 ·rename_i sh BU hm;cases hf;rw[hm]at hk;simp only at hk;exact .pick (XI _ _ _ _ fun _=>SQ _ _ _ _ _) hk fun st2 ha K' h=>by simp only[FD,Mj,hn st2 ha,hm];exact h
 ·rename_i r hm;cases hf;rw[hm]at hk;simp only at hk;split at hk
  all_goals first | exact hk.elim | (rename_i e;exact .pick (XI _ _ _ _ fun _=>SQ _ _ _ _ _) hk fun st2 ha K' h=>by simp only[FD,Mj,hn st2 ha,hm,ha.h r (Ab ..),e];exact h)
 ·cases hf
theorem gg(T:Gf)(t:Nat)(h:Nat→HO)(x:AV):FU (Qj T t h x):=by
 unfold Qj
 repeat' split
 all_goals first | exact Cr | exact CM _
theorem mW{T:Gf}{t:Nat}{h h2:Nat→HO}{x:AV}(e:∀r,x=.mref r→h2 r=h r){K:AV→Prop}:Qj T t h2 x K=Qj T t h x K:=by
 cases x<;>first | rfl | skip
 rename_i r;unfold Qj;simp only[e r rfl]
theorem aS{x:Operand}{Gy:Array TypeId}(hk:FD cx true ⟨dst,.call ⟨.builtin .len,#[x],Gy⟩,ty,pos,after,gd⟩ st K)(hf:E4 cx ⟨dst,.call ⟨.builtin .len,#[x],Gy⟩,ty,pos,after,gd⟩ st=some (R,w)) :
  D6 cx ⟨dst,.call ⟨.builtin .len,#[x],Gy⟩,ty,pos,after,gd⟩ st R w K:=by
 have hk:FM cx dst st.h .len Gy.toList [ev st.t x] K:=hk;have hf:GD cx dst (.builtin .len) st.t [ev st.t x]=some (R,w):=hf;have hn:∀st2,Iy ⟨dst,.call ⟨.builtin .len,#[x],Gy⟩,ty,pos,after,gd⟩ R st st2→ev st2.t x=ev st.t x:=fun st2 ha=>ha.t x (by simp[Op.operands,Call.operands]);have JO:∀st2,Iy ⟨dst,.call ⟨.builtin .len,#[x],Gy⟩,ty,pos,after,gd⟩ R st st2→∀K' : HK,FM cx dst st2.h .len Gy.toList [ev st.t x] K'→FD cx true ⟨dst,.call ⟨.builtin .len,#[x],Gy⟩,ty,pos,after,gd⟩ st2 K':=by
  intro st2 ha K' h;rw[←hn st2 ha]at h;exact h
 generalize Gy.toList=l at hk JO
 match l,hk,JO with
 | [t],hk,JO =>
  have hR:∀r,ev st.t x=.mref r→r∈R:=fun r e=>by
   rw[e]at hf;cases hf;exact Ab ..
  have hw:w=none:=by
   unfold GD at hf;split at hf<;>first | (cases hf;rfl) | (rename_i e;cases e) | (rename_i e _;cases e) | skip
   all_goals (cases hf)
  subst hw;exact .pick (gg _ _ _ _) hk fun st2 ha K' h=>JO st2 ha K' (by
   simp only[FM];rw[mW fun r e=>ha.h r (hR r e)];exact h)
 | [],hk,_=>exact hk.elim
 |_::_::_,hk,_=>exact hk.elim
end
theorem jB{l:List Nat}{n:Nat}(h:Iw l n=true):n∈l:=by
 induction l with
 |nil=>cases h
 |cons a l ih =>
  unfold Iw at h
  by_cases e:a=n
  ·exact e▸Ab ..
  ·rw[Cz e]at h;exact Ag _ (ih h)
theorem WG(G:Nat→HO):∀(σ:II) (h:Nat→HO),Ee σ=true→(fun i=>match Cj σ i with | some j=>G j | none=>h i)=HS h (σ.map fun p=>(p.1,G p.2))
 | [],h,_=>rfl
 |(i,j)::r,h,hσ=>by
  unfold Ee at hσ;simp only[Af]at hσ;have ih:=WG G r (AU h i (G j)) hσ.2;show _=HS (AU h i (G j)) (r.map fun p=>(p.1,G p.2));rw[←ih]
  funext i'
  have hn:Cj r i=none:=by
   have:=hσ.1.1.1
   cases e:Cj r i with
   |none=>rfl
   |some k=>rw[e]at this;simp at this
  by_cases e:i'=i
  ·subst e;have e1:Cj ((i',j)::r) i'=some j:=by unfold Cj;rw[CJ];rfl
   rw[e1,hn];show G j=AU h i' (G j) i';unfold AU;rw[CJ];rfl
  ·have e1:Cj ((i,j)::r) i'=Cj r i':=by
    show(bif Nat.beq i i' then some j else Cj r i')=_;rw[Cz (Ne.symm e)];rfl
   rw[e1];cases Cj r i' with
   |some k=>rfl
   |none=>show h i'=AU h i (G j) i';unfold AU;rw[Cz e];rfl
theorem T7{σ:II}{d:Nat}(hσ:Ee σ=true){h h' : Nat→HO}:DZ σ d 0 h h'=HS h (σ.map fun p=>(p.1,(h' p.2).ren (EV σ d 0) h')):=by
 rw[←WG (fun j=>(h' j).ren (EV σ d 0) h') σ h hσ]
 funext i
 unfold DZ;cases Cj σ i with
 |some j=>rfl
 |none =>
  have:(Nat.ble (Bo d 0) i&&Nat.blt i (Bo d 0))=false:=by
   rw[AK];simp only[UE,Af,CR,B9];omega
  simp only[this]
section
variable {cx:Cx}{op:Op}{dst:Option Nat}{ty:Nat}{pos:String}{after:Array Edge}{gd:Option (Nat×Bool)}{st:St}{R:List Nat}{w:Option Nat}{K:HK}
theorem D6.toL(h:D6 cx ⟨dst,op,ty,pos,after,gd⟩ st R w K):QO cx ⟨dst,op,ty,pos,after,gd⟩ st R w K:=by
 obtain⟨v,e,h1,h2,h3⟩:=h;cases e with
 |none=>exact⟨v,[],h1,fun r o' e=>(by cases e),h3⟩
 |some p=>exact⟨v,[p],h1,fun r o' e=>by
   obtain rfl:=Ak.1 e;obtain⟨a,b⟩:=h2 r o' rfl;exact⟨by rw[a];exact .inl rfl,b⟩,h3⟩
theorem Yo{c:Call}(hk:FD cx true ⟨dst,.call c,ty,pos,after,gd⟩ st K)(hf:E4 cx ⟨dst,.call c,ty,pos,after,gd⟩ st=some (R,w)):QO cx ⟨dst,.call c,ty,pos,after,gd⟩ st R w K:=by
 obtain⟨lY,args,Gy⟩:=c;have I4:∀st2,Iy ⟨dst,.call ⟨lY,args,Gy⟩,ty,pos,after,gd⟩ R st st2→args.toList.map (ev st2.t)=args.toList.map (ev st.t):=fun st2 ha =>
  Ba fun x hx=>ha.t x (by simp only[Op.operands,Call.operands,Rd];exact .inr (by simpa using hx))
 cases lY with
 |invoke r m=>exact hk.elim
 |value f =>
  have hk:F4 cx true dst st (ev st.t f) (args.toList.map (ev st.t)) K:=hk;have hf:GD cx dst (.value f) st.t (args.toList.map (ev st.t))=some (R,w):=hf;unfold GD at hf;unfold F4 at hk;simp only at hf hk;have hn:=I4;split at hf
  ·rename_i Zq;rw[Zq]at hk;cases hf;obtain⟨res,h1,h2⟩:=hk;refine D6.toL ⟨res,none,h2,fun r o' e=>(by cases e),fun st2 ha K' h'=>?_⟩;show F4 cx true dst st2 (ev st2.t f) (args.toList.map (ev st2.t)) K';rw[I4 st2 ha,ha.t f (by simp[Op.operands,Call.operands])];unfold F4;simp only[Zq];refine⟨res,?_,h'⟩;rw[Ky (h:=st.h) (fun r hr=>ha.h r (Bd _ hr)),PG (h:=st.h) (fun r hr=>ha.h r (Bc _ hr))];exact h1
  ·rename_i Zq;rw[Zq]at hk;simp only at hk;cases dst with
   |none=>exact hk.elim
   |some d =>
    obtain⟨n,sz,es,h1,h2,h3⟩:=hk;have hf:some (Bo d 0::(Wi (ev st.t f)++Si (args.toList.map (ev st.t))),some (Bo d 0))=some (R,w):=hf;cases hf;refine D6.toL ⟨_,some (Bo d 0,_),h3,fun r o' e=>(by cases e;exact⟨rfl,Ab ..⟩),fun st2 ha K' h'=>?_⟩;show F4 cx true (some d) st2 (ev st2.t f) (args.toList.map (ev st2.t)) K';rw[I4 st2 ha,ha.t f (by simp[Op.operands,Call.operands])];unfold F4;simp only[Zq];refine⟨n,sz,es,?_,?_,h'⟩
    ·have:Dv st2.h d 1=Dv st.h d 1:=by simp only[Dv,ha.h (Bo d 0) (Ab ..)]
     rw[this];exact h1
    ·rw[Ky (h:=st.h) (fun r hr=>ha.h r (Ag _ (Bd _ hr))),PG (h:=st.h) (fun r hr=>ha.h r (Ag _ (Bc _ hr)))];exact h2
  ·rename_i Zq;rw[Zq]at hk;have hk:Qy cx 0 dst st.h (ev st.t f) (args.toList.map (ev st.t)) K:=hk;split at hf
   ·rename_i r n l hl;cases hf;have Ik:=hk;unfold Qy at Ik;rw[hl]at Ik;split at Ik
    ·rename_i d0 f0 r0 n0 l0 e1 e2 z1 z2;cases e2;split at Ik
     ·rename_i vs cQ;split at Ik
      ·rename_i sz es hr;obtain⟨n',Fr,h1,h2⟩:=Ik;refine D6.toL ⟨_,some (r,_),h2,fun r o' e=>(by cases e;exact⟨rfl,Ab ..⟩),fun st2 ha K' h'=>?_⟩;show F4 cx true _ st2 (ev st2.t f) (args.toList.map (ev st2.t)) K';rw[I4 st2 ha,ha.t f (by simp[Op.operands,Call.operands]),hl,e1];unfold F4;simp only[Zq];unfold OE;simp only;unfold Qy;simp only[cQ,ha.h r (Ab ..),hr];exact⟨n',Fr,h1,h'⟩
      ·exact Ik.elim
     ·exact Ik.elim
    ·exact Ik.elim
   ·cases hf
  ·rename_i k Zq;rw[Zq]at hk;cases hb:Nat.beq k 1 with
   |true =>
    have Sb:Nat.beq (k+1) 2=true:=hb;have hk:Tj cx dst st (ev st.t f) (args.toList.map (ev st.t)) K:=by
     have Ik:(match Nat.beq (k+1) 2 with | true=>Tj cx dst st (ev st.t f) (args.toList.map (ev st.t)) K | false=>match Nat.beq (k+1) 3 with | true=>PM cx dst st (ev st.t f) (args.toList.map (ev st.t)) K | false=>OE cx (k+1) dst st (ev st.t f) (args.toList.map (ev st.t)) K):=hk;rw[Sb]at Ik;exact Ik
    rw[hb]at hf;cases dst with
    |none=>exact hk.elim
    |some d =>
     obtain⟨sz,es,h1,h2,h3⟩:=hk;have hf:some (Bo d 0::(Wi (ev st.t f)++Si (args.toList.map (ev st.t))),some (Bo d 0))=some (R,w):=hf;cases hf;refine D6.toL ⟨_,some (Bo d 0,_),h3,fun r o' e=>(by cases e;exact⟨rfl,Ab ..⟩),fun st2 ha K' h'=>?_⟩;show F4 cx true (some d) st2 (ev st2.t f) (args.toList.map (ev st2.t)) K';rw[I4 st2 ha,ha.t f (by simp[Op.operands,Call.operands])];unfold F4;simp only[Zq,Sb];refine⟨sz,es,?_,?_,h'⟩
     ·have:Dv st2.h d 1=Dv st.h d 1:=by simp only[Dv,ha.h (Bo d 0) (Ab ..)]
      rw[this];exact h1
     ·rw[Ky (h:=st.h) (fun r hr=>ha.h r (Ag _ (Bd _ hr))),PG (h:=st.h) (fun r hr=>ha.h r (Ag _ (Bc _ hr)))];exact h2
   |false =>
    have Sb:Nat.beq (k+1) 2=false:=hb;rw[hb]at hf;have Ik:(match Nat.beq (k+1) 2 with | true=>Tj cx dst st (ev st.t f) (args.toList.map (ev st.t)) K | false=>match Nat.beq (k+1) 3 with | true=>PM cx dst st (ev st.t f) (args.toList.map (ev st.t)) K | false=>OE cx (k+1) dst st (ev st.t f) (args.toList.map (ev st.t)) K):=hk;rw[Sb]at Ik;cases hc:Nat.beq k 2 with
    |true =>
     have nU:Nat.beq (k+1) 3=true:=hc;rw[hc]at hf;simp only[nU]at Ik;have hf:dL (args.toList.map (ev st.t))=some (R,w):=hf;unfold dL at hf;unfold PM at Ik;split at hf
     ·rename_i vs cQ;cases hf;split at Ik
      ·rename_i l cS e1 e2 z1 z2;rw[cQ]at e2;cases e2;split at Ik
       ·rename_i r sz es ZZ n e3 e4;obtain⟨⟨rfl,rfl⟩,v,Fr,n',h1,h2⟩:=Ik;refine⟨_,[(1001,_),(1000,_)],h2,fun r' o' e=>?_,fun st2 ha K' h'=>?_⟩
        ·rcases Au.1 e with e | e
         ·cases e
          exact⟨.inr (.inl ⟨by decide,.inr (by decide)⟩),by simp⟩
         ·obtain e:=Ak.1 e;cases e;exact⟨.inr (.inl ⟨by decide,.inl (by decide)⟩),by simp⟩
        show F4 cx true _ st2 (ev st2.t f) (args.toList.map (ev st2.t)) K';rw[I4 st2 ha,ha.t f (by simp[Op.operands,Call.operands]),e1];unfold F4;simp only[Zq,Sb,nU];unfold PM;simp only[cQ,ha.h 1000 (by simp),ha.h 1001 (by simp),e3,e4];exact⟨⟨trivial,trivial⟩,v,Fr,n',h1,h'⟩
       ·exact Ik.elim
      ·exact Ik.elim
     ·cases hf
    |false =>
    have nU:Nat.beq (k+1) 3=false:=hc;rw[hc]at hf;have Ur:OE cx (k+1) dst st (ev st.t f) (args.toList.map (ev st.t)) K:=by
     simp only[nU]at Ik;exact Ik
    have mq:dJ k dst (args.toList.map (ev st.t))=some (R,w):=hf;unfold dJ at mq;unfold OE at Ur;cases he:Nat.beq k 3 with
    |true =>
     have cM:Nat.beq (k+1) 4=true:=he;rw[he]at mq;rw[cM]at Ur;have mq:some (iV,some Vd)=some (R,w):=mq;have Ur:WX cx dst st (ev st.t f) (args.toList.map (ev st.t)) K:=Ur;cases mq;unfold WX at Ur;split at Ur
     ·rename_i d f' e2 _ _ _;obtain⟨σ,H0,Hn,args',res,g1,g2,g3,g4⟩:=Ur;simp only[Af]at g2;refine⟨_,σ.map fun p=>(p.1,(Aj Hn Aa p.2).ren (EV σ d 0) (Aj Hn Aa)),(T7 (h:=st.h) (h':=Aj Hn Aa) (d:=d) g2.1.1)▸g4,fun r' o' e=>?_,fun st2 ha K' h'=>?_⟩
      ·obtain⟨p,hp,e⟩:=Al.1 e;cases e;exact⟨.inr (.inr rfl),jB (Bs.1 g2.2 p hp)⟩
      ·show F4 cx true _ st2 (ev st2.t f) (args.toList.map (ev st2.t)) K';rw[I4 st2 ha,ha.t f (by simp[Op.operands,Call.operands])];unfold F4;simp only[Zq,Sb,nU];unfold OE;simp only[cM];unfold WX;rw[e2];refine⟨σ,H0,Hn,args',res,fun h2 hh=>g1 h2 fun r hr=>(hh r hr).trans (ha.h r hr),by simp only[Af];exact g2,g3,?_⟩;rw[T7 (h:=st2.h) (h':=Aj Hn Aa) (d:=d) g2.1.1];exact h'
     ·exact Ur.elim
    |false =>
    have cM:Nat.beq (k+1) 4=false:=he;rw[he]at mq;rw[cM]at Ur;have hf:Zi dst (args.toList.map (ev st.t))=some (R,w):=mq;have hk:Qy cx (k+1) dst st.h (ev st.t f) (args.toList.map (ev st.t)) K:=Ur;obtain⟨d,r,n,l,rfl,hl,e0⟩:=Ym hf;cases e0;unfold Qy at hk;rw[hl]at hk;split at hk
    ·rename_i d0 f0 r0 n0 l0 e9 e1 e2;cases e9;cases e2;split at hk
     ·rename_i vs cQ;split at hk
      ·rename_i sz es hr;obtain⟨n',Fr,h0,h1,h2⟩:=hk;have tg:=h0;simp only[Af,B9]at tg;refine⟨_,[(r,.dead),(Bo d 0,_)],h2,fun r' o' e=>?_,fun st2 ha K' h'=>?_⟩
       ·rcases Au.1 e with e | e
        ·cases e
         refine⟨.inr (.inl ⟨by unfold Bo;omega,.inl ?_⟩),Ab ..⟩;rw[Nat.add_mul_mod_self_left,Nat.mod_eq_of_lt tg.1.2]
        ·obtain e:=Ak.1 e;cases e;refine⟨.inr (.inl ⟨by unfold Bo;omega,.inr ?_⟩),Ag _ (Ab ..)⟩;rw[Nat.add_mul_div_left _ _ (by decide),Nat.div_eq_of_lt tg.1.2,Bg]
       show F4 cx true _ st2 (ev st2.t f) (args.toList.map (ev st2.t)) K';rw[I4 st2 ha,ha.t f (by simp[Op.operands,Call.operands]),hl,e1];unfold F4;simp only[Zq,Sb,nU];unfold OE;simp only[cM];unfold Qy;simp only[cQ,ha.h r (Ab ..),hr]
       have:Dv st2.h d 1=Dv st.h d 1:=by simp only[Dv,ha.h (Bo d 0) (Ag _ (Ab ..))]
       exact⟨n',Fr,by rw[this];exact h0,h1,h'⟩
      ·exact hk.elim
     ·exact hk.elim
    ·exact hk.elim
 |builtin b =>
  refine D6.toL ?_;have mm:∀f:Int→Int→Int,(∀(d:Option Nat) (h:Nat→HO) (Gy:List Nat) (args:List AV) (K:HK),FM cx d h b Gy args K=(match args with | [x,y]=>jD f x y fun v=>K v h | _=>False))→R=[]∧w=none→D6 cx ⟨dst,.call ⟨.builtin b,args,Gy⟩,ty,pos,after,gd⟩ st R w K:=by
   rintro f hb ⟨rfl,rfl⟩
   have hk:FM cx dst st.h b Gy.toList (args.toList.map (ev st.t)) K:=hk;rw[hb]at hk;split at hk
   ·rename_i x y e;refine .pick (jT f x y) hk fun st2 ha K' h=>?_;show FM cx dst st2.h b Gy.toList (args.toList.map (ev st2.t)) K';rw[hb,I4 st2 ha,e];exact h
   ·exact hk.elim
  cases b
  case max=>exact mm max (fun d h Gy args K=>by cases args with | nil=>rfl | cons x l=>cases l with | nil=>rfl | cons y l=>cases l<;>rfl) (by
   have hf:GD cx dst (.builtin .max) st.t (args.toList.map (ev st.t))=some (R,w):=hf;simp only[GD]at hf;cases hf;exact⟨rfl,rfl⟩)
  case min=>exact mm min (fun d h Gy args K=>by cases args with | nil=>rfl | cons x l=>cases l with | nil=>rfl | cons y l=>cases l<;>rfl) (by
   have hf:GD cx dst (.builtin .min) st.t (args.toList.map (ev st.t))=some (R,w):=hf;simp only[GD]at hf;cases hf;exact⟨rfl,rfl⟩)
  case append =>
   obtain⟨l⟩:=args
   match l,hk,hf with
   | [s,x],hk,hf=>exact Vw hk hf
   | [],hk,hf=>cases Gy;exact hk.elim
   | [_],hk,hf=>exact hk.elim
   |_::_::_::_,hk,hf=>exact hk.elim
  case len =>
   obtain⟨l⟩:=args
   match l,hk,hf with
   | [x],hk,hf=>exact aS hk hf
   | [],hk,hf=>exact hk.elim
   |_::_::_,hk,hf=>exact hk.elim
  all_goals exact hk.elim
theorem X2{o:Oper}(hc:∀c,o.op≠.call c)(hs:(∃t x lo hi mx,o.op=.slice t x lo hi mx)→MZ cx.pl.tok o.dst=none)(hk:FD cx true o st K)(hf:E4 cx o st=some (R,w)):D6 cx o st R w K:=by
 obtain⟨dst,op,ty,pos,after,gd⟩:=o;cases op with
 |call c=>exact absurd rfl (hc c)
 |alloc e=>exact WU hk hf
 |box e x=>exact aR hk hf
 |buildSlice t n ps=>exact Pc hk hf
 |makeSlice t n c=>exact QB hk hf
 |makeMap t r=>exact TF hk hf
 |store t p x=>exact WV hk hf
 |mapUpdate t m k x=>exact QC hk hf
 |makeFunc fn first cap=>exact RT hk hf
 |load t p=>exact Yp hk hf
 |assign x=>exact Vx hk hf
 |slice t x lo hi mx=>exact Qb (hs ⟨t,x,lo,hi,mx,rfl⟩) hk hf
 |lookup t x i ok=>exact Vy hk hf
 |move x =>
  cases hf
  exact .pick (CM _) hk fun st2 ha K' h=>by simp only[FD,ha.t x (by simp[Op.operands])];exact h
 |pick c a b =>
  cases hf
  exact .pick (bZ _ _ _) hk fun st2 ha K' h=>by simp only[FD,ha.t c (by simp[Op.operands]),ha.t a (by simp[Op.operands]),ha.t b (by simp[Op.operands])];exact h
 |nilCheck x =>
  cases hf
  exact .pick (gj _) hk fun st2 ha K' h=>by simp only[FD,ha.t x (by simp[Op.operands])];exact h
 |binOp op t x y u =>
  simp only[E4]at hf;split at hf
  ·cases hf
  ·rename_i hx;cases hf;exact .pick (bX _ _ _ _ _ _ hx) hk fun st2 ha K' h=>by simp only[FD,ha.t x (by simp[Op.operands]),ha.t y (by simp[Op.operands])];exact h
 |unOp op t x =>
  cases hf
  exact .pick (ca _ _) hk fun st2 ha K' h=>by simp only[FD,ha.t x (by simp[Op.operands])];exact h
 |convert s t x =>
  cases hf
  exact .pick (bY _ _ _ _) hk fun st2 ha K' h=>by simp only[FD,ha.t x (by simp[Op.operands])];exact h
 |fieldAddr s x f =>
  cases hf
  exact .pick (YT _ _ _ _) hk fun st2 ha K' h=>by simp only[FD,ha.t x (by simp[Op.operands])];exact h
 |field s x f =>
  cases hf
  exact .pick (XH _ _ _ _) hk fun st2 ha K' h=>by simp only[FD,ha.t x (by simp[Op.operands])];exact h
 |indexAddr t x i =>
  cases hf
  exact .pick (SU _ _ _ _) hk fun st2 ha K' h=>by simp only[FD,ha.t x (by simp[Op.operands]),ha.t i (by simp[Op.operands])];exact h
 |index t x i =>
  cases hf
  exact .pick (YU _ _ _ _) hk fun st2 ha K' h=>by simp only[FD,ha.t x (by simp[Op.operands]),ha.t i (by simp[Op.operands])];exact h
 |extract x i =>
  cases hf
  exact .pick (VP _ _) hk fun st2 ha K' h=>by simp only[FD,ha.t x (by simp[Op.operands])];exact h
 |build t ps =>
  cases hf
  refine .pick (YS _ _ _ _) hk fun st2 ha K' h=>?_;have hx:∀p∈ps.toList,ev st2.t p.2=ev st.t p.2:=fun p hp=>ha.t p.2 (by
   simp only[Op.operands,List.mem_toArray];exact Al.2 ⟨p,hp,rfl⟩)
  simp only[FD];have fill:∀(pl:Nat→Option (Nat×Nat)) (l:List (Nat×Operand)) (cs:List AV) (K:List AV→Prop),(∀p∈l,ev st2.t p.2=ev st.t p.2)→Kh pl cs st2.t l K=Kh pl cs st.t l K:=by
   intro pl l
   induction l with
   |nil=>intro cs K _;rfl
   |cons p l ih =>
    intro cs K hp;obtain⟨i,x⟩:=p;have h1:ev st2.t x=ev st.t x:=hp (i,x) (Ab ..);have h2:∀cs,Kh pl cs st2.t l K=Kh pl cs st.t l K:=fun cs=>ih cs K (fun p mG=>hp p (Ag _ mG));simp only[Kh,h1,h2]
  unfold OW at h⊢;simp only[fill _ _ _ _ hx];exact h
 |_=>cases hf
theorem aq{o:Oper}(hk:FD cx true o st K)(hf:E4 cx o st=some (R,w)):QO cx o st R w K:=by
 obtain⟨dst,op,ty,pos,after,gd⟩:=o
 by_cases h:∃c,op=.call c
 ·obtain⟨c,rfl⟩:=h;exact Yo hk hf
 ·by_cases h2:∃t x lo hi mx,op=.slice t x lo hi mx
  ·obtain⟨t,x,lo,hi,mx,rfl⟩:=h2;cases hp:MZ cx.pl.tok dst with
   |none=>exact D6.toL (Qb hp hk hf)
   |some p=>exact aT hp hk hf
  ·exact D6.toL (X2 (fun c e=>h ⟨c,e⟩) (fun e=>absurd e h2) hk hf)
end
theorem Un{cx:Cx}{o:Oper}{st st2:St}(h:∀x∈o.op.operands,ev st2.t x=ev st.t x):E4 cx o st2=E4 cx o st:=by
 obtain⟨dst,op,ty,pos,after,gd⟩:=o;cases op with
 |call c =>
  obtain⟨lY,args,Gy⟩:=c;have ha:args.toList.map (ev st2.t)=args.toList.map (ev st.t):=Ba fun x hx=>h x (by simp only[Op.operands,Call.operands,Rd];exact .inr (by simpa using hx));simp only[E4];rw[ha];cases lY with
  |value f =>
   have hf:ev st2.t f=ev st.t f:=h f (by simp[Op.operands,Call.operands]);simp only[GD,hf]
  |builtin b =>
   generalize args.toList.map (ev st.t)=l
   match l with
   | []=>cases b<;>rfl
   | [x]=>cases b<;>cases x<;>rfl
   | [x,y]=>cases b<;>cases x<;>rfl
   |x::_::_::_=>cases b<;>cases x<;>rfl
  |invoke r m=>rfl
 |box e x=>simp only[E4,h x (by simp[Op.operands])]
 |buildSlice t n ps =>
  have hx:ps.toList.map (fun p=>ev st2.t p.2)=ps.toList.map (fun p=>ev st.t p.2):=Ba fun p hp=>h p.2 (by
   simp only[Op.operands,List.mem_toArray];exact Al.2 ⟨p,hp,rfl⟩)
  simp only[E4,hx]
 |store t p x=>simp only[E4,h p (by simp[Op.operands]),h x (by simp[Op.operands])]
 |mapUpdate t m k x=>simp only[E4,h m (by simp[Op.operands]),h x (by simp[Op.operands])]
 |makeFunc fn first cap =>
  have hx:cap.toList.map (ev st2.t)=cap.toList.map (ev st.t):=Ba fun x hx=>h x (by simp only[Op.operands,Rd];exact .inr (by simpa using hx));simp only[E4,hx]
 |load t p=>simp only[E4,h p (by simp[Op.operands])]
 |assign x=>simp only[E4,h x (by simp[Op.operands])]
 |binOp op t x y u=>simp only[E4,h x (by simp[Op.operands])]
 |slice t x lo hi mx=>simp only[E4,h x (by simp[Op.operands])]
 |lookup t x i ok=>simp only[E4,h x (by simp[Op.operands])]
 |_=>rfl
def J6(ops:Array Oper)(o:Oper)(st st2:St):Prop:=∀d∈o.looksAt ops,st2.t d=st.t d
theorem J6.operands{ops:Array Oper}{o:Oper}{st st2:St}(h:J6 ops o st st2):∀x∈o.op.operands,ev st2.t x=ev st.t x:=fun x hx=>by
 cases x with
 |tmp t=>exact h t (Bd _ (List.mem_filterMap.2 ⟨.tmp t,by simpa using hx,rfl⟩))
 |_=>rfl
theorem UH(ops:Array Oper)(j:Nat):JU ops.toList j=(ops[j]?).bind (·.dst):=by
 have:∀(l:List Oper) (j:Nat),JU l j=(l[j]?).bind (·.dst):=by
  intro l
  induction l with
  |nil=>intro j;simp[JU]
  |cons o l ih =>
   intro j;cases j with
   |zero=>simp[JU]
   |succ j=>simp[JU,ih]
 rw[this];simp
theorem J6.guard{ops:Array Oper}{o:Oper}{st st2:St}(h:J6 ops o st st2){j:Nat}{b:Bool}(hg:o.guard=some (j,b)){d:Nat}(hd:JU ops.toList j=some d):st2.t d=st.t d :=
 h d (Bc _ (by rw[hg];simp only;rw[←UH,hd];simp))
def St.after(st:St)(o:Oper)(v:AV)(e:List (Nat×HO)):St:=st.put o.dst v (HS st.h e)
def OT(cx:Cx)(ops:Array Oper)(o:Oper)(st:St)(f:Fj)(v:AV)(e:List (Nat×HO)):Prop :=
 (∀r o',(r,o')∈e→Rf f.2 r∧r∈f.1)∧∀st2,J6 ops o st st2→(∀r∈f.1,st2.h r=st.h r)→∀K:St→Prop,K (st2.after o v e)→GX cx true ops.toList o st2 K
theorem RS{cx:Cx}{ops:Array Oper}{o:Oper}{st st2:St}(h:J6 ops o st st2):MN cx ops.toList o st2=MN cx ops.toList o st:=by
 unfold MN;split
 ·exact Un h.operands
 ·rename_i j want hg;split
  ·rfl
  ·rename_i d hd;simp only[h.guard hg hd];split<;>first | exact Un h.operands | rfl
theorem NO{cx:Cx}{ops:Array Oper}{o:Oper}{st:St}{f:Fj}{K:St→Prop}(hk:GX cx true ops.toList o st K)(hf:MN cx ops.toList o st=some f) :
  ∃v e,OT cx ops o st f v e∧K (st.after o v e):=by
 obtain⟨R,w⟩:=f;have skip:R=[]∧w=none→K (st.put o.dst (.v undef) st.h)→(∀st2,J6 ops o st st2→∀K:St→Prop,K (st2.put o.dst (.v undef) st2.h)→GX cx true ops.toList o st2 K)→∃v e,OT cx ops o st (R,w) v e∧K (st.after o v e):=by
  rintro⟨rfl,rfl⟩ h1 h2
  exact⟨.v undef,[],⟨fun r o' e=>(by cases e),fun st2 hl _ K h=>h2 st2 hl K h⟩,h1⟩
 have run:E4 cx o st=some (R,w)→FD cx true o st (fun v h=>K (st.put o.dst v h))→(∀st2,J6 ops o st st2→∀K:St→Prop,FD cx true o st2 (fun v h=>K (st2.put o.dst v h))→GX cx true ops.toList o st2 K)→∃v e,OT cx ops o st (R,w) v e∧K (st.after o v e):=by
  intro hf hk h2;obtain⟨v,e,q1,q2,q3⟩:=aq hk hf;exact⟨v,e,⟨q2,fun st2 hl hh K h=>h2 st2 hl K (q3 st2 ⟨hl.operands,hh⟩ _ h)⟩,q1⟩
 unfold GX at hk;unfold MN at hf;cases hg:o.guard with
 |none =>
  rw[hg]at hk hf;exact run hf hk (fun st2 hl K h=>by unfold GX;rw[hg];exact h)
 |some p =>
  obtain⟨j,want⟩:=p;rw[hg]at hk hf;simp only at hk hf;cases hd:JU ops.toList j with
  |none=>rw[hd]at hk;exact hk.elim
  |some d =>
   rw[hd]at hk hf;simp only at hk hf;have he:∀st2,J6 ops o st st2→st2.t d=st.t d:=fun st2 hl=>hl.guard hg hd;generalize hx:st.t d=x at hk hf he;split at hk
   ·exact run hf hk (fun st2 hl K h=>by unfold GX;simp only[hg,hd,he st2 hl];exact h)
   ·exact run hf hk (fun st2 hl K h=>by unfold GX;simp only[hg,hd,he st2 hl];exact h)
   ·exact skip (by cases hf;exact⟨rfl,rfl⟩) hk (fun st2 hl K h=>by unfold GX;simp only[hg,hd,he st2 hl];exact h)
   ·exact skip (by cases hf;exact⟨rfl,rfl⟩) hk (fun st2 hl K h=>by unfold GX;simp only[hg,hd,he st2 hl];exact h)
   ·exact skip (by cases hf;exact⟨rfl,rfl⟩) hk (fun st2 hl K h=>by unfold GX;simp only[hg,hd,he st2 hl];exact h)
   ·exact hk.elim
def ot(cx:Cx)(ops:Array Oper)(FT:Nat→Fj)(i:Nat)(K:St→Prop)(st:St):Prop :=
 match ops[i]? with
 |none=>K st
 |some o=>MN cx ops.toList o st=some (FT i)∧GX cx true ops.toList o st K
def Wp(cx:Cx)(ops:Array Oper)(FT:Nat→Fj)(K:St→Prop):Nat→Array Bool→St→Prop
 |0,listed,st=>Region.ready .any ops listed=[]∧K st
 |fuel+1,listed,st =>
  (Region.ready .any ops listed=[]→K st)∧∀i∈Region.ready .any ops listed,ot cx ops FT i (Wp cx ops FT K fuel (listed.setIfInBounds i true)) st
theorem cA(t:Nat→AV){d d' : Nat}(h:d'≠d)(v v' : AV):GT (GT t d v) d' v'=GT (GT t d' v') d v:=by
 funext i
 unfold GT
 by_cases h1:i=d<;>by_cases h2:i=d'
 ·exact absurd (h2.symm.trans h1) h
 ·subst h1;simp[Cz h2]
 ·subst h2;simp[Cz h1]
 ·simp[Cz h1,Cz h2]
theorem bf(t:Nat→HO){d d' : Nat}(h:d'≠d)(v v' : HO):AU (AU t d v) d' v'=AU (AU t d' v') d v:=by
 funext i
 unfold AU
 by_cases h1:i=d<;>by_cases h2:i=d'
 ·exact absurd (h2.symm.trans h1) h
 ·subst h1;simp[Cz h2]
 ·subst h2;simp[Cz h1]
 ·simp[Cz h1,Cz h2]
theorem On{l:List Nat}{n:Nat}(h:n∈l):Iw l n=true:=by
 induction l with
 |nil=>cases h
 |cons a l ih =>
  unfold Iw
  by_cases e:a=n
  ·subst e;simp
  ·rw[Cz e];exact ih ((Au.1 h).resolve_left (fun q=>e q.symm))
theorem Xp{l:List Nat}{n:Nat}(h:Iw l n=true):n∈l:=by
 induction l with
 |nil=>cases h
 |cons a l ih =>
  unfold Iw at h
  by_cases e:a=n
  ·exact e▸Ab ..
  ·rw[Cz e]at h;exact Ag _ (ih h)
theorem XB{l:List Nat}{x:Nat}(h:Xz l x=true):∀r,Rf (some x) r→r∉l:=by
 intro r hc hr;unfold Xz at h
 by_cases hx:x=Vd
 ·subst hx;rw[CJ,Ju]at h;cases l with
  |nil=>cases hr
  |cons a l=>cases h
 rw[Cz hx,Ef]at h;simp only[Af,Cp,CG,B9]at h;rcases hc with rfl | ⟨h1,h2⟩ | hc
 ·rw[On hr]at h;cases h.1
 ·rcases h.2 with h3 | h3
  ·omega
  ·rcases h2 with rfl | rfl
   ·rw[On hr]at h3;cases h3.1
   ·rw[On hr]at h3;cases h3.2
 ·exact hx hc
theorem aK{a b:Fj}(h:RF a b=true):(∀r,Rf a.2 r→r∉b.1)∧∀r,Rf b.2 r→r∉a.1:=by
 obtain⟨a1,a2⟩:=a;obtain⟨b1,b2⟩:=b;simp only[RF,Af]at h;refine⟨fun r e=>?_,fun r e=>?_⟩
 ·cases a2 with
  |none=>exact e.elim
  |some x=>exact XB h.1 r e
 ·cases b2 with
  |none=>exact e.elim
  |some x=>exact XB h.2 r e
section
variable {cx:Cx}{ops:Array Oper}{FT:Nat→Fj}
theorem Ql{oi oj:Oper}(h:∀d,oi.dst=some d→d∉oj.looksAt ops)(st:St)(v:AV)(e:List (Nat×HO)):J6 ops oj st (st.after oi v e):=by
 intro d hd;cases hdst:oi.dst with
 |none=>simp[St.after,St.put,hdst]
 |some d' =>
  have:d≠d':=fun q=>h d' hdst (q▸hd)
  simp[St.after,St.put,hdst,GT,Cz this]
theorem J6.symm{o:Oper}{st st2:St}(h:J6 ops o st st2):J6 ops o st2 st:=fun d hd=>(h d hd).symm
theorem Zn{o:Oper}{st:St}{v:AV}{e:List (Nat×HO)}:(st.after o v e).h=HS st.h e:=by
 unfold St.after St.put;cases o.dst<;>rfl
theorem O0{r:Nat}:∀{e:List (Nat×HO)} {h:Nat→HO},(∀o',(r,o')∉e)→HS h e r=h r
 | [],_,_=>rfl
 |p::e,h,hr=>by
  have:r≠p.1:=fun q=>hr p.2 (by rw[q];exact Ab ..)
  show HS (AU h p.1 p.2) e r=h r;rw[O0 fun o' ho=>hr o' (Ag _ ho),BR _ _ _ _ this]
theorem WH{r:Nat}{o:HO}:∀{e:List (Nat×HO)} {h:Nat→HO},(∀r' o',(r',o')∈e→r'≠r)→HS (AU h r o) e=AU (HS h e) r o
 | [],_,_=>rfl
 |p::e,h,hr=>by
  show HS (AU (AU h r o) p.1 p.2) e=AU (HS (AU h p.1 p.2) e) r o;rw[bf h (hr p.1 p.2 (Ab ..)),WH fun r' o' ho=>hr r' o' (Ag _ ho)]
theorem Uk:∀{e e' : List (Nat×HO)} {h:Nat→HO},(∀r o r' o',(r,o)∈e→(r',o')∈e'→r'≠r)→HS (HS h e) e'=HS (HS h e') e
 | [],_,_,_=>rfl
 |p::e,e',h,hd=>by
  show HS (HS (AU h p.1 p.2) e) e'=HS (AU (HS h e') p.1 p.2) e;rw[←WH fun r' o' ho=>hd p.1 p.2 r' o' (Ab ..) ho,Uk fun r o r' o' h1 h2=>hd r o r' o' (Ag _ h1) h2]
theorem X1{oi oj:Oper}{st:St}{v v' : AV}{e e' : List (Nat×HO)}(h1:∀d,oi.dst=some d→oj.dst≠some d)(h2:∀r o r' o',(r,o)∈e→(r',o')∈e'→r'≠r) :
  (st.after oi v e).after oj v' e'=(st.after oj v' e').after oi v e:=by
 have hh:HS (HS st.h e) e'=HS (HS st.h e') e:=Uk h2;have key:∀o:Oper,∀v e,∀st:St,st.after o v e=⟨match o.dst with | none=>st.t | some d=>GT st.t d v,HS st.h e⟩:=fun o v e st=>by
  unfold St.after St.put;cases o.dst<;>rfl
 rw[key,key,key,key];simp only[hh];cases hi:oi.dst with
 |none=>rfl
 |some d =>
  cases hj:oj.dst with
  |none=>rfl
  |some d' =>
   have Dt:d'≠d:=fun q=>h1 d hi (by rw[hj,q]);simp only[cA st.t Dt v v']
theorem X0{K:St→Prop}{i:Nat}{oi:Oper}{v:AV}{e:List (Nat×HO)}(hi:ops[i]?=some oi)(D:Nat→Prop)
  (hD:∀j,D j→∃oj,ops[j]?=some oj∧∃ed∈oj.after,Region.binds .any ed=true∧(ed.on=i∨D ed.on)) :
  ∀(fuel:Nat) (listed:Array Bool) (st:St),
   (∀j oj,ops[j]?=some oj→j≠i→listed.getD j true=false→¬D j→oi.apart ops oj=true∧RF (FT i) (FT j)=true) →
   i∈Region.ready .any ops listed→(∀j,D j→listed.getD j true=false)→MN cx ops.toList oi st=some (FT i)→OT cx ops oi st (FT i) v e →
   Wp cx ops FT K fuel (listed.setIfInBounds i true) (st.after oi v e)→Wp cx ops FT K (fuel+1) listed st:=by
 have here:∀(fuel:Nat) (listed:Array Bool) (st:St),MN cx ops.toList oi st=some (FT i)→OT cx ops oi st (FT i) v e →
   Wp cx ops FT K fuel (listed.setIfInBounds i true) (st.after oi v e)→ot cx ops FT i (Wp cx ops FT K fuel (listed.setIfInBounds i true)) st:=by
  intro fuel listed st hf hy H;unfold ot;rw[hi];exact⟨hf,hy.2 st (fun _ _=>rfl) (fun _ _=>rfl) _ H⟩
 intro fuel
 induction fuel with
 |zero =>
  intro listed st _ hr _ hf hy H;refine⟨fun h=>(by rw[h]at hr;cases hr),fun j hj=>?_⟩
  by_cases Nb:j=i
  ·subst Nb;exact here 0 listed st hf hy H
  ·have:=ready_mono hj Nb
   rw[H.1]at this;cases this
 |succ fuel ih =>
  intro listed st Aa hr wK hf hy H;refine⟨fun h=>(by rw[h]at hr;cases hr),fun j hj=>?_⟩
  by_cases Nb:j=i
  ·subst Nb;exact here (fuel+1) listed st hf hy H
  ·have h1:=H.2 j (ready_mono hj Nb);obtain⟨pU,oj,jl,GE⟩:=mem_ready.1 hj;have pd:∀k,listed.getD k true=false→listed.getD k false=true→False:=fun k h0 h1=>by
    rcases Ez k listed.size with h' | h'
    ·simp[h']at h0 h1;rw[h0]at h1;cases h1
    ·simp[Array.getElem?_eq_none h']at h1
   have rP:¬D j:=fun rG=>by
    obtain⟨oj',kP,ed,he,hb,zp⟩:=hD j rG;rw[jl]at kP;cases kP;have hl:=GE ed he hb;rcases zp with h2 | h2
    ·exact pd _ (by rw[h2];exact(mem_ready.1 hr).1) hl
    ·exact pd _ (wK _ h2) hl
   obtain⟨pC,rG⟩:=Aa j oj jl Nb pU rP;obtain⟨a1,a2,a3⟩:=Oper.apart_spec pC;obtain⟨d1,d2⟩:=aK rG;unfold ot at h1⊢;rw[jl]at h1⊢;obtain⟨wZ,ze⟩:=h1;have xe:=Ql (ops:=ops) a1 st v e;obtain⟨vj,ej,xx,hK⟩:=NO ze wZ;have tY:∀r o',(r,o')∈e→r∉(FT j).1:=fun r o' q=>d1 r (hy.1 r o' q).1;have cM:∀r o',(r,o')∈ej→r∉(FT i).1:=fun r o' q=>d2 r (xx.1 r o' q).1;refine⟨by rw[←RS xe];exact wZ,xx.2 st xe.symm (fun r mH=>?_) _ ?_⟩
   ·rw[Zn,O0 (fun o' q=>tY r o' q mH)]
   ·have xd:=Ql (ops:=ops) a3 st vj ej;refine ih (listed.setIfInBounds j true) (st.after oj vj ej) (fun k ok hk xc jq QG=>?_) (ready_mono hr (Ne.symm Nb)) (fun k hk=>?_) (by rw[RS xd];exact hf) ⟨hy.1,fun st2 hl hh K' h'=>?_⟩ ?_
    ·by_cases ji:j=k
     ·subst ji;exact Aa _ ok hk xc pU QG
     ·rw[getD_set_ne true ji]at jq;exact Aa k ok hk xc jq QG
    ·by_cases ji:j=k
     ·subst ji;exact absurd hk rP
     ·rw[getD_set_ne true ji];exact wK k hk
    ·refine hy.2 st2 (fun d hd=>(hl d hd).trans (xd d hd)) (fun r mH=>?_) K' h';rw[hh r mH,Zn,O0 (fun o' q=>cM r o' q mH)]
    ·rw[Array.setIfInBounds_comm _ _ (Ne.symm Nb)]at hK;rw[←X1 a2 (fun r o r' o' q q' e2=>cM r' o' q' (by rw[e2];exact(hy.1 r o q).2))];exact hK
def lu(cx:Cx)(ops:Array Oper)(K:St→Prop):List Oper→List Fj→St→Prop
 | [],[],st=>K st
 |o::r,f::fs,st=>MN cx ops.toList o st=some f∧∃v e,OT cx ops o st f v e∧lu cx ops K r fs (st.after o v e)
 |_,_,_=>False
theorem Rm{K:St→Prop}:∀(l:List Oper) (acc:List Fj) (st:St),Wt cx ops l acc st K→∃fs,RG ops (acc.reverse++fs)=true∧lu cx ops K l fs st
 | [],acc,st,h=>⟨[],by simpa using h.1,h.2⟩
 |o::r,acc,st,h=>by
  unfold Wt at h;split at h
  ·rename_i f hf;obtain⟨v,e,h1,h2⟩:=NO h hf;obtain⟨fs,q1,q2⟩:=Rm r _ _ h2;exact⟨f::fs,by simpa using q1,hf,v,e,h1,q2⟩
  ·exact h.elim
theorem VA{o:Oper}{i:Nat}{D:List Nat}(h:Of o i D=true):∃ed∈o.after,Region.binds .any ed=true∧(ed.on=i∨ed.on∈D):=by
 unfold Of at h;obtain⟨ed,h1,h2⟩:=Bf.1 h;simp only[Af,Cp]at h2;exact⟨ed,by simpa using h1,h2.1,h2.2.imp AH Xp⟩
theorem Tf{i:Nat}{D:List Nat}:∀(l:List Oper) (k:Nat),Te i D k l=true→∀j o,l[j]?=some o→k+j∈D→Of o i D=true
 | [],_,_,_,_,h,_=>by simp at h
 |o::l,k,hs,j,o',h,hm=>by
  simp only[Te,Af]at hs;cases j with
  |zero =>
   simp only[A4,Bj]at h;subst h;have h1:=hs.1;rw[On (by simpa using hm)]at h1;simpa using h1
  |succ j=>exact Tf l (k+1) hs.2 j o' (by simpa using h) (by rw[Gd,Nat.add_comm 1 j];exact hm)
theorem T3{oi:Oper}{fi:Fj}{D:List Nat}:∀(l:List Oper) (fs:List Fj) (k:Nat),Ib ops oi fi D k l fs=true→l.length=fs.length∧∀j o f,l[j]?=some o→fs[j]?=some f→k+j∉D→oi.apart ops o=true∧RF fi f=true
 | [],[],_,_=>⟨rfl,fun _ _ _ h=>by simp at h⟩
 | [],_::_,_,h=>by simp[Ib]at h
 |_::_,[],_,h=>by simp[Ib]at h
 |o::l,f::fs,k,h=>by
  simp only[Ib,Af,Cp]at h;obtain⟨h1,h2⟩:=T3 l fs (k+1) h.2;refine⟨by simp[h1],fun j o' f' q1 q2 hn=>?_⟩;cases j with
  |zero =>
   simp only[A4,Bj]at q1 q2;subst q1;subst q2;rcases h.1 with h3 | h3
   ·exact absurd (Xp h3) hn
   ·exact h3
  |succ j=>exact h2 j o' f' (by simpa using q1) (by simpa using q2) (by simpa[Nat.add_assoc,Nat.add_comm 1 j]using hn)
theorem Wq{K:St→Prop}:∀(l:List Oper) (fs:List Fj) (k:Nat) (listed:Array Bool) (st:St),(∀j,l[j]?=ops[k+j]?)→(∀j f,fs[j]?=some f→FT (k+j)=f)→listed.size=ops.size →
  (∀j,j<ops.size→listed.getD j true=decide (j<k))→Lv ops ops.toList k l fs=true→lu cx ops K l fs st→Wp cx ops FT K l.length listed st
 | [],[],k,listed,st,hl,_,hs,hL,_,h=>by
  refine⟨?_,h⟩;apply Lc.2;intro j hj;obtain⟨h1,o,ho,_⟩:=mem_ready.1 hj;have Ds:=(Bm.1 ho).1;rw[hL j Ds]at h1;have nZ:k≤j:=by simpa using h1
  have:=hl (j-k)
  rw[show k+(j-k)=j by omega,ho]at this;simp at this
 | [],_::_,_,_,_,_,_,_,_,h,_=>by simp[Lv]at h
 |_::_,[],_,_,_,_,_,_,_,h,_=>by simp[Lv]at h
 |o::l,f::fs,k,listed,st,hl,hF,hs,hL,hg,h=>by
  simp only[Lv,Af]at hg;obtain⟨⟨⟨⟨g1,g2⟩,g3⟩,g4⟩,g5⟩:=hg;obtain⟨hf,v,e,hy,hp⟩:=h;have h0:ops[k]?=some o:=by simpa using(hl 0).symm
  have hk:=(Bm.1 h0).1;have tq:FT k=f:=by simpa using hF 0 f rfl
  have Pf : ∀j,l[j]?=ops[k+1+j]?:=fun j=>by have:=hl (j+1);simpa[Nat.add_assoc,Nat.add_comm 1 j]using this
  have nR : ∀j f,fs[j]?=some f→FT (k+1+j)=f:=fun j f' hj=>by have:=hF (j+1) f' (by simpa using hj);simpa[Nat.add_assoc,Nat.add_comm 1 j]using this
  obtain⟨Cw,pC⟩:=T3 l fs (k+1) g4;have Zl:∀j,j∈OZ k [] 0 ops.toList→k<j∧j<ops.size:=fun j hj=>by
   have:=(Bs.1 g3) j hj
   simp only[Af,B9,BW]at this;exact this
  refine X0 h0 (fun j=>j∈OZ k [] 0 ops.toList) (fun j hj=>?_) l.length listed st (fun j oj jl ji jq rP=>?_) ?_ (fun j hj=>?_) (by rw[tq];exact hf) (by rw[tq];exact hy) ?_
  ·have Ds:=(Zl j hj).2
   have:=Tf ops.toList 0 g2 j ops[j] (by simp[Ds]) (by simpa using hj)
   obtain⟨ed,e1,e2,e3⟩:=VA this;exact⟨ops[j],by simp[Ds],ed,e1,e2,e3⟩
  ·have Ds:=(Bm.1 jl).1;rw[hL j Ds]at jq;have nZ:k<j:=by have q:k≤j:=(by simpa using jq);omega
   have e1:l[j-(k+1)]?=some oj:=by rw[Pf,show k+1+(j-(k+1))=j by omega];exact jl
   have hfl:j-(k+1)<fs.length:=by rw[←Cw];exact(Ap.1 e1).1
   have e2:fs[j-(k+1)]?=some fs[j-(k+1)]:=As hfl;have e3:=nR _ _ e2;rw[show k+1+(j-(k+1))=j by omega]at e3;rw[tq,e3];exact pC _ _ _ e1 e2 (by rw[show k+1+(j-(k+1))=j by omega];exact rP)
  ·refine mem_ready.2 ⟨by rw[hL k hk];simp,o,h0,fun ed he hb=>?_⟩
   have:=(Bs.1 g1) ed (by simpa using he)
   simp only[hb,Bool.not_true,Lo,B9]at this;have h1:=hL ed.on (by omega);have Ds:ed.on<listed.size:=by omega
   simp[Ds]at h1⊢;rw[h1];simpa using this
  ·have:=Zl j hj
   rw[hL j this.2];simp;omega
  ·refine Wq l fs (k+1) _ _ Pf nR (by simp[hs]) (fun j hj=>?_) g5 hp
   by_cases ji:j=k
   ·subst ji
    have:j<listed.size:=by omega
    simp[this]
   ·rw[getD_set_ne true (Ne.symm ji),hL j hj]
    by_cases h1:j<k
    ·simp[h1];omega
    ·simp[h1];omega
theorem am{K:St→Prop}{st:St}(h:Wt cx ops ops.toList [] st K):Region.noSelect ops=true∧∃FT,Wp cx ops FT K ops.size (Array.replicate ops.size false) st:=by
 obtain⟨fs,h1,h2⟩:=Rm _ _ _ h;simp only[RG,List.reverse_nil,Fm,Af]at h1;refine⟨h1.1,fun j=>fs.getD j default,?_⟩
 have:=Wq (FT:=fun j=>fs.getD j default) ops.toList fs 0 (Array.replicate ops.size false) st (by simp) (fun j f hj=>by simp[hj]) (by simp) (fun j hj=>by simp[hj]) h1.2 h2
 simpa using this
end
end Go.Eng
