/- Lemmas for the claims of this seat, without a condition: part 11 (EngX, EngY, EngZ). -/
import Derived.Test.YtddfphmpfnmknaaGreatDoorCA10
namespace Go.Eng
section
variable {cx:Cx}{dst:Option Nat}{ty:Nat}{pos:String}{after:Array Edge}{gd:Option (Nat×Bool)}{st:St}{R:List Nat}{w:Option Nat}{K:HK}
theorem Y2{t:Nat}{p:Operand}(hk:FL cx true ⟨dst,.load t p,ty,pos,after,gd⟩ st K)(hf:Fb cx ⟨dst,.load t p,ty,pos,after,gd⟩ st=some (R,w)):Ee cx ⟨dst,.load t p,ty,pos,after,gd⟩ st R w K:=by
 simp only[FL]at hk;have hn:∀st2,IH ⟨dst,.load t p,ty,pos,after,gd⟩ R st st2→ev st2.t p=ev st.t p:=fun st2 ha=>ha.t p (by simp[Op.operands]);simp only[Fb]at hf;unfold H3 at hk;split at hf
 ·rename_i cs hp;cases hf;rw[hp]at hk;simp only at hk;exact .pick (H6 _ _ _) hk fun st2 ha K' h=>by simp only[FL,H3,hn st2 ha,hp];exact h
 ·rename_i r off hp;cases hf;rw[hp]at hk;simp only at hk;split at hk
  ·rename_i cs hr;exact .pick (H6 _ _ _) hk fun st2 ha K' h=>by simp only[FL,H3,hn st2 ha,hp,ha.h r (Ab ..),hr];exact h
  ·rename_i cs hr;exact .pick (H6 _ _ _) hk fun st2 ha K' h=>by simp only[FL,H3,hn st2 ha,hp,ha.h r (Ab ..),hr];exact h
  ·exact hk.elim
 ·rename_i r n sz i off hp;cases hf;rw[hp]at hk;simp only at hk;split at hk
  ·rename_i Gp es hr;split at hk
   ·rename_i hs;exact .pick (Dg (MN fun _=>Dg (H6 _ _ _))) hk fun st2 ha K' h=>by simp only[FL,H3,hn st2 ha,hp,ha.h r (Ab ..),hr,hs];exact h
   ·exact hk.elim
  ·rename_i Gp es i' c av hr;split at hk
   ·rename_i hs;exact .pick (Dg (H6 _ _ _)) hk fun st2 ha K' h=>by simp only[FL,H3,hn st2 ha,hp,ha.h r (Ab ..),hr,hs];exact h
   ·exact hk.elim
  ·exact hk.elim
 ·cases hf
theorem VY{x:Operand}(hk:FL cx true ⟨dst,.assign x,ty,pos,after,gd⟩ st K)(hf:Fb cx ⟨dst,.assign x,ty,pos,after,gd⟩ st=some (R,w)):Ee cx ⟨dst,.assign x,ty,pos,after,gd⟩ st R w K:=by
 simp only[FL]at hk;have hn:∀st2,IH ⟨dst,.assign x,ty,pos,after,gd⟩ R st st2→ev st2.t x=ev st.t x:=fun st2 ha=>ha.t x (by simp[Op.operands]);simp only[Fb]at hf;split at hf
 ·cases hf
 ·rename_i hx;cases hf;have same:∃y,∀(h:Nat→HO) (K:HK),Ob cx dst h (ev st.t x) K↔K y h:=by
   unfold Ob;cases dst with
   |none=>exact⟨_,fun _ _=>Ql⟩
   |some d =>
    simp only;cases Gz cx.pl.tok d with
    |some sz =>
     simp only;cases Nat.beq sz 0 with
     |true=>exact⟨_,fun _ _=>Ql⟩
     |false =>
      refine⟨ev st.t x,fun h K=>?_⟩;simp only;split
      ·rename_i e;exact absurd e (hx _ _ _)
      ·exact Ql
    |none =>
     simp only;cases Gz cx.pl.arr d with
     |some sz =>
      refine⟨ev st.t x,fun h K=>?_⟩;simp only;split
      ·rename_i e;exact absurd e (hx _ _ _)
      ·exact Ql
     |none=>exact⟨_,fun _ _=>Ql⟩
  obtain⟨y,same⟩:=same;exact .pick (CN y) ((same _ _).1 hk) fun st2 ha K' h=>by simp only[FL];rw[hn st2 ha];exact(same _ _).2 h
theorem QA{t:Nat}{x:Operand}{lo hi mx:Option Operand}(hp:No cx.pl.tok dst=none)(hk:FL cx true ⟨dst,.slice t x lo hi mx,ty,pos,after,gd⟩ st K)(hf:Fb cx ⟨dst,.slice t x lo hi mx,ty,pos,after,gd⟩ st=some (R,w)) :
  Ee cx ⟨dst,.slice t x lo hi mx,ty,pos,after,gd⟩ st R w K:=by
 simp only[FL,hp]at hk;have hn:∀st2,IH ⟨dst,.slice t x lo hi mx,ty,pos,after,gd⟩ R st st2→ev st2.t x=ev st.t x∧B3 st2.t lo=B3 st.t lo∧B3 st2.t hi=B3 st.t hi∧B3 st2.t mx=B3 st.t mx:=by
  intro st2 ha;have vT:∀y:Option Operand,(∀z,y=some z→ev st2.t z=ev st.t z)→B3 st2.t y=B3 st.t y:=by
   intro y hy;cases y with
   |none=>rfl
   |some z=>simp only[B3];rw[hy z rfl]
  exact⟨ha.t x (by simp[Op.operands]),vT lo (fun z e=>ha.t z (by simp[Op.operands,e])),vT hi (fun z e=>ha.t z (by simp[Op.operands,e])),vT mx (fun z e=>ha.t z (by simp[Op.operands,e]))⟩
 simp only[Fb,hp]at hf;split at hf
 ·cases hf
 ·rename_i hx;cases hf;have e3:B3 st.t none=some none:=rfl
  have Ir:F4 (fun K1=>Gm cx dst st.h t (ev st.t x) (B3 st.t lo) (B3 st.t hi) (some none) fun v _=>K1 v) ∧
    ∀(h:Nat→HO) (K:HK),Gm cx dst h t (ev st.t x) (B3 st.t lo) (B3 st.t hi) (some none) K↔Gm cx dst st.h t (ev st.t x) (B3 st.t lo) (B3 st.t hi) (some none) (fun v _=>K v h):=by
   generalize ev st.t x=X at hx;unfold Gm;constructor
   ·repeat' split
    all_goals first | exact Cm | exact Dg (CN _) | exact Dg (Dg (CN _)) | skip
    all_goals first | (rename_i e;cases e;done) | skip
    all_goals (exfalso;exact hx _ _ rfl)
   ·intro h K
    repeat' split
    all_goals first | exact Ql | skip
    all_goals exfalso
    all_goals first | exact hx _ _ rfl | (rename some none=some (some _)=>e4;cases e4)
  rw[e3]at hk;exact .pick Ir.1 ((Ir.2 _ _).1 hk) fun st2 ha K' h=>by
   obtain⟨n1,n2,n3,n4⟩:=hn st2 ha;simp only[FL,hp];rw[n1,n2,n3,n4,e3];exact(Ir.2 _ _).2 h
 ·rename_i y tk es hx;obtain⟨d,rfl,e0⟩:=Ip hf;cases e0;rw[hx]at hk;unfold Gm at hk;split at hk
  ·rename_i Hy LJ lW e1 e2 e3;split at hk
   ·split at hk<;>first | exact hk.elim | (rename_i e;cases e)
   ·rename_i e he;split at hk
    ·exact hk.elim
    ·rename_i k EC;simp only at hk;split at hk
     ·exfalso
      rename_i e4;simp only[B3]at e3;split at e3<;>cases e3
     ·rename_i m;split at hk
      ·rename some d=some _=>e5
       cases e5
       split at hk
       ·rename_i ng;refine⟨_,none,hk.2.2,fun r o' e=>(by cases e),fun st2 GQ K' h'=>?_⟩;obtain⟨n1,n2,n3,n4⟩:=hn st2 GQ;simp only[FL,hp];rw[n1,n2,n3,n4,hx,e1,e2,e3];unfold Gm;simp only[he];split
        ·rename_i e0;rw[EC]at e0;cases e0
        ·simp only[ng];exact⟨hk.1,hk.2.1,h'⟩
       rename_i ng;split at hk
       ·rename_i hd;refine⟨_,some (d,_),hk.2.2,fun r o' e=>(by cases e;exact⟨rfl,Ab ..⟩),fun st2 GQ K' h'=>?_⟩;obtain⟨n1,n2,n3,n4⟩:=hn st2 GQ;simp only[FL,hp];rw[n1,n2,n3,n4,hx,e1,e2,e3];unfold Gm;simp only[he];split
        ·rename_i e0;rw[EC]at e0;cases e0
        ·simp only[ng];rw[GQ.h d (Ab ..),hd];exact⟨hk.1,hk.2.1,h'⟩
       ·exact hk.elim
      ·exact hk.elim
   ·exact hk.elim
  ·exact hk.elim
 ·cases hf
theorem bS{t:Nat}{x:Operand}{lo hi mx:Option Operand}{p:Nat}(hp:No cx.pl.tok dst=some p)(hk:FL cx true ⟨dst,.slice t x lo hi mx,ty,pos,after,gd⟩ st K)(hf:Fb cx ⟨dst,.slice t x lo hi mx,ty,pos,after,gd⟩ st=some (R,w)) :
  Rk cx ⟨dst,.slice t x lo hi mx,ty,pos,after,gd⟩ st R w K:=by
 simp only[FL,hp]at hk;simp only[Fb,hp]at hf;obtain⟨d',r,n,hd,hx,e0⟩:=Y0 hf;cases e0;cases dst with
 |none=>cases hd
 |some d =>
 cases hd
 unfold Nh at hk;split at hk
 ·rw[hx]at hk;unfold gY at hk;split at hk
  ·rename_i d0 LJ e1 e2;cases e1;split at hk
   ·rename_i e he;split at hk
    ·exact hk.elim
    ·rename_i k EC;simp only at hk;split at hk
     ·rename_i sz es hr;split at hk
      ·rename_i hd;split at hk
       ·rename_i q1 q3;obtain⟨h1,hk⟩:=hk;have hr8:r<10000000∧0<Ks cx d:=by simpa using q3
        obtain⟨x9,hz⟩:=hr8;refine⟨_,[(r,.dead),(Ks cx d,_)],hk,fun r' o' e=>?_,fun st2 ha K' h'=>?_⟩
        ·rcases Av.1 e with e | e
         ·cases e
          refine⟨.inr (.inl ⟨by omega,.inl ?_⟩),Ab ..⟩;rw[Nat.add_mul_mod_self_left,Nat.mod_eq_of_lt x9]
         ·obtain e:=Am.1 e;cases e;refine⟨.inr (.inl ⟨by omega,.inr ?_⟩),Ag _ (Ab ..)⟩;rw[Nat.add_mul_div_left _ _ (by decide),Nat.div_eq_of_lt x9,Be]
        ·have o1:B3 st2.t hi=B3 st.t hi:=by
          cases hi with
          |none=>rfl
          |some z=>simp only[B3];rw[ha.t z (by simp[Op.operands])]
         simp only[FL,hp];unfold Nh;rw[ha.t x (by simp[Op.operands]),o1,hx,e2];unfold gY;simp only[he];split
         ·rename_i e0;rw[EC]at e0;cases e0
         ·simp only[ha.h r (Ab ..),hr,ha.h (Ks cx d) (Ag _ (Ab ..)),hd,q1,q3];exact⟨h1,h'⟩
       ·exact hk.elim
      ·exact hk.elim
     ·exact hk.elim
   ·exact hk.elim
  ·exact hk.elim
 ·exact hk.elim
theorem VX{s x:Operand}{GG:Array TypeId}(hk:FL cx true ⟨dst,.call ⟨.builtin .append,#[s,x],GG⟩,ty,pos,after,gd⟩ st K)(hf:Fb cx ⟨dst,.call ⟨.builtin .append,#[s,x],GG⟩,ty,pos,after,gd⟩ st=some (R,w)) :
  Ee cx ⟨dst,.call ⟨.builtin .append,#[s,x],GG⟩,ty,pos,after,gd⟩ st R w K:=by
 have hk:FW cx dst st.h .append GG.toList [ev st.t s,ev st.t x] K:=hk;have hf:VW cx dst (ev st.t s) (ev st.t x)=some (R,w):=hf;have hn:∀st2,IH ⟨dst,.call ⟨.builtin .append,#[s,x],GG⟩,ty,pos,after,gd⟩ R st st2→ev st2.t s=ev st.t s∧ev st2.t x=ev st.t x:=fun st2 ha =>
  ⟨ha.t s (by simp[Op.operands,Call.operands]),ha.t x (by simp[Op.operands,Call.operands])⟩
 have J5:∀st2,IH ⟨dst,.call ⟨.builtin .append,#[s,x],GG⟩,ty,pos,after,gd⟩ R st st2→∀K' : HK,FW cx dst st2.h .append GG.toList [ev st.t s,ev st.t x] K'→FL cx true ⟨dst,.call ⟨.builtin .append,#[s,x],GG⟩,ty,pos,after,gd⟩ st2 K':=by
  intro st2 ha K' h;rw[←(hn st2 ha).1,←(hn st2 ha).2]at h;exact h
 generalize GG.toList=l at hk J5
 match l,hk,J5 with
 | [t,t'],hk,J5 =>
  simp only[FW]at hk J5;split at hk
  ·rename_i ht;simp only[ht]at J5;unfold H8 at hk J5;split at hk
   ·rename_i e he;simp only[he]at J5;split at hk
    ·exact hk.elim
    ·rename_i hz;simp only[hz]at J5;split at hk
     ·exact hk.elim
     ·rename_i k EC;obtain⟨es2,q1,q2⟩:=YU hk;have pe:∀d,R=d::cA (ev st.t x)→∀st2,IH ⟨dst,.call ⟨.builtin .append,#[s,x],GG⟩,ty,pos,after,gd⟩ R st st2→∀r n,ev st.t x=.msl r n→st2.h r=st.h r:=fun d hR st2 ha r n e=>ha.h r (by rw[hR,e];simp[cA]);unfold VW at hf;split at hf
      ·rename_i hs;obtain⟨d,bY,e0⟩:=Ip hf;cases e0;rw[hs]at q1 J5;simp only at q1 J5;obtain⟨d',hd,v,y,q3,q4⟩:=Ib q1.2;rw[bY]at hd;cases hd;refine⟨v,some (d,y),q3,fun r o' e=>(by cases e;exact⟨rfl,Ab ..⟩),fun st2 GQ K' h'=>J5 st2 GQ K' ?_⟩;split
       ·rename_i e0;rw[EC]at e0;cases e0
       ·exact q2 st2.h (pe d rfl st2 GQ) _ ⟨q1.1,q4 st2.h (GQ.h d (Ab ..)) K' h'⟩
      ·rename_i Gp es hs;obtain⟨d,bY,e0⟩:=Ip hf;cases e0;rw[hs]at q1 J5;simp only at q1 J5;split at q1
       ·rename_i h1;obtain⟨d',hd,v,y,q3,q4⟩:=Ib q1.2;rw[bY]at hd;cases hd;refine⟨v,some (d,y),q3,fun r o' e=>(by cases e;exact⟨rfl,Ab ..⟩),fun st2 GQ K' h'=>J5 st2 GQ K' ?_⟩;split
        ·rename_i e0;rw[EC]at e0;cases e0
        ·refine q2 st2.h (pe d rfl st2 GQ) _ ?_;simp only[h1];exact⟨q1.1,q4 st2.h (GQ.h d (Ab ..)) K' h'⟩
       ·exact q1.elim
      ·rename_i r Gp es hs;cases hf;rw[hs]at q1 J5;simp only at q1 J5;split at q1
       ·rename_i sz n hr;split at q1
        ·rename_i h1 h2;refine⟨_,some (r,_),q1.2,fun r o' e=>(by cases e;exact⟨rfl,Ab ..⟩),fun st2 GQ K' h'=>J5 st2 GQ K' ?_⟩;split
         ·rename_i e0;rw[EC]at e0;cases e0
         ·refine q2 st2.h (pe r rfl st2 GQ) _ ?_;simp only[GQ.h r (Ab ..),hr,h1,h2];exact⟨q1.1,h'⟩
        ·exact q1.elim
       ·exact q1.elim
      ·rename_i r n hs;cases hf;rw[hs]at q1 J5;simp only at q1 J5;split at q1
       ·rename_i sz es hr;split at q1
        ·rename_i h1;refine⟨_,some (r,_),q1.2,fun r o' e=>(by cases e;exact⟨rfl,Ab ..⟩),fun st2 GQ K' h'=>J5 st2 GQ K' ?_⟩;split
         ·rename_i e0;rw[EC]at e0;cases e0
         ·refine q2 st2.h (pe r rfl st2 GQ) _ ?_;simp only[GQ.h r (Ab ..),hr,h1];exact⟨q1.1,h'⟩
        ·exact q1.elim
       ·exact q1.elim
      ·cases hf
   ·exact hk.elim
  ·exact hk.elim
 | [],hk,_=>exact hk.elim
 | [_],hk,_=>exact hk.elim
 |_::_::_::_,hk,_=>exact hk.elim
theorem Vc(T:Gr)(t:Nat):F4 (Ke T t):=by
 unfold Ke
 repeat' split
 all_goals first | exact Cm | exact CN _
theorem Ts(T:Gr)(ty:Nat)(ok:Bool)(BW:List (Value×AV))(kx:Value):F4 (LX T ty ok BW kx):=by
 unfold LX
 repeat' split
 ·refine aI (MN fun a=>Dg (CN _)) (Dg ?_);intro K hk;obtain⟨v,h1,h2⟩:=Vc T _ _ hk;exact⟨_,h1,fun K' h=>h2 _ h⟩
 ·exact aI (MN fun a=>Dg (CN _)) (Dg (Vc T _))
 ·exact Cm
theorem Yh(T:Gr)(ty:Nat)(sh:EG)(k:AV){F:Value→(AV→Prop)→Prop}(h:∀x,F4 (F x)):F4 fun K=>J8 T ty sh k fun kx=>F kx K:=by
 unfold J8
 repeat' split
 all_goals first | exact Cm | exact h _
theorem VZ{t:Nat}{m k:Operand}{ok:Bool}(hk:FL cx true ⟨dst,.lookup t m k ok,ty,pos,after,gd⟩ st K)(hf:Fb cx ⟨dst,.lookup t m k ok,ty,pos,after,gd⟩ st=some (R,w)) :
  Ee cx ⟨dst,.lookup t m k ok,ty,pos,after,gd⟩ st R w K:=by
 simp only[FL]at hk;have hn:∀st2,IH ⟨dst,.lookup t m k ok,ty,pos,after,gd⟩ R st st2→ev st2.t m=ev st.t m∧ev st2.t k=ev st.t k:=fun st2 ha=>⟨ha.t m (by simp[Op.operands]),ha.t k (by simp[Op.operands])⟩;simp only[Fb]at hf;unfold MF at hk;split at hf
 ·rename_i sh BW hm;cases hf;rw[hm]at hk;simp only at hk;exact .pick (Yh _ _ _ _ fun _=>Ts _ _ _ _ _) hk fun st2 ha K' h=>by simp only[FL,MF,hn st2 ha,hm];exact h
 ·rename_i r hm;cases hf;rw[hm]at hk;simp only at hk;split at hk
  all_goals first | exact hk.elim | (rename_i e;exact .pick (Yh _ _ _ _ fun _=>Ts _ _ _ _ _) hk fun st2 ha K' h=>by simp only[FL,MF,hn st2 ha,hm,ha.h r (Ab ..),e];exact h)
 ·cases hf
theorem gV(T:Gr)(t:Nat)(h:Nat→HO)(x:AV):F4 (QH T t h x):=by
 unfold QH
 repeat' split
 all_goals first | exact Cm | exact CN _
theorem nU{T:Gr}{t:Nat}{h h2:Nat→HO}{x:AV}(e:∀r,x=.mref r→h2 r=h r){K:AV→Prop}:QH T t h2 x K=QH T t h x K:=by
 cases x<;>first | rfl | skip
 rename_i r;unfold QH;simp only[e r rfl]
theorem bR{x:Operand}{GG:Array TypeId}(hk:FL cx true ⟨dst,.call ⟨.builtin .len,#[x],GG⟩,ty,pos,after,gd⟩ st K)(hf:Fb cx ⟨dst,.call ⟨.builtin .len,#[x],GG⟩,ty,pos,after,gd⟩ st=some (R,w)) :
  Ee cx ⟨dst,.call ⟨.builtin .len,#[x],GG⟩,ty,pos,after,gd⟩ st R w K:=by
 have hk:FW cx dst st.h .len GG.toList [ev st.t x] K:=hk;have hf:GL cx dst (.builtin .len) st.t [ev st.t x]=some (R,w):=hf;have hn:∀st2,IH ⟨dst,.call ⟨.builtin .len,#[x],GG⟩,ty,pos,after,gd⟩ R st st2→ev st2.t x=ev st.t x:=fun st2 ha=>ha.t x (by simp[Op.operands,Call.operands]);have J5:∀st2,IH ⟨dst,.call ⟨.builtin .len,#[x],GG⟩,ty,pos,after,gd⟩ R st st2→∀K' : HK,FW cx dst st2.h .len GG.toList [ev st.t x] K'→FL cx true ⟨dst,.call ⟨.builtin .len,#[x],GG⟩,ty,pos,after,gd⟩ st2 K':=by
  intro st2 ha K' h;rw[←hn st2 ha]at h;exact h
 generalize GG.toList=l at hk J5
 match l,hk,J5 with
 | [t],hk,J5 =>
  have hR:∀r,ev st.t x=.mref r→r∈R:=fun r e=>by
   rw[e]at hf;cases hf;exact Ab ..
  have hw:w=none:=by
   unfold GL at hf;split at hf<;>first | (cases hf;rfl) | (rename_i e;cases e) | (rename_i e _;cases e) | skip
   all_goals (cases hf)
  subst hw;exact .pick (gV _ _ _ _) hk fun st2 ha K' h=>J5 st2 ha K' (by
   simp only[FW];rw[nU fun r e=>ha.h r (hR r e)];exact h)
 | [],hk,_=>exact hk.elim
 |_::_::_,hk,_=>exact hk.elim
end
theorem kk{l:List Nat}{n:Nat}(h:IE l n=true):n∈l:=by
 induction l with
 |nil=>cases h
 |cons a l ih =>
  unfold IE at h
  by_cases e:a=n
  ·exact e▸Ab ..
  ·rw[Cw e]at h;exact Ag _ (ih h)
theorem Xa(G:Nat→HO):∀(σ:IR) (h:Nat→HO),Ek σ=true→(fun i=>match Cf σ i with | some j=>G j | none=>h i)=HZ h (σ.map fun p=>(p.1,G p.2))
 | [],h,_=>rfl
 |(i,j)::r,h,hσ=>by
  unfold Ek at hσ;simp only[Af]at hσ;have ih:=Xa G r (AR h i (G j)) hσ.2;show _=HZ (AR h i (G j)) (r.map fun p=>(p.1,G p.2));rw[←ih]
  funext i'
  have hn:Cf r i=none:=by
   have:=hσ.1.1.1
   cases e:Cf r i with
   |none=>rfl
   |some k=>rw[e]at this;simp at this
  by_cases e:i'=i
  ·subst e;have e1:Cf ((i',j)::r) i'=some j:=by unfold Cf;rw[CK];rfl
   rw[e1,hn];show G j=AR h i' (G j) i';unfold AR;rw[CK];rfl
  ·have e1:Cf ((i,j)::r) i'=Cf r i':=by
    show(bif Nat.beq i i' then some j else Cf r i')=_;rw[Cw (TZ e)];rfl
   rw[e1];cases Cf r i' with
   |some k=>rfl
   |none=>show h i'=AR h i (G j) i';unfold AR;rw[Cw e];rfl
theorem Ux{σ:IR}{d:Nat}(hσ:Ek σ=true){h h' : Nat→HO}:D6 σ d 0 h h'=HZ h (σ.map fun p=>(p.1,(h' p.2).ren (E3 σ d 0) h')):=by
 rw[←Xa (fun j=>(h' j).ren (E3 σ d 0) h') σ h hσ]
 funext i
 unfold D6;cases Cf σ i with
 |some j=>rfl
 |none =>
  have:(Nat.ble (Bp d 0) i&&Nat.blt i (Bp d 0))=false:=by
   rw[AM];simp only[U6,Af,CT,Ca];omega
  simp only[this]
section
variable {cx:Cx}{op:Op}{dst:Option Nat}{ty:Nat}{pos:String}{after:Array Edge}{gd:Option (Nat×Bool)}{st:St}{R:List Nat}{w:Option Nat}{K:HK}
theorem Ee.toL(h:Ee cx ⟨dst,op,ty,pos,after,gd⟩ st R w K):Rk cx ⟨dst,op,ty,pos,after,gd⟩ st R w K:=by
 obtain⟨v,e,h1,h2,h3⟩:=h;cases e with
 |none=>exact⟨v,[],h1,fun r o' e=>(by cases e),h3⟩
 |some p=>exact⟨v,[p],h1,fun r o' e=>by
   obtain rfl:=Am.1 e;obtain⟨a,b⟩:=h2 r o' rfl;exact⟨by rw[a];exact .inl rfl,b⟩,h3⟩
theorem Y1{c:Call}(hk:FL cx true ⟨dst,.call c,ty,pos,after,gd⟩ st K)(hf:Fb cx ⟨dst,.call c,ty,pos,after,gd⟩ st=some (R,w)):Rk cx ⟨dst,.call c,ty,pos,after,gd⟩ st R w K:=by
 obtain⟨mR,args,GG⟩:=c;have Jc:∀st2,IH ⟨dst,.call ⟨mR,args,GG⟩,ty,pos,after,gd⟩ R st st2→args.toList.map (ev st2.t)=args.toList.map (ev st.t):=fun st2 ha =>
  A9 fun x hx=>ha.t x (by simp only[Op.operands,Call.operands,RD];exact .inr (by simpa using hx))
 cases mR with
 |invoke r m=>exact hk.elim
 |value f =>
  have hk:Gg cx true dst st (ev st.t f) (args.toList.map (ev st.t)) K:=hk;have hf:GL cx dst (.value f) st.t (args.toList.map (ev st.t))=some (R,w):=hf;unfold GL at hf;unfold Gg at hk;simp only at hf hk;have hn:=Jc;split at hf
  ·rename_i ah;rw[ah]at hk;cases hf;obtain⟨res,h1,h2⟩:=hk;refine Ee.toL ⟨res,none,h2,fun r o' e=>(by cases e),fun st2 ha K' h'=>?_⟩;show Gg cx true dst st2 (ev st2.t f) (args.toList.map (ev st2.t)) K';rw[Jc st2 ha,ha.t f (by simp[Op.operands,Call.operands])];unfold Gg;simp only[ah];refine⟨res,?_,h'⟩;rw[KN (h:=st.h) (fun r hr=>ha.h r (Bn _ hr)),Qd (h:=st.h) (fun r hr=>ha.h r (Bf _ hr))];exact h1
  ·rename_i ah;rw[ah]at hk;simp only at hk;cases dst with
   |none=>exact hk.elim
   |some d =>
    obtain⟨n,sz,es,h1,h2,h3⟩:=hk;have hf:some (Bp d 0::(WM (ev st.t f)++SK (args.toList.map (ev st.t))),some (Bp d 0))=some (R,w):=hf;cases hf;refine Ee.toL ⟨_,some (Bp d 0,_),h3,fun r o' e=>(by cases e;exact⟨rfl,Ab ..⟩),fun st2 ha K' h'=>?_⟩;show Gg cx true (some d) st2 (ev st2.t f) (args.toList.map (ev st2.t)) K';rw[Jc st2 ha,ha.t f (by simp[Op.operands,Call.operands])];unfold Gg;simp only[ah];refine⟨n,sz,es,?_,?_,h'⟩
    ·have:Dv st2.h d 1=Dv st.h d 1:=by simp only[Dv,ha.h (Bp d 0) (Ab ..)]
     rw[this];exact h1
    ·rw[KN (h:=st.h) (fun r hr=>ha.h r (Ag _ (Bn _ hr))),Qd (h:=st.h) (fun r hr=>ha.h r (Ag _ (Bf _ hr)))];exact h2
  ·rename_i ah;rw[ah]at hk;have hk:QV cx 0 dst st.h (ev st.t f) (args.toList.map (ev st.t)) K:=hk;split at hf
   ·rename_i r n l hl;cases hf;have Ir:=hk;unfold QV at Ir;rw[hl]at Ir;split at Ir
    ·rename_i d0 f0 r0 n0 l0 e1 e2 z1 z2;cases e2;split at Ir
     ·rename_i vs dK;split at Ir
      ·rename_i sz es hr;obtain⟨n',Fy,h1,h2⟩:=Ir;refine Ee.toL ⟨_,some (r,_),h2,fun r o' e=>(by cases e;exact⟨rfl,Ab ..⟩),fun st2 ha K' h'=>?_⟩;show Gg cx true _ st2 (ev st2.t f) (args.toList.map (ev st2.t)) K';rw[Jc st2 ha,ha.t f (by simp[Op.operands,Call.operands]),hl,e1];unfold Gg;simp only[ah];unfold Pa;simp only;unfold QV;simp only[dK,ha.h r (Ab ..),hr];exact⟨n',Fy,h1,h'⟩
      ·exact Ir.elim
     ·exact Ir.elim
    ·exact Ir.elim
   ·cases hf
  ·rename_i k ah;rw[ah]at hk;cases hb:Nat.beq k 1 with
   |true =>
    have SE:Nat.beq (k+1) 2=true:=hb;have hk:TO cx dst st (ev st.t f) (args.toList.map (ev st.t)) K:=by
     have Ir:(match Nat.beq (k+1) 2 with | true=>TO cx dst st (ev st.t f) (args.toList.map (ev st.t)) K | false=>match Nat.beq (k+1) 3 with | true=>Qj cx dst st (ev st.t f) (args.toList.map (ev st.t)) K | false=>Pa cx (k+1) dst st (ev st.t f) (args.toList.map (ev st.t)) K):=hk;rw[SE]at Ir;exact Ir
    rw[hb]at hf;cases dst with
    |none=>exact hk.elim
    |some d =>
     obtain⟨sz,es,h1,h2,h3⟩:=hk;have hf:some (Bp d 0::(WM (ev st.t f)++SK (args.toList.map (ev st.t))),some (Bp d 0))=some (R,w):=hf;cases hf;refine Ee.toL ⟨_,some (Bp d 0,_),h3,fun r o' e=>(by cases e;exact⟨rfl,Ab ..⟩),fun st2 ha K' h'=>?_⟩;show Gg cx true (some d) st2 (ev st2.t f) (args.toList.map (ev st2.t)) K';rw[Jc st2 ha,ha.t f (by simp[Op.operands,Call.operands])];unfold Gg;simp only[ah,SE];refine⟨sz,es,?_,?_,h'⟩
     ·have:Dv st2.h d 1=Dv st.h d 1:=by simp only[Dv,ha.h (Bp d 0) (Ab ..)]
      rw[this];exact h1
     ·rw[KN (h:=st.h) (fun r hr=>ha.h r (Ag _ (Bn _ hr))),Qd (h:=st.h) (fun r hr=>ha.h r (Ag _ (Bf _ hr)))];exact h2
   |false =>
    have SE:Nat.beq (k+1) 2=false:=hb;rw[hb]at hf;have Ir:(match Nat.beq (k+1) 2 with | true=>TO cx dst st (ev st.t f) (args.toList.map (ev st.t)) K | false=>match Nat.beq (k+1) 3 with | true=>Qj cx dst st (ev st.t f) (args.toList.map (ev st.t)) K | false=>Pa cx (k+1) dst st (ev st.t f) (args.toList.map (ev st.t)) K):=hk;rw[SE]at Ir;cases hc:Nat.beq k 2 with
    |true =>
     have oX:Nat.beq (k+1) 3=true:=hc;rw[hc]at hf;simp only[oX]at Ir;have hf:fc (args.toList.map (ev st.t))=some (R,w):=hf;unfold fc at hf;unfold Qj at Ir;split at hf
     ·rename_i vs dK;cases hf;split at Ir
      ·rename_i l dM e1 e2 z1 z2;rw[dK]at e2;cases e2;split at Ir
       ·rename_i r sz es aW n e3 e4;obtain⟨⟨rfl,rfl⟩,v,Fy,n',h1,h2⟩:=Ir;refine⟨_,[(1001,_),(1000,_)],h2,fun r' o' e=>?_,fun st2 ha K' h'=>?_⟩
        ·rcases Av.1 e with e | e
         ·cases e
          exact⟨.inr (.inl ⟨by decide,.inr (by decide)⟩),by simp⟩
         ·obtain e:=Am.1 e;cases e;exact⟨.inr (.inl ⟨by decide,.inl (by decide)⟩),by simp⟩
        show Gg cx true _ st2 (ev st2.t f) (args.toList.map (ev st2.t)) K';rw[Jc st2 ha,ha.t f (by simp[Op.operands,Call.operands]),e1];unfold Gg;simp only[ah,SE,oX];unfold Qj;simp only[dK,ha.h 1000 (by simp),ha.h 1001 (by simp),e3,e4];exact⟨⟨trivial,trivial⟩,v,Fy,n',h1,h'⟩
       ·exact Ir.elim
      ·exact Ir.elim
     ·cases hf
    |false =>
    have oX:Nat.beq (k+1) 3=false:=hc;rw[hc]at hf;have UR:Pa cx (k+1) dst st (ev st.t f) (args.toList.map (ev st.t)) K:=by
     simp only[oX]at Ir;exact Ir
    have nl:eZ k dst (args.toList.map (ev st.t))=some (R,w):=hf;unfold eZ at nl;unfold Pa at UR;cases he:Nat.beq k 3 with
    |true =>
     have dH:Nat.beq (k+1) 4=true:=he;rw[he]at nl;rw[dH]at UR;have nl:some (jA,some VD)=some (R,w):=nl;have UR:Xv cx dst st (ev st.t f) (args.toList.map (ev st.t)) K:=UR;cases nl;unfold Xv at UR;split at UR
     ·rename_i d f' e2 _ _ _;obtain⟨σ,H0,Hn,args',res,g1,g2,g3,g4⟩:=UR;simp only[Af]at g2;refine⟨_,σ.map fun p=>(p.1,(Ai Hn Aa p.2).ren (E3 σ d 0) (Ai Hn Aa)),(Ux (h:=st.h) (h':=Ai Hn Aa) (d:=d) g2.1.1)▸g4,fun r' o' e=>?_,fun st2 ha K' h'=>?_⟩
      ·obtain⟨p,hp,e⟩:=Aj.1 e;cases e;exact⟨.inr (.inr rfl),kk (Bk.1 g2.2 p hp)⟩
      ·show Gg cx true _ st2 (ev st2.t f) (args.toList.map (ev st2.t)) K';rw[Jc st2 ha,ha.t f (by simp[Op.operands,Call.operands])];unfold Gg;simp only[ah,SE,oX];unfold Pa;simp only[dH];unfold Xv;rw[e2];refine⟨σ,H0,Hn,args',res,fun h2 hh=>g1 h2 fun r hr=>(hh r hr).trans (ha.h r hr),by simp only[Af];exact g2,g3,?_⟩;rw[Ux (h:=st2.h) (h':=Ai Hn Aa) (d:=d) g2.1.1];exact h'
     ·exact UR.elim
    |false =>
    have dH:Nat.beq (k+1) 4=false:=he;rw[he]at nl;rw[dH]at UR;have hf:ZY dst (args.toList.map (ev st.t))=some (R,w):=nl;have hk:QV cx (k+1) dst st.h (ev st.t f) (args.toList.map (ev st.t)) K:=UR;obtain⟨d,r,n,l,rfl,hl,e0⟩:=YZ hf;cases e0;unfold QV at hk;rw[hl]at hk;split at hk
    ·rename_i d0 f0 r0 n0 l0 e9 e1 e2;cases e9;cases e2;split at hk
     ·rename_i vs dK;split at hk
      ·rename_i sz es hr;obtain⟨n',Fy,h0,h1,h2⟩:=hk;have ug:=h0;simp only[Af,Ca]at ug;refine⟨_,[(r,.dead),(Bp d 0,_)],h2,fun r' o' e=>?_,fun st2 ha K' h'=>?_⟩
       ·rcases Av.1 e with e | e
        ·cases e
         refine⟨.inr (.inl ⟨by unfold Bp;omega,.inl ?_⟩),Ab ..⟩;rw[Nat.add_mul_mod_self_left,Nat.mod_eq_of_lt ug.1.2]
        ·obtain e:=Am.1 e;cases e;refine⟨.inr (.inl ⟨by unfold Bp;omega,.inr ?_⟩),Ag _ (Ab ..)⟩;rw[Nat.add_mul_div_left _ _ (by decide),Nat.div_eq_of_lt ug.1.2,Be]
       show Gg cx true _ st2 (ev st2.t f) (args.toList.map (ev st2.t)) K';rw[Jc st2 ha,ha.t f (by simp[Op.operands,Call.operands]),hl,e1];unfold Gg;simp only[ah,SE,oX];unfold Pa;simp only[dH];unfold QV;simp only[dK,ha.h r (Ab ..),hr]
       have:Dv st2.h d 1=Dv st.h d 1:=by simp only[Dv,ha.h (Bp d 0) (Ag _ (Ab ..))]
       exact⟨n',Fy,by rw[this];exact h0,h1,h'⟩
      ·exact hk.elim
     ·exact hk.elim
    ·exact hk.elim
 |builtin b =>
  refine Ee.toL ?_;have mm:∀f:Int→Int→Int,(∀(d:Option Nat) (h:Nat→HO) (GG:List Nat) (args:List AV) (K:HK),FW cx d h b GG args K=(match args with | [x,y]=>km f x y fun v=>K v h | _=>False))→R=[]∧w=none→Ee cx ⟨dst,.call ⟨.builtin b,args,GG⟩,ty,pos,after,gd⟩ st R w K:=by
   rintro f hb ⟨rfl,rfl⟩
   have hk:FW cx dst st.h b GG.toList (args.toList.map (ev st.t)) K:=hk;rw[hb]at hk;split at hk
   ·rename_i x y e;refine .pick (kH f x y) hk fun st2 ha K' h=>?_;show FW cx dst st2.h b GG.toList (args.toList.map (ev st2.t)) K';rw[hb,Jc st2 ha,e];exact h
   ·exact hk.elim
  cases b
  case max=>exact mm max (fun d h GG args K=>by cases args with | nil=>rfl | cons x l=>cases l with | nil=>rfl | cons y l=>cases l<;>rfl) (by
   have hf:GL cx dst (.builtin .max) st.t (args.toList.map (ev st.t))=some (R,w):=hf;simp only[GL]at hf;cases hf;exact⟨rfl,rfl⟩)
  case min=>exact mm min (fun d h GG args K=>by cases args with | nil=>rfl | cons x l=>cases l with | nil=>rfl | cons y l=>cases l<;>rfl) (by
   have hf:GL cx dst (.builtin .min) st.t (args.toList.map (ev st.t))=some (R,w):=hf;simp only[GL]at hf;cases hf;exact⟨rfl,rfl⟩)
  case append =>
   obtain⟨l⟩:=args
   match l,hk,hf with
   | [s,x],hk,hf=>exact VX hk hf
   | [],hk,hf=>cases GG;exact hk.elim
   | [_],hk,hf=>exact hk.elim
   |_::_::_::_,hk,hf=>exact hk.elim
  case len =>
   obtain⟨l⟩:=args
   match l,hk,hf with
   | [x],hk,hf=>exact bR hk hf
   | [],hk,hf=>exact hk.elim
   |_::_::_,hk,hf=>exact hk.elim
  all_goals exact hk.elim
theorem YG{o:Oper}(hc:∀c,o.op≠.call c)(hs:(∃t x lo hi mx,o.op=.slice t x lo hi mx)→No cx.pl.tok o.dst=none)(hk:FL cx true o st K)(hf:Fb cx o st=some (R,w)):Ee cx o st R w K:=by
 obtain⟨dst,op,ty,pos,after,gd⟩:=o;cases op with
 |call c=>exact absurd rfl (hc c)
 |alloc e=>exact Xp hk hf
 |box e x=>exact bQ hk hf
 |buildSlice t n ps=>exact Pz hk hf
 |makeSlice t n c=>exact QZ hk hf
 |makeMap t r=>exact T6 hk hf
 |store t p x=>exact Xq hk hf
 |mapUpdate t m k x=>exact Q0 hk hf
 |makeFunc fn first cap=>exact Sw hk hf
 |load t p=>exact Y2 hk hf
 |assign x=>exact VY hk hf
 |slice t x lo hi mx=>exact QA (hs ⟨t,x,lo,hi,mx,rfl⟩) hk hf
 |lookup t x i ok=>exact VZ hk hf
 |move x =>
  cases hf
  exact .pick (CN _) hk fun st2 ha K' h=>by simp only[FL,ha.t x (by simp[Op.operands])];exact h
 |pick c a b =>
  cases hf
  exact .pick (c9 _ _ _) hk fun st2 ha K' h=>by simp only[FL,ha.t c (by simp[Op.operands]),ha.t a (by simp[Op.operands]),ha.t b (by simp[Op.operands])];exact h
 |nilCheck x =>
  cases hf
  exact .pick (gW _) hk fun st2 ha K' h=>by simp only[FL,ha.t x (by simp[Op.operands])];exact h
 |binOp op t x y u =>
  simp only[Fb]at hf;split at hf
  ·cases hf
  ·rename_i hx;cases hf;exact .pick (cZ _ _ _ _ _ _ hx) hk fun st2 ha K' h=>by simp only[FL,ha.t x (by simp[Op.operands]),ha.t y (by simp[Op.operands])];exact h
 |unOp op t x =>
  cases hf
  exact .pick (da _ _) hk fun st2 ha K' h=>by simp only[FL,ha.t x (by simp[Op.operands])];exact h
 |convert s t x =>
  cases hf
  exact .pick (c8 _ _ _ _) hk fun st2 ha K' h=>by simp only[FL,ha.t x (by simp[Op.operands])];exact h
 |fieldAddr s x f =>
  cases hf
  exact .pick (Zw _ _ _ _) hk fun st2 ha K' h=>by simp only[FL,ha.t x (by simp[Op.operands])];exact h
 |field s x f =>
  cases hf
  exact .pick (Yg _ _ _ _) hk fun st2 ha K' h=>by simp only[FL,ha.t x (by simp[Op.operands])];exact h
 |indexAddr t x i =>
  cases hf
  exact .pick (Tt _ _ _ _) hk fun st2 ha K' h=>by simp only[FL,ha.t x (by simp[Op.operands]),ha.t i (by simp[Op.operands])];exact h
 |index t x i =>
  cases hf
  exact .pick (Zx _ _ _ _) hk fun st2 ha K' h=>by simp only[FL,ha.t x (by simp[Op.operands]),ha.t i (by simp[Op.operands])];exact h
 |extract x i =>
  cases hf
  exact .pick (Ws _ _) hk fun st2 ha K' h=>by simp only[FL,ha.t x (by simp[Op.operands])];exact h
 |build t ps =>
  cases hf
  refine .pick (Zv _ _ _ _) hk fun st2 ha K' h=>?_;have hx:∀p∈ps.toList,ev st2.t p.2=ev st.t p.2:=fun p hp=>ha.t p.2 (by
   simp only[Op.operands,List.mem_toArray];exact Aj.2 ⟨p,hp,rfl⟩)
  simp only[FL];have fill:∀(pl:Nat→Option (Nat×Nat)) (l:List (Nat×Operand)) (cs:List AV) (K:List AV→Prop),(∀p∈l,ev st2.t p.2=ev st.t p.2)→Ku pl cs st2.t l K=Ku pl cs st.t l K:=by
   intro pl l
   induction l with
   |nil=>intro cs K _;rfl
   |cons p l ih =>
    intro cs K hp;obtain⟨i,x⟩:=p;have h1:ev st2.t x=ev st.t x:=hp (i,x) (Ab ..);have h2:∀cs,Ku pl cs st2.t l K=Ku pl cs st.t l K:=fun cs=>ih cs K (fun p nE=>hp p (Ag _ nE));simp only[Ku,h1,h2]
  unfold Pr at h⊢;simp only[fill _ _ _ _ hx];exact h
 |_=>cases hf
theorem bp{o:Oper}(hk:FL cx true o st K)(hf:Fb cx o st=some (R,w)):Rk cx o st R w K:=by
 obtain⟨dst,op,ty,pos,after,gd⟩:=o
 by_cases h:∃c,op=.call c
 ·obtain⟨c,rfl⟩:=h;exact Y1 hk hf
 ·by_cases h2:∃t x lo hi mx,op=.slice t x lo hi mx
  ·obtain⟨t,x,lo,hi,mx,rfl⟩:=h2;cases hp:No cx.pl.tok dst with
   |none=>exact Ee.toL (QA hp hk hf)
   |some p=>exact bS hp hk hf
  ·exact Ee.toL (YG (fun c e=>h ⟨c,e⟩) (fun e=>absurd e h2) hk hf)
end
theorem UN{cx:Cx}{o:Oper}{st st2:St}(h:∀x∈o.op.operands,ev st2.t x=ev st.t x):Fb cx o st2=Fb cx o st:=by
 obtain⟨dst,op,ty,pos,after,gd⟩:=o;cases op with
 |call c =>
  obtain⟨mR,args,GG⟩:=c;have ha:args.toList.map (ev st2.t)=args.toList.map (ev st.t):=A9 fun x hx=>h x (by simp only[Op.operands,Call.operands,RD];exact .inr (by simpa using hx));simp only[Fb];rw[ha];cases mR with
  |value f =>
   have hf:ev st2.t f=ev st.t f:=h f (by simp[Op.operands,Call.operands]);simp only[GL,hf]
  |builtin b =>
   generalize args.toList.map (ev st.t)=l
   match l with
   | []=>cases b<;>rfl
   | [x]=>cases b<;>cases x<;>rfl
   | [x,y]=>cases b<;>cases x<;>rfl
   |x::_::_::_=>cases b<;>cases x<;>rfl
  |invoke r m=>rfl
 |box e x=>simp only[Fb,h x (by simp[Op.operands])]
 |buildSlice t n ps =>
  have hx:ps.toList.map (fun p=>ev st2.t p.2)=ps.toList.map (fun p=>ev st.t p.2):=A9 fun p hp=>h p.2 (by
   simp only[Op.operands,List.mem_toArray];exact Aj.2 ⟨p,hp,rfl⟩)
  simp only[Fb,hx]
 |store t p x=>simp only[Fb,h p (by simp[Op.operands]),h x (by simp[Op.operands])]
 |mapUpdate t m k x=>simp only[Fb,h m (by simp[Op.operands]),h x (by simp[Op.operands])]
 |makeFunc fn first cap =>
  have hx:cap.toList.map (ev st2.t)=cap.toList.map (ev st.t):=A9 fun x hx=>h x (by simp only[Op.operands,RD];exact .inr (by simpa using hx));simp only[Fb,hx]
 |load t p=>simp only[Fb,h p (by simp[Op.operands])]
 |assign x=>simp only[Fb,h x (by simp[Op.operands])]
 |binOp op t x y u=>simp only[Fb,h x (by simp[Op.operands])]
 |slice t x lo hi mx=>simp only[Fb,h x (by simp[Op.operands])]
 |lookup t x i ok=>simp only[Fb,h x (by simp[Op.operands])]
 |_=>rfl
def Kl(ops:Array Oper)(o:Oper)(st st2:St):Prop:=∀d∈o.looksAt ops,st2.t d=st.t d
theorem Kl.operands{ops:Array Oper}{o:Oper}{st st2:St}(h:Kl ops o st st2):∀x∈o.op.operands,ev st2.t x=ev st.t x:=fun x hx=>by
 cases x with
 |tmp t=>exact h t (Bn _ (List.mem_filterMap.2 ⟨.tmp t,by simpa using hx,rfl⟩))
 |_=>rfl
theorem U8(ops:Array Oper)(j:Nat):Ka ops.toList j=(ops[j]?).bind (·.dst):=by
 have:∀(l:List Oper) (j:Nat),Ka l j=(l[j]?).bind (·.dst):=by
  intro l
  induction l with
  |nil=>intro j;simp[Ka]
  |cons o l ih =>
   intro j;cases j with
   |zero=>simp[Ka]
   |succ j=>simp[Ka,ih]
 rw[this];simp
theorem Kl.guard{ops:Array Oper}{o:Oper}{st st2:St}(h:Kl ops o st st2){j:Nat}{b:Bool}(hg:o.guard=some (j,b)){d:Nat}(hd:Ka ops.toList j=some d):st2.t d=st.t d :=
 h d (Bf _ (by rw[hg];simp only;rw[←U8,hd];simp))
def St.after(st:St)(o:Oper)(v:AV)(e:List (Nat×HO)):St:=st.put o.dst v (HZ st.h e)
def Po(cx:Cx)(ops:Array Oper)(o:Oper)(st:St)(f:Fs)(v:AV)(e:List (Nat×HO)):Prop :=
 (∀r o',(r,o')∈e→RF f.2 r∧r∈f.1)∧∀st2,Kl ops o st st2→(∀r∈f.1,st2.h r=st.h r)→∀K:St→Prop,K (st2.after o v e)→G4 cx true ops.toList o st2 K
theorem Sv{cx:Cx}{ops:Array Oper}{o:Oper}{st st2:St}(h:Kl ops o st st2):M7 cx ops.toList o st2=M7 cx ops.toList o st:=by
 unfold M7;split
 ·exact UN h.operands
 ·rename_i j want hg;split
  ·rfl
  ·rename_i d hd;simp only[h.guard hg hd];split<;>first | exact UN h.operands | rfl
theorem Oa{cx:Cx}{ops:Array Oper}{o:Oper}{st:St}{f:Fs}{K:St→Prop}(hk:G4 cx true ops.toList o st K)(hf:M7 cx ops.toList o st=some f) :
  ∃v e,Po cx ops o st f v e∧K (st.after o v e):=by
 obtain⟨R,w⟩:=f;have skip:R=[]∧w=none→K (st.put o.dst (.v undef) st.h)→(∀st2,Kl ops o st st2→∀K:St→Prop,K (st2.put o.dst (.v undef) st2.h)→G4 cx true ops.toList o st2 K)→∃v e,Po cx ops o st (R,w) v e∧K (st.after o v e):=by
  rintro⟨rfl,rfl⟩ h1 h2
  exact⟨.v undef,[],⟨fun r o' e=>(by cases e),fun st2 hl _ K h=>h2 st2 hl K h⟩,h1⟩
 have run:Fb cx o st=some (R,w)→FL cx true o st (fun v h=>K (st.put o.dst v h))→(∀st2,Kl ops o st st2→∀K:St→Prop,FL cx true o st2 (fun v h=>K (st2.put o.dst v h))→G4 cx true ops.toList o st2 K)→∃v e,Po cx ops o st (R,w) v e∧K (st.after o v e):=by
  intro hf hk h2;obtain⟨v,e,q1,q2,q3⟩:=bp hk hf;exact⟨v,e,⟨q2,fun st2 hl hh K h=>h2 st2 hl K (q3 st2 ⟨hl.operands,hh⟩ _ h)⟩,q1⟩
 unfold G4 at hk;unfold M7 at hf;cases hg:o.guard with
 |none =>
  rw[hg]at hk hf;exact run hf hk (fun st2 hl K h=>by unfold G4;rw[hg];exact h)
 |some p =>
  obtain⟨j,want⟩:=p;rw[hg]at hk hf;simp only at hk hf;cases hd:Ka ops.toList j with
  |none=>rw[hd]at hk;exact hk.elim
  |some d =>
   rw[hd]at hk hf;simp only at hk hf;have he:∀st2,Kl ops o st st2→st2.t d=st.t d:=fun st2 hl=>hl.guard hg hd;generalize hx:st.t d=x at hk hf he;split at hk
   ·exact run hf hk (fun st2 hl K h=>by unfold G4;simp only[hg,hd,he st2 hl];exact h)
   ·exact run hf hk (fun st2 hl K h=>by unfold G4;simp only[hg,hd,he st2 hl];exact h)
   ·exact skip (by cases hf;exact⟨rfl,rfl⟩) hk (fun st2 hl K h=>by unfold G4;simp only[hg,hd,he st2 hl];exact h)
   ·exact skip (by cases hf;exact⟨rfl,rfl⟩) hk (fun st2 hl K h=>by unfold G4;simp only[hg,hd,he st2 hl];exact h)
   ·exact skip (by cases hf;exact⟨rfl,rfl⟩) hk (fun st2 hl K h=>by unfold G4;simp only[hg,hd,he st2 hl];exact h)
   ·exact hk.elim
def pn(cx:Cx)(ops:Array Oper)(FT:Nat→Fs)(i:Nat)(K:St→Prop)(st:St):Prop :=
 match ops[i]? with
 |none=>K st
 |some o=>M7 cx ops.toList o st=some (FT i)∧G4 cx true ops.toList o st K
def WR(cx:Cx)(ops:Array Oper)(FT:Nat→Fs)(K:St→Prop):Nat→Array Bool→St→Prop
 |0,listed,st=>Region.ready .any ops listed=[]∧K st
 |fuel+1,listed,st =>
  (Region.ready .any ops listed=[]→K st)∧∀i∈Region.ready .any ops listed,pn cx ops FT i (WR cx ops FT K fuel (listed.setIfInBounds i true)) st
theorem dx(t:Nat→AV){d d' : Nat}(h:d'≠d)(v v' : AV):G0 (G0 t d v) d' v'=G0 (G0 t d' v') d v:=by
 funext i
 unfold G0
 by_cases h1:i=d<;>by_cases h2:i=d'
 ·exact absurd (h2.symm.trans h1) h
 ·subst h1;simp[Cw h2]
 ·subst h2;simp[Cw h1]
 ·simp[Cw h1,Cw h2]
theorem ca(t:Nat→HO){d d' : Nat}(h:d'≠d)(v v' : HO):AR (AR t d v) d' v'=AR (AR t d' v') d v:=by
 funext i
 unfold AR
 by_cases h1:i=d<;>by_cases h2:i=d'
 ·exact absurd (h2.symm.trans h1) h
 ·subst h1;simp[Cw h2]
 ·subst h2;simp[Cw h1]
 ·simp[Cw h1,Cw h2]
theorem ON{l:List Nat}{n:Nat}(h:n∈l):IE l n=true:=by
 induction l with
 |nil=>cases h
 |cons a l ih =>
  unfold IE
  by_cases e:a=n
  ·subst e;simp
  ·rw[Cw e];exact ih ((Av.1 h).resolve_left (fun q=>e q.symm))
theorem XY{l:List Nat}{n:Nat}(h:IE l n=true):n∈l:=by
 induction l with
 |nil=>cases h
 |cons a l ih =>
  unfold IE at h
  by_cases e:a=n
  ·exact e▸Ab ..
  ·rw[Cw e]at h;exact Ag _ (ih h)
theorem X9{l:List Nat}{x:Nat}(h:X7 l x=true):∀r,RF (some x) r→r∉l:=by
 intro r hc hr;unfold X7 at h
 by_cases hx:x=VD
 ·subst hx;rw[CK,JG]at h;cases l with
  |nil=>cases hr
  |cons a l=>cases h
 rw[Cw hx,El]at h;simp only[Af,Cj,CG,Ca]at h;rcases hc with rfl | ⟨h1,h2⟩ | hc
 ·rw[ON hr]at h;cases h.1
 ·rcases h.2 with h3 | h3
  ·omega
  ·rcases h2 with rfl | rfl
   ·rw[ON hr]at h3;cases h3.1
   ·rw[ON hr]at h3;cases h3.2
 ·exact hx hc
theorem bJ{a b:Fs}(h:Sf a b=true):(∀r,RF a.2 r→r∉b.1)∧∀r,RF b.2 r→r∉a.1:=by
 obtain⟨a1,a2⟩:=a;obtain⟨b1,b2⟩:=b;simp only[Sf,Af]at h;refine⟨fun r e=>?_,fun r e=>?_⟩
 ·cases a2 with
  |none=>exact e.elim
  |some x=>exact X9 h.1 r e
 ·cases b2 with
  |none=>exact e.elim
  |some x=>exact X9 h.2 r e
section
variable {cx:Cx}{ops:Array Oper}{FT:Nat→Fs}
theorem QJ{oi oj:Oper}(h:∀d,oi.dst=some d→d∉oj.looksAt ops)(st:St)(v:AV)(e:List (Nat×HO)):Kl ops oj st (st.after oi v e):=by
 intro d hd;cases hdst:oi.dst with
 |none=>simp[St.after,St.put,hdst]
 |some d' =>
  have:d≠d':=fun q=>h d' hdst (q▸hd)
  simp[St.after,St.put,hdst,G0,Cw this]
theorem Kl.symm{o:Oper}{st st2:St}(h:Kl ops o st st2):Kl ops o st2 st:=fun d hd=>(h d hd).symm
theorem ac{o:Oper}{st:St}{v:AV}{e:List (Nat×HO)}:(st.after o v e).h=HZ st.h e:=by
 unfold St.after St.put;cases o.dst<;>rfl
theorem Pw{r:Nat}:∀{e:List (Nat×HO)} {h:Nat→HO},(∀o',(r,o')∉e)→HZ h e r=h r
 | [],_,_=>rfl
 |p::e,h,hr=>by
  have:r≠p.1:=fun q=>hr p.2 (by rw[q];exact Ab ..)
  show HZ (AR h p.1 p.2) e r=h r;rw[Pw fun o' ho=>hr o' (Ag _ ho),BT _ _ _ _ this]
theorem Xb{r:Nat}{o:HO}:∀{e:List (Nat×HO)} {h:Nat→HO},(∀r' o',(r',o')∈e→r'≠r)→HZ (AR h r o) e=AR (HZ h e) r o
 | [],_,_=>rfl
 |p::e,h,hr=>by
  show HZ (AR (AR h r o) p.1 p.2) e=AR (HZ (AR h p.1 p.2) e) r o;rw[ca h (hr p.1 p.2 (Ab ..)),Xb fun r' o' ho=>hr r' o' (Ag _ ho)]
theorem UK:∀{e e' : List (Nat×HO)} {h:Nat→HO},(∀r o r' o',(r,o)∈e→(r',o')∈e'→r'≠r)→HZ (HZ h e) e'=HZ (HZ h e') e
 | [],_,_,_=>rfl
 |p::e,e',h,hd=>by
  show HZ (HZ (AR h p.1 p.2) e) e'=HZ (AR (HZ h e') p.1 p.2) e;rw[←Xb fun r' o' ho=>hd p.1 p.2 r' o' (Ab ..) ho,UK fun r o r' o' h1 h2=>hd r o r' o' (Ag _ h1) h2]
theorem YF{oi oj:Oper}{st:St}{v v' : AV}{e e' : List (Nat×HO)}(h1:∀d,oi.dst=some d→oj.dst≠some d)(h2:∀r o r' o',(r,o)∈e→(r',o')∈e'→r'≠r) :
  (st.after oi v e).after oj v' e'=(st.after oj v' e').after oi v e:=by
 have hh:HZ (HZ st.h e) e'=HZ (HZ st.h e') e:=UK h2;have key:∀o:Oper,∀v e,∀st:St,st.after o v e=⟨match o.dst with | none=>st.t | some d=>G0 st.t d v,HZ st.h e⟩:=fun o v e st=>by
  unfold St.after St.put;cases o.dst<;>rfl
 rw[key,key,key,key];simp only[hh];cases hi:oi.dst with
 |none=>rfl
 |some d =>
  cases hj:oj.dst with
  |none=>rfl
  |some d' =>
   have Dr:d'≠d:=fun q=>h1 d hi (by rw[hj,q]);simp only[dx st.t Dr v v']
theorem YD{K:St→Prop}{i:Nat}{oi:Oper}{v:AV}{e:List (Nat×HO)}(hi:ops[i]?=some oi)(D:Nat→Prop)
  (hD:∀j,D j→∃oj,ops[j]?=some oj∧∃ed∈oj.after,Region.binds .any ed=true∧(ed.on=i∨D ed.on)) :
  ∀(fuel:Nat) (listed:Array Bool) (st:St),
   (∀j oj,ops[j]?=some oj→j≠i→listed.getD j true=false→¬D j→oi.apart ops oj=true∧Sf (FT i) (FT j)=true) →
   i∈Region.ready .any ops listed→(∀j,D j→listed.getD j true=false)→M7 cx ops.toList oi st=some (FT i)→Po cx ops oi st (FT i) v e →
   WR cx ops FT K fuel (listed.setIfInBounds i true) (st.after oi v e)→WR cx ops FT K (fuel+1) listed st:=by
 have here:∀(fuel:Nat) (listed:Array Bool) (st:St),M7 cx ops.toList oi st=some (FT i)→Po cx ops oi st (FT i) v e →
   WR cx ops FT K fuel (listed.setIfInBounds i true) (st.after oi v e)→pn cx ops FT i (WR cx ops FT K fuel (listed.setIfInBounds i true)) st:=by
  intro fuel listed st hf hy H;unfold pn;rw[hi];exact⟨hf,hy.2 st (fun _ _=>rfl) (fun _ _=>rfl) _ H⟩
 intro fuel
 induction fuel with
 |zero =>
  intro listed st _ hr _ hf hy H;refine⟨fun h=>(by rw[h]at hr;cases hr),fun j hj=>?_⟩
  by_cases L3:j=i
  ·subst L3;exact here 0 listed st hf hy H
  ·have:=ready_mono hj L3
   rw[H.1]at this;cases this
 |succ fuel ih =>
  intro listed st Aa hr xy hf hy H;refine⟨fun h=>(by rw[h]at hr;cases hr),fun j hj=>?_⟩
  by_cases L3:j=i
  ·subst L3;exact here (fuel+1) listed st hf hy H
  ·have h1:=H.2 j (ready_mono hj L3);obtain⟨qD,oj,jV,GM⟩:=mem_ready.1 hj;have pY:∀k,listed.getD k true=false→listed.getD k false=true→False:=fun k h0 h1=>by
    rcases EF k listed.size with h' | h'
    ·simp[h']at h0 h1;rw[h0]at h1;cases h1
    ·simp[Array.getElem?_eq_none h']at h1
   have sM:¬D j:=fun sD=>by
    obtain⟨oj',lK,ed,he,hb,hon⟩:=hD j sD;rw[jV]at lK;cases lK;have hl:=GM ed he hb;rcases hon with h2 | h2
    ·exact pY _ (by rw[h2];exact(mem_ready.1 hr).1) hl
    ·exact pY _ (xy _ h2) hl
   obtain⟨qk,sD⟩:=Aa j oj jV L3 qD sM;obtain⟨a1,a2,a3⟩:=Oper.apart_spec qk;obtain⟨d1,d2⟩:=bJ sD;unfold pn at h1⊢;rw[jV]at h1⊢;obtain⟨xO,zV⟩:=h1;have xW:=QJ (ops:=ops) a1 st v e;obtain⟨vj,ej,yi,hK⟩:=Oa zV xO;have uO:∀r o',(r,o')∈e→r∉(FT j).1:=fun r o' q=>d1 r (hy.1 r o' q).1;have dH:∀r o',(r,o')∈ej→r∉(FT i).1:=fun r o' q=>d2 r (yi.1 r o' q).1;refine⟨by rw[←Sv xW];exact xO,yi.2 st xW.symm (fun r nF=>?_) _ ?_⟩
   ·rw[ac,Pw (fun o' q=>uO r o' q nF)]
   ·have xV:=QJ (ops:=ops) a3 st vj ej;refine ih (listed.setIfInBounds j true) (st.after oj vj ej) (fun k ok hk xU j7 Rc=>?_) (ready_mono hr (TZ L3)) (fun k hk=>?_) (by rw[Sv xV];exact hf) ⟨hy.1,fun st2 hl hh K' h'=>?_⟩ ?_
    ·by_cases jS:j=k
     ·subst jS;exact Aa _ ok hk xU qD Rc
     ·rw[getD_set_ne true jS]at j7;exact Aa k ok hk xU j7 Rc
    ·by_cases jS:j=k
     ·subst jS;exact absurd hk sM
     ·rw[getD_set_ne true jS];exact xy k hk
    ·refine hy.2 st2 (fun d hd=>(hl d hd).trans (xV d hd)) (fun r nF=>?_) K' h';rw[hh r nF,ac,Pw (fun o' q=>dH r o' q nF)]
    ·rw[Array.setIfInBounds_comm _ _ (TZ L3)]at hK;rw[←YF a2 (fun r o r' o' q q' e2=>dH r' o' q' (by rw[e2];exact(hy.1 r o q).2))];exact hK
def mj(cx:Cx)(ops:Array Oper)(K:St→Prop):List Oper→List Fs→St→Prop
 | [],[],st=>K st
 |o::r,f::fs,st=>M7 cx ops.toList o st=some f∧∃v e,Po cx ops o st f v e∧mj cx ops K r fs (st.after o v e)
 |_,_,_=>False
theorem RM{K:St→Prop}:∀(l:List Oper) (acc:List Fs) (st:St),WW cx ops l acc st K→∃fs,Sg ops (acc.reverse++fs)=true∧mj cx ops K l fs st
 | [],acc,st,h=>⟨[],by simpa using h.1,h.2⟩
 |o::r,acc,st,h=>by
  unfold WW at h;split at h
  ·rename_i f hf;obtain⟨v,e,h1,h2⟩:=Oa h hf;obtain⟨fs,q1,q2⟩:=RM r _ _ h2;exact⟨f::fs,by simpa using q1,hf,v,e,h1,q2⟩
  ·exact h.elim
theorem Wb{o:Oper}{i:Nat}{D:List Nat}(h:OE o i D=true):∃ed∈o.after,Region.binds .any ed=true∧(ed.on=i∨ed.on∈D):=by
 unfold OE at h;obtain⟨ed,h1,h2⟩:=Ba.1 h;simp only[Af,Cj]at h2;exact⟨ed,by simpa using h1,h2.1,h2.2.imp AI XY⟩
theorem TK{i:Nat}{D:List Nat}:∀(l:List Oper) (k:Nat),TJ i D k l=true→∀j o,l[j]?=some o→k+j∈D→OE o i D=true
 | [],_,_,_,_,h,_=>by simp at h
 |o::l,k,hs,j,o',h,hm=>by
  simp only[TJ,Af]at hs;cases j with
  |zero =>
   simp only[A5,Bh]at h;subst h;have h1:=hs.1;rw[ON (by simpa using hm)]at h1;simpa using h1
  |succ j=>exact TK l (k+1) hs.2 j o' (by simpa using h) (by rw[Gq,Nat.add_comm 1 j];exact hm)
theorem Ut{oi:Oper}{fi:Fs}{D:List Nat}:∀(l:List Oper) (fs:List Fs) (k:Nat),Il ops oi fi D k l fs=true→l.length=fs.length∧∀j o f,l[j]?=some o→fs[j]?=some f→k+j∉D→oi.apart ops o=true∧Sf fi f=true
 | [],[],_,_=>⟨rfl,fun _ _ _ h=>by simp at h⟩
 | [],_::_,_,h=>by simp[Il]at h
 |_::_,[],_,h=>by simp[Il]at h
 |o::l,f::fs,k,h=>by
  simp only[Il,Af,Cj]at h;obtain⟨h1,h2⟩:=Ut l fs (k+1) h.2;refine⟨by simp[h1],fun j o' f' q1 q2 hn=>?_⟩;cases j with
  |zero =>
   simp only[A5,Bh]at q1 q2;subst q1;subst q2;rcases h.1 with h3 | h3
   ·exact absurd (XY h3) hn
   ·exact h3
  |succ j=>exact h2 j o' f' (by simpa using q1) (by simpa using q2) (by simpa[Nat.add_assoc,Nat.add_comm 1 j]using hn)
theorem WS{K:St→Prop}:∀(l:List Oper) (fs:List Fs) (k:Nat) (listed:Array Bool) (st:St),(∀j,l[j]?=ops[k+j]?)→(∀j f,fs[j]?=some f→FT (k+j)=f)→listed.size=ops.size →
  (∀j,j<ops.size→listed.getD j true=decide (j<k))→LQ ops ops.toList k l fs=true→mj cx ops K l fs st→WR cx ops FT K l.length listed st
 | [],[],k,listed,st,hl,_,hs,hL,_,h=>by
  refine⟨?_,h⟩;apply Lz.2;intro j hj;obtain⟨h1,o,ho,_⟩:=mem_ready.1 hj;have Dz:=(Bl.1 ho).1;rw[hL j Dz]at h1;have o6:k≤j:=by simpa using h1
  have:=hl (j-k)
  rw[show k+(j-k)=j by omega,ho]at this;simp at this
 | [],_::_,_,_,_,_,_,_,_,h,_=>by simp[LQ]at h
 |_::_,[],_,_,_,_,_,_,_,h,_=>by simp[LQ]at h
 |o::l,f::fs,k,listed,st,hl,hF,hs,hL,hg,h=>by
  simp only[LQ,Af]at hg;obtain⟨⟨⟨⟨g1,g2⟩,g3⟩,g4⟩,g5⟩:=hg;obtain⟨hf,v,e,hy,hp⟩:=h;have h0:ops[k]?=some o:=by simpa using(hl 0).symm
  have hk:=(Bl.1 h0).1;have ul:FT k=f:=by simpa using hF 0 f rfl
  have OH : ∀j,l[j]?=ops[k+1+j]?:=fun j=>by have:=hl (j+1);simpa[Nat.add_assoc,Nat.add_comm 1 j]using this
  have oT : ∀j f,fs[j]?=some f→FT (k+1+j)=f:=fun j f' hj=>by have:=hF (j+1) f' (by simpa using hj);simpa[Nat.add_assoc,Nat.add_comm 1 j]using this
  obtain⟨Cn,qk⟩:=Ut l fs (k+1) g4;have aa:∀j,j∈Pv k [] 0 ops.toList→k<j∧j<ops.size:=fun j hj=>by
   have:=(Bk.1 g3) j hj
   simp only[Af,Ca,BY]at this;exact this
  refine YD h0 (fun j=>j∈Pv k [] 0 ops.toList) (fun j hj=>?_) l.length listed st (fun j oj jV jS j7 sM=>?_) ?_ (fun j hj=>?_) (by rw[ul];exact hf) (by rw[ul];exact hy) ?_
  ·have Dz:=(aa j hj).2
   have:=TK ops.toList 0 g2 j ops[j] (by simp[Dz]) (by simpa using hj)
   obtain⟨ed,e1,e2,e3⟩:=Wb this;exact⟨ops[j],by simp[Dz],ed,e1,e2,e3⟩
  ·have Dz:=(Bl.1 jV).1;rw[hL j Dz]at j7;have o6:k<j:=by have q:k≤j:=(by simpa using j7);omega
   have e1:l[j-(k+1)]?=some oj:=by rw[OH,show k+1+(j-(k+1))=j by omega];exact jV
   have hfl:j-(k+1)<fs.length:=by rw[←Cn];exact(Ap.1 e1).1
   have e2:fs[j-(k+1)]?=some fs[j-(k+1)]:=At hfl;have e3:=oT _ _ e2;rw[show k+1+(j-(k+1))=j by omega]at e3;rw[ul,e3];exact qk _ _ _ e1 e2 (by rw[show k+1+(j-(k+1))=j by omega];exact sM)
  ·refine mem_ready.2 ⟨by rw[hL k hk];simp,o,h0,fun ed he hb=>?_⟩
   have:=(Bk.1 g1) ed (by simpa using he)
   simp only[hb,Bool.not_true,LI,Ca]at this;have h1:=hL ed.on (by omega);have Dz:ed.on<listed.size:=by omega
   simp[Dz]at h1⊢;rw[h1];simpa using this
  ·have:=aa j hj
   rw[hL j this.2];simp;omega
  ·refine WS l fs (k+1) _ _ OH oT (by simp[hs]) (fun j hj=>?_) g5 hp
   by_cases jS:j=k
   ·subst jS
    have:j<listed.size:=by omega
    simp[this]
   ·rw[getD_set_ne true (TZ jS),hL j hj]
    by_cases h1:j<k
    ·simp[h1];omega
    ·simp[h1];omega
theorem bm{K:St→Prop}{st:St}(h:WW cx ops ops.toList [] st K):Region.noSelect ops=true∧∃FT,WR cx ops FT K ops.size (Array.replicate ops.size false) st:=by
 obtain⟨fs,h1,h2⟩:=RM _ _ _ h;simp only[Sg,List.reverse_nil,EM,Af]at h1;refine⟨h1.1,fun j=>fs.getD j default,?_⟩
 have:=WS (FT:=fun j=>fs.getD j default) ops.toList fs 0 (Array.replicate ops.size false) st (by simp) (fun j f hj=>by simp[hj]) (by simp) (fun j hj=>by simp[hj]) h1.2 h2
 simpa using this
end
end Go.Eng
