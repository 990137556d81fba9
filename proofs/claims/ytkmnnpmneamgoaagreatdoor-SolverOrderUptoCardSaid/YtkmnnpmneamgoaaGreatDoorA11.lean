/- Lemmas for the claims of this seat, without a condition: part 11 (EngX, EngY, EngZ). -/
import Derived.Test.YtkmnnpmneamgoaaGreatDoorA10
namespace Go.Eng

section
variable {cx:Cx}{dst:Option Nat}{ty:Nat}{pos:String}{after:Array Edge}{gd:Option (Nat×Bool)}{st:St}{R:List Nat}{w:Option Nat}{K:HK}

theorem YL{t:Nat}{p:Operand}(hk:F1 cx true ⟨dst,.load t p,ty,pos,after,gd⟩ st K)(hf:Fi cx ⟨dst,.load t p,ty,pos,after,gd⟩ st=some (R,w)):D6 cx ⟨dst,.load t p,ty,pos,after,gd⟩ st R w K:=by
 simp only[F1]at hk;have hn:∀st2,IF ⟨dst,.load t p,ty,pos,after,gd⟩ R st st2→ev st2.t p=ev st.t p:=fun st2 ha=>ha.t p (by simp[Op.operands]);simp only[Fi]at hf;unfold IA at hk;split at hf
 ·rename_i cs hp;cases hf;rw[hp]at hk;simp only at hk;exact .pick (I7 _ _ _) hk fun st2 ha K' h=>by simp only[F1,IA,hn st2 ha,hp];exact h
 ·rename_i r off hp;cases hf;rw[hp]at hk;simp only at hk;split at hk
  ·rename_i cs hr;exact .pick (I7 _ _ _) hk fun st2 ha K' h=>by simp only[F1,IA,hn st2 ha,hp,ha.h r (Ab ..),hr];exact h
  ·rename_i cs hr;exact .pick (I7 _ _ _) hk fun st2 ha K' h=>by simp only[F1,IA,hn st2 ha,hp,ha.h r (Ab ..),hr];exact h
  ·exact hk.elim
 ·rename_i r n sz i off hp;cases hf;rw[hp]at hk;simp only at hk;split at hk
  ·rename_i GP es hr;split at hk
   ·rename_i hs;exact .pick (DA (MD fun _=>DA (I7 _ _ _))) hk fun st2 ha K' h=>by simp only[F1,IA,hn st2 ha,hp,ha.h r (Ab ..),hr,hs];exact h
   ·exact hk.elim
  ·exact hk.elim
 ·cases hf
theorem VJ{x:Operand}(hk:F1 cx true ⟨dst,.assign x,ty,pos,after,gd⟩ st K)(hf:Fi cx ⟨dst,.assign x,ty,pos,after,gd⟩ st=some (R,w)):D6 cx ⟨dst,.assign x,ty,pos,after,gd⟩ st R w K:=by
 simp only[F1]at hk;have hn:∀st2,IF ⟨dst,.assign x,ty,pos,after,gd⟩ R st st2→ev st2.t x=ev st.t x:=fun st2 ha=>ha.t x (by simp[Op.operands]);simp only[Fi]at hf;split at hf
 ·cases hf
 ·rename_i hx;cases hf;have same:∃y,∀(h:Nat→HO) (K:HK),N8 cx dst h (ev st.t x) K↔K y h:=by
   unfold N8;cases dst with
   |none=>exact⟨_,fun _ _=>Qe⟩
   |some d =>
    simp only;cases Eb cx.pl.tok d with
    |some sz =>
     simp only;cases Nat.beq sz 0 with
     |true=>exact⟨_,fun _ _=>Qe⟩
     |false =>
      refine⟨ev st.t x,fun h K=>?_⟩;simp only;split
      ·rename_i e;exact absurd e (hx _ _ _)
      ·exact Qe
    |none =>
     simp only;cases Eb cx.pl.arr d with
     |some sz =>
      refine⟨ev st.t x,fun h K=>?_⟩;simp only;split
      ·rename_i e;exact absurd e (hx _ _ _)
      ·exact Qe
     |none=>exact⟨_,fun _ _=>Qe⟩
  obtain⟨y,same⟩:=same;exact .pick (Di y) ((same _ _).1 hk) fun st2 ha K' h=>by simp only[F1];rw[hn st2 ha];exact(same _ _).2 h
theorem Qq{t:Nat}{x:Operand}{lo hi mx:Option Operand}(hp:Nl cx.pl.tok dst=none)(hk:F1 cx true ⟨dst,.slice t x lo hi mx,ty,pos,after,gd⟩ st K)(hf:Fi cx ⟨dst,.slice t x lo hi mx,ty,pos,after,gd⟩ st=some (R,w)) :
  D6 cx ⟨dst,.slice t x lo hi mx,ty,pos,after,gd⟩ st R w K:=by
 simp only[F1,hp]at hk;have hn:∀st2,IF ⟨dst,.slice t x lo hi mx,ty,pos,after,gd⟩ R st st2→ev st2.t x=ev st.t x∧B4 st2.t lo=B4 st.t lo∧B4 st2.t hi=B4 st.t hi∧B4 st2.t mx=B4 st.t mx:=by
  intro st2 ha;have vL:∀y:Option Operand,(∀z,y=some z→ev st2.t z=ev st.t z)→B4 st2.t y=B4 st.t y:=by
   intro y hy;cases y with
   |none=>rfl
   |some z=>simp only[B4];rw[hy z rfl]
  exact⟨ha.t x (by simp[Op.operands]),vL lo (fun z e=>ha.t z (by simp[Op.operands,e])),vL hi (fun z e=>ha.t z (by simp[Op.operands,e])),vL mx (fun z e=>ha.t z (by simp[Op.operands,e]))⟩
 simp only[Fi,hp]at hf;split at hf
 ·cases hf
 ·rename_i hx;cases hf;have e3:B4 st.t none=some none:=rfl
  have Je:Gg (fun K1=>Gy cx dst st.h t (ev st.t x) (B4 st.t lo) (B4 st.t hi) (some none) fun v _=>K1 v) ∧
    ∀(h:Nat→HO) (K:HK),Gy cx dst h t (ev st.t x) (B4 st.t lo) (B4 st.t hi) (some none) K↔Gy cx dst st.h t (ev st.t x) (B4 st.t lo) (B4 st.t hi) (some none) (fun v _=>K v h):=by
   generalize ev st.t x=X at hx;unfold Gy;constructor
   ·repeat' split
    all_goals first | exact Cu | exact DA (Di _) | exact DA (DA (Di _)) | skip
    all_goals first | (rename_i e;cases e;done) | skip
    all_goals (exfalso;exact hx _ _ rfl)
   ·intro h K
    repeat' split
    all_goals first | exact Qe | skip
    all_goals exfalso
    all_goals first | exact hx _ _ rfl | (rename some none=some (some _)=>e4;cases e4)
  rw[e3]at hk;exact .pick Je.1 ((Je.2 _ _).1 hk) fun st2 ha K' h=>by
   obtain⟨n1,n2,n3,n4⟩:=hn st2 ha;simp only[F1,hp];rw[n1,n2,n3,n4,e3];exact(Je.2 _ _).2 h
 ·rename_i y tk es hx;obtain⟨d,rfl,e0⟩:=Ih hf;cases e0;rw[hx]at hk;unfold Gy at hk;split at hk
  ·rename_i Hy LH lN e1 e2 e3;split at hk
   ·split at hk<;>first | exact hk.elim | (rename_i e;cases e)
   ·rename_i e he;split at hk
    ·exact hk.elim
    ·rename_i k Ew;simp only at hk;split at hk
     ·exfalso
      rename_i e4;simp only[B4]at e3;split at e3<;>cases e3
     ·rename_i m;split at hk
      ·rename some d=some _=>e5
       cases e5
       split at hk
       ·rename_i mU;refine⟨_,none,hk.2.2,fun r o' e=>(by cases e),fun st2 Hj K' h'=>?_⟩;obtain⟨n1,n2,n3,n4⟩:=hn st2 Hj;simp only[F1,hp];rw[n1,n2,n3,n4,hx,e1,e2,e3];unfold Gy;simp only[he];split
        ·rename_i e0;rw[Ew]at e0;cases e0
        ·simp only[mU];exact⟨hk.1,hk.2.1,h'⟩
       rename_i mU;split at hk
       ·rename_i hd;refine⟨_,some (d,_),hk.2.2,fun r o' e=>(by cases e;exact⟨rfl,Ab ..⟩),fun st2 Hj K' h'=>?_⟩;obtain⟨n1,n2,n3,n4⟩:=hn st2 Hj;simp only[F1,hp];rw[n1,n2,n3,n4,hx,e1,e2,e3];unfold Gy;simp only[he];split
        ·rename_i e0;rw[Ew]at e0;cases e0
        ·simp only[mU];rw[Hj.h d (Ab ..),hd];exact⟨hk.1,hk.2.1,h'⟩
       ·exact hk.elim
      ·exact hk.elim
   ·exact hk.elim
  ·exact hk.elim
 ·cases hf
theorem bF{t:Nat}{x:Operand}{lo hi mx:Option Operand}{p:Nat}(hp:Nl cx.pl.tok dst=some p)(hk:F1 cx true ⟨dst,.slice t x lo hi mx,ty,pos,after,gd⟩ st K)(hf:Fi cx ⟨dst,.slice t x lo hi mx,ty,pos,after,gd⟩ st=some (R,w)) :
  Rc cx ⟨dst,.slice t x lo hi mx,ty,pos,after,gd⟩ st R w K:=by
 simp only[F1,hp]at hk;simp only[Fi,hp]at hf;obtain⟨d',r,n,hd,hx,e0⟩:=YJ hf;cases e0;cases dst with
 |none=>cases hd
 |some d =>
 cases hd
 unfold Ti at hk;split at hk
 ·rw[hx]at hk;unfold gQ at hk;split at hk
  ·rename_i d0 LH e1 e2;cases e1;split at hk
   ·rename_i e he;split at hk
    ·exact hk.elim
    ·rename_i k Ew;simp only at hk;split at hk
     ·rename_i sz es hr;split at hk
      ·rename_i hd;split at hk
       ·rename_i q1 q3;obtain⟨h1,hk⟩:=hk;have hr8:r<10000000∧0<Kq cx d:=by simpa using q3
        obtain⟨xW,hz⟩:=hr8;refine⟨_,[(r,.dead),(Kq cx d,_)],hk,fun r' o' e=>?_,fun st2 ha K' h'=>?_⟩
        ·rcases AF.1 e with e | e
         ·cases e
          refine⟨.inr (.inl ⟨by omega,.inl ?_⟩),Ab ..⟩;rw[Nat.add_mul_mod_self_left,Nat.mod_eq_of_lt xW]
         ·obtain e:=Ai.1 e;cases e;refine⟨.inr (.inl ⟨by omega,.inr ?_⟩),Ag _ (Ab ..)⟩;rw[Nat.add_mul_div_left _ _ (by decide),Nat.div_eq_of_lt xW,Bd]
        ·have o1:B4 st2.t hi=B4 st.t hi:=by
          cases hi with
          |none=>rfl
          |some z=>simp only[B4];rw[ha.t z (by simp[Op.operands])]
         simp only[F1,hp];unfold Ti;rw[ha.t x (by simp[Op.operands]),o1,hx,e2];unfold gQ;simp only[he];split
         ·rename_i e0;rw[Ew]at e0;cases e0
         ·simp only[ha.h r (Ab ..),hr,ha.h (Kq cx d) (Ag _ (Ab ..)),hd,q1,q3];exact⟨h1,h'⟩
       ·exact hk.elim
      ·exact hk.elim
     ·exact hk.elim
   ·exact hk.elim
  ·exact hk.elim
 ·exact hk.elim
theorem VI{s x:Operand}{GY:Array TypeId}(hk:F1 cx true ⟨dst,.call ⟨.builtin .append,#[s,x],GY⟩,ty,pos,after,gd⟩ st K)(hf:Fi cx ⟨dst,.call ⟨.builtin .append,#[s,x],GY⟩,ty,pos,after,gd⟩ st=some (R,w)) :
  D6 cx ⟨dst,.call ⟨.builtin .append,#[s,x],GY⟩,ty,pos,after,gd⟩ st R w K:=by
 have hk:F4 cx dst st.h .append GY.toList [ev st.t s,ev st.t x] K:=hk;have hf:VH cx dst (ev st.t s) (ev st.t x)=some (R,w):=hf;have hn:∀st2,IF ⟨dst,.call ⟨.builtin .append,#[s,x],GY⟩,ty,pos,after,gd⟩ R st st2→ev st2.t s=ev st.t s∧ev st2.t x=ev st.t x:=fun st2 ha =>
  ⟨ha.t s (by simp[Op.operands,Call.operands]),ha.t x (by simp[Op.operands,Call.operands])⟩
 have IW:∀st2,IF ⟨dst,.call ⟨.builtin .append,#[s,x],GY⟩,ty,pos,after,gd⟩ R st st2→∀K' : HK,F4 cx dst st2.h .append GY.toList [ev st.t s,ev st.t x] K'→F1 cx true ⟨dst,.call ⟨.builtin .append,#[s,x],GY⟩,ty,pos,after,gd⟩ st2 K':=by
  intro st2 ha K' h;rw[←(hn st2 ha).1,←(hn st2 ha).2]at h;exact h
 generalize GY.toList=l at hk IW
 match l,hk,IW with
 | [t,t'],hk,IW =>
  simp only[F4]at hk IW;split at hk
  ·rename_i ht;simp only[ht]at IW;unfold H2 at hk IW;split at hk
   ·rename_i e he;simp only[he]at IW;split at hk
    ·exact hk.elim
    ·rename_i hz;simp only[hz]at IW;split at hk
     ·exact hk.elim
     ·rename_i k Ew;obtain⟨es2,q1,q2⟩:=YC hk;have kb:∀d,R=d::co (ev st.t x)→∀st2,IF ⟨dst,.call ⟨.builtin .append,#[s,x],GY⟩,ty,pos,after,gd⟩ R st st2→∀r n,ev st.t x=.msl r n→st2.h r=st.h r:=fun d hR st2 ha r n e=>ha.h r (by rw[hR,e];simp[co]);unfold VH at hf;split at hf
      ·rename_i hs;obtain⟨d,bM,e0⟩:=Ih hf;cases e0;rw[hs]at q1 IW;simp only at q1 IW;obtain⟨d',hd,v,y,q3,q4⟩:=H5 q1.2;rw[bM]at hd;cases hd;refine⟨v,some (d,y),q3,fun r o' e=>(by cases e;exact⟨rfl,Ab ..⟩),fun st2 Hj K' h'=>IW st2 Hj K' ?_⟩;split
       ·rename_i e0;rw[Ew]at e0;cases e0
       ·exact q2 st2.h (kb d rfl st2 Hj) _ ⟨q1.1,q4 st2.h (Hj.h d (Ab ..)) K' h'⟩
      ·rename_i GP es hs;obtain⟨d,bM,e0⟩:=Ih hf;cases e0;rw[hs]at q1 IW;simp only at q1 IW;split at q1
       ·rename_i h1;obtain⟨d',hd,v,y,q3,q4⟩:=H5 q1.2;rw[bM]at hd;cases hd;refine⟨v,some (d,y),q3,fun r o' e=>(by cases e;exact⟨rfl,Ab ..⟩),fun st2 Hj K' h'=>IW st2 Hj K' ?_⟩;split
        ·rename_i e0;rw[Ew]at e0;cases e0
        ·refine q2 st2.h (kb d rfl st2 Hj) _ ?_;simp only[h1];exact⟨q1.1,q4 st2.h (Hj.h d (Ab ..)) K' h'⟩
       ·exact q1.elim
      ·rename_i r GP es hs;cases hf;rw[hs]at q1 IW;simp only at q1 IW;split at q1
       ·rename_i sz n hr;split at q1
        ·rename_i h1 h2;refine⟨_,some (r,_),q1.2,fun r o' e=>(by cases e;exact⟨rfl,Ab ..⟩),fun st2 Hj K' h'=>IW st2 Hj K' ?_⟩;split
         ·rename_i e0;rw[Ew]at e0;cases e0
         ·refine q2 st2.h (kb r rfl st2 Hj) _ ?_;simp only[Hj.h r (Ab ..),hr,h1,h2];exact⟨q1.1,h'⟩
        ·exact q1.elim
       ·exact q1.elim
      ·rename_i r n hs;cases hf;rw[hs]at q1 IW;simp only at q1 IW;split at q1
       ·rename_i sz es hr;split at q1
        ·rename_i h1;refine⟨_,some (r,_),q1.2,fun r o' e=>(by cases e;exact⟨rfl,Ab ..⟩),fun st2 Hj K' h'=>IW st2 Hj K' ?_⟩;split
         ·rename_i e0;rw[Ew]at e0;cases e0
         ·refine q2 st2.h (kb r rfl st2 Hj) _ ?_;simp only[Hj.h r (Ab ..),hr,h1];exact⟨q1.1,h'⟩
        ·exact q1.elim
       ·exact q1.elim
      ·cases hf
   ·exact hk.elim
  ·exact hk.elim
 | [],hk,_=>exact hk.elim
 | [_],hk,_=>exact hk.elim
 |_::_::_::_,hk,_=>exact hk.elim
theorem U2(T:GK)(t:Nat):Gg (J9 T t):=by
 unfold J9
 repeat' split
 all_goals first | exact Cu | exact Di _
theorem Tg(T:GK)(ty:Nat)(ok:Bool)(B5:List (Value×AV))(kx:Value):Gg (LY T ty ok B5 kx):=by
 unfold LY
 repeat' split
 ·refine ar (MD fun a=>DA (Di _)) (DA ?_);intro K hk;obtain⟨v,h1,h2⟩:=U2 T _ _ hk;exact⟨_,h1,fun K' h=>h2 _ h⟩
 ·exact ar (MD fun a=>DA (Di _)) (DA (U2 T _))
 ·exact Cu
theorem X0(T:GK)(ty:Nat)(sh:Ez)(k:AV){F:Value→(AV→Prop)→Prop}(h:∀x,Gg (F x)):Gg fun K=>J3 T ty sh k fun kx=>F kx K:=by
 unfold J3
 repeat' split
 all_goals first | exact Cu | exact h _
theorem VK{t:Nat}{m k:Operand}{ok:Bool}(hk:F1 cx true ⟨dst,.lookup t m k ok,ty,pos,after,gd⟩ st K)(hf:Fi cx ⟨dst,.lookup t m k ok,ty,pos,after,gd⟩ st=some (R,w)) :
  D6 cx ⟨dst,.lookup t m k ok,ty,pos,after,gd⟩ st R w K:=by
 simp only[F1]at hk;have hn:∀st2,IF ⟨dst,.lookup t m k ok,ty,pos,after,gd⟩ R st st2→ev st2.t m=ev st.t m∧ev st2.t k=ev st.t k:=fun st2 ha=>⟨ha.t m (by simp[Op.operands]),ha.t k (by simp[Op.operands])⟩;simp only[Fi]at hf;unfold My at hk;split at hf
 ·rename_i sh B5 hm;cases hf;rw[hm]at hk;simp only at hk;exact .pick (X0 _ _ _ _ fun _=>Tg _ _ _ _ _) hk fun st2 ha K' h=>by simp only[F1,My,hn st2 ha,hm];exact h
 ·rename_i r hm;cases hf;rw[hm]at hk;simp only at hk;split at hk
  all_goals first | exact hk.elim | (rename_i e;exact .pick (X0 _ _ _ _ fun _=>Tg _ _ _ _ _) hk fun st2 ha K' h=>by simp only[F1,My,hn st2 ha,hm,ha.h r (Ab ..),e];exact h)
 ·cases hf
theorem gN(T:GK)(t:Nat)(h:Nat→HO)(x:AV):Gg (Qz T t h x):=by
 unfold Qz
 repeat' split
 all_goals first | exact Cu | exact Di _
theorem nA{T:GK}{t:Nat}{h h2:Nat→HO}{x:AV}(e:∀r,x=.mref r→h2 r=h r){K:AV→Prop}:Qz T t h2 x K=Qz T t h x K:=by
 cases x<;>first | rfl | skip
 rename_i r;unfold Qz;simp only[e r rfl]
theorem bE{x:Operand}{GY:Array TypeId}(hk:F1 cx true ⟨dst,.call ⟨.builtin .len,#[x],GY⟩,ty,pos,after,gd⟩ st K)(hf:Fi cx ⟨dst,.call ⟨.builtin .len,#[x],GY⟩,ty,pos,after,gd⟩ st=some (R,w)) :
  D6 cx ⟨dst,.call ⟨.builtin .len,#[x],GY⟩,ty,pos,after,gd⟩ st R w K:=by
 have hk:F4 cx dst st.h .len GY.toList [ev st.t x] K:=hk;have hf:GU cx dst (.builtin .len) st.t [ev st.t x]=some (R,w):=hf;have hn:∀st2,IF ⟨dst,.call ⟨.builtin .len,#[x],GY⟩,ty,pos,after,gd⟩ R st st2→ev st2.t x=ev st.t x:=fun st2 ha=>ha.t x (by simp[Op.operands,Call.operands]);have IW:∀st2,IF ⟨dst,.call ⟨.builtin .len,#[x],GY⟩,ty,pos,after,gd⟩ R st st2→∀K' : HK,F4 cx dst st2.h .len GY.toList [ev st.t x] K'→F1 cx true ⟨dst,.call ⟨.builtin .len,#[x],GY⟩,ty,pos,after,gd⟩ st2 K':=by
  intro st2 ha K' h;rw[←hn st2 ha]at h;exact h
 generalize GY.toList=l at hk IW
 match l,hk,IW with
 | [t],hk,IW =>
  have hR:∀r,ev st.t x=.mref r→r∈R:=fun r e=>by
   rw[e]at hf;cases hf;exact Ab ..
  have hw:w=none:=by
   unfold GU at hf;split at hf<;>first | (cases hf;rfl) | (rename_i e;cases e) | (rename_i e _;cases e) | skip
   all_goals (cases hf)
  subst hw;exact .pick (gN _ _ _ _) hk fun st2 ha K' h=>IW st2 ha K' (by
   simp only[F4];rw[nA fun r e=>ha.h r (hR r e)];exact h)
 | [],hk,_=>exact hk.elim
 |_::_::_,hk,_=>exact hk.elim
end
end Go.Eng

namespace Go.Eng

theorem kp{l:List Nat}{n:Nat}(h:IB l n=true):n∈l:=by
 induction l with
 |nil=>cases h
 |cons a l ih =>
  unfold IB at h
  by_cases e:a=n
  ·exact e▸Ab ..
  ·rw[Cc e]at h;exact Ag _ (ih h)
theorem WN(G:Nat→HO):∀(σ:Hh) (h:Nat→HO),DZ σ=true→(fun i=>match Ch σ i with | some j=>G j | none=>h i)=HT h (σ.map fun p=>(p.1,G p.2))
 | [],h,_=>rfl
 |(i,j)::r,h,hσ=>by
  unfold DZ at hσ;simp only[Af]at hσ;have ih:=WN G r (AT h i (G j)) hσ.2;show _=HT (AT h i (G j)) (r.map fun p=>(p.1,G p.2));rw[←ih]
  funext i'
  have hn:Ch r i=none:=by
   have:=hσ.1.1.1
   cases e:Ch r i with
   |none=>rfl
   |some k=>rw[e]at this;simp at this
  by_cases e:i'=i
  ·subst e;have e1:Ch ((i',j)::r) i'=some j:=by unfold Ch;rw[CU];rfl
   rw[e1,hn];show G j=AT h i' (G j) i';unfold AT;rw[CU];rfl
  ·have e1:Ch ((i,j)::r) i'=Ch r i':=by
    show(bif Nat.beq i i' then some j else Ch r i')=_;rw[Cc (TP e)];rfl
   rw[e1];cases Ch r i' with
   |some k=>rfl
   |none=>show h i'=AT h i (G j) i';unfold AT;rw[Cc e];rfl
theorem Uq{σ:Hh}{d:Nat}(hσ:DZ σ=true){h h' : Nat→HO}:D2 σ d 0 h h'=HT h (σ.map fun p=>(p.1,(h' p.2).ren (E7 σ d 0) h')):=by
 rw[←WN (fun j=>(h' j).ren (E7 σ d 0) h') σ h hσ]
 funext i
 unfold D2;cases Ch σ i with
 |some j=>rfl
 |none =>
  have:(Nat.ble (Bu d 0) i&&Nat.blt i (Bu d 0))=false:=by
   rw[AL];simp only[UU,Af,C3,Cg];omega
  simp only[this]
section
variable {cx:Cx}{op:Op}{dst:Option Nat}{ty:Nat}{pos:String}{after:Array Edge}{gd:Option (Nat×Bool)}{st:St}{R:List Nat}{w:Option Nat}{K:HK}

theorem D6.toL(h:D6 cx ⟨dst,op,ty,pos,after,gd⟩ st R w K):Rc cx ⟨dst,op,ty,pos,after,gd⟩ st R w K:=by
 obtain⟨v,e,h1,h2,h3⟩:=h;cases e with
 |none=>exact⟨v,[],h1,fun r o' e=>(by cases e),h3⟩
 |some p=>exact⟨v,[p],h1,fun r o' e=>by
   obtain rfl:=Ai.1 e;obtain⟨a,b⟩:=h2 r o' rfl;exact⟨by rw[a];exact .inl rfl,b⟩,h3⟩
theorem YK{c:Call}(hk:F1 cx true ⟨dst,.call c,ty,pos,after,gd⟩ st K)(hf:Fi cx ⟨dst,.call c,ty,pos,after,gd⟩ st=some (R,w)):Rc cx ⟨dst,.call c,ty,pos,after,gd⟩ st R w K:=by
 obtain⟨og,args,GY⟩:=c;have Jc:∀st2,IF ⟨dst,.call ⟨og,args,GY⟩,ty,pos,after,gd⟩ R st st2→args.toList.map (ev st2.t)=args.toList.map (ev st.t):=fun st2 ha =>
  Be fun x hx=>ha.t x (by simp only[Op.operands,Call.operands,RB];exact .inr (by simpa using hx))
 cases og with
 |invoke r m=>exact hk.elim
 |value f =>
  have hk:Gm cx true dst st (ev st.t f) (args.toList.map (ev st.t)) K:=hk;have hf:GU cx dst (.value f) st.t (args.toList.map (ev st.t))=some (R,w):=hf;unfold GU at hf;unfold Gm at hk;simp only at hf hk;have hn:=Jc;split at hf
  ·rename_i ZV;rw[ZV]at hk;cases hf;obtain⟨res,h1,h2⟩:=hk;refine D6.toL ⟨res,none,h2,fun r o' e=>(by cases e),fun st2 ha K' h'=>?_⟩;show Gm cx true dst st2 (ev st2.t f) (args.toList.map (ev st2.t)) K';rw[Jc st2 ha,ha.t f (by simp[Op.operands,Call.operands])];unfold Gm;simp only[ZV];refine⟨res,?_,h'⟩;rw[KL (h:=st.h) (fun r hr=>ha.h r (Bs _ hr)),PV (h:=st.h) (fun r hr=>ha.h r (Bo _ hr))];exact h1
  ·rename_i ZV;rw[ZV]at hk;simp only at hk;cases dst with
   |none=>exact hk.elim
   |some d =>
    obtain⟨n,sz,es,h1,h2,h3⟩:=hk;have hf:some (Bu d 0::(Wo (ev st.t f)++SF (args.toList.map (ev st.t))),some (Bu d 0))=some (R,w):=hf;cases hf;refine D6.toL ⟨_,some (Bu d 0,_),h3,fun r o' e=>(by cases e;exact⟨rfl,Ab ..⟩),fun st2 ha K' h'=>?_⟩;show Gm cx true (some d) st2 (ev st2.t f) (args.toList.map (ev st2.t)) K';rw[Jc st2 ha,ha.t f (by simp[Op.operands,Call.operands])];unfold Gm;simp only[ZV];refine⟨n,sz,es,?_,?_,h'⟩
    ·have:Dq st2.h d 1=Dq st.h d 1:=by simp only[Dq,ha.h (Bu d 0) (Ab ..)]
     rw[this];exact h1
    ·rw[KL (h:=st.h) (fun r hr=>ha.h r (Ag _ (Bs _ hr))),PV (h:=st.h) (fun r hr=>ha.h r (Ag _ (Bo _ hr)))];exact h2
  ·rename_i ZV;rw[ZV]at hk;have hk:QO cx 0 dst st.h (ev st.t f) (args.toList.map (ev st.t)) K:=hk;split at hf
   ·rename_i r n l hl;cases hf;have Je:=hk;unfold QO at Je;rw[hl]at Je;split at Je
    ·rename_i d0 f0 r0 n0 l0 e1 e2 z1 z2;cases e2;split at Je
     ·rename_i vs ZW;split at Je
      ·rename_i sz es hr;obtain⟨n',EA,h1,h2⟩:=Je;refine D6.toL ⟨_,some (r,_),h2,fun r o' e=>(by cases e;exact⟨rfl,Ab ..⟩),fun st2 ha K' h'=>?_⟩;show Gm cx true _ st2 (ev st2.t f) (args.toList.map (ev st2.t)) K';rw[Jc st2 ha,ha.t f (by simp[Op.operands,Call.operands]),hl,e1];unfold Gm;simp only[ZV];unfold OS;simp only;unfold QO;simp only[ZW,ha.h r (Ab ..),hr];exact⟨n',EA,h1,h'⟩
      ·exact Je.elim
     ·exact Je.elim
    ·exact Je.elim
   ·cases hf
  ·rename_i k ZV;rw[ZV]at hk;cases hb:Nat.beq k 1 with
   |true =>
    have TX:Nat.beq (k+1) 2=true:=hb;have hk:TE cx dst st (ev st.t f) (args.toList.map (ev st.t)) K:=by
     have Je:(match Nat.beq (k+1) 2 with | true=>TE cx dst st (ev st.t f) (args.toList.map (ev st.t)) K | false=>match Nat.beq (k+1) 3 with | true=>Qc cx dst st (ev st.t f) (args.toList.map (ev st.t)) K | false=>OS cx (k+1) dst st (ev st.t f) (args.toList.map (ev st.t)) K):=hk;rw[TX]at Je;exact Je
    rw[hb]at hf;cases dst with
    |none=>exact hk.elim
    |some d =>
     obtain⟨sz,es,h1,h2,h3⟩:=hk;have hf:some (Bu d 0::(Wo (ev st.t f)++SF (args.toList.map (ev st.t))),some (Bu d 0))=some (R,w):=hf;cases hf;refine D6.toL ⟨_,some (Bu d 0,_),h3,fun r o' e=>(by cases e;exact⟨rfl,Ab ..⟩),fun st2 ha K' h'=>?_⟩;show Gm cx true (some d) st2 (ev st2.t f) (args.toList.map (ev st2.t)) K';rw[Jc st2 ha,ha.t f (by simp[Op.operands,Call.operands])];unfold Gm;simp only[ZV,TX];refine⟨sz,es,?_,?_,h'⟩
     ·have:Dq st2.h d 1=Dq st.h d 1:=by simp only[Dq,ha.h (Bu d 0) (Ab ..)]
      rw[this];exact h1
     ·rw[KL (h:=st.h) (fun r hr=>ha.h r (Ag _ (Bs _ hr))),PV (h:=st.h) (fun r hr=>ha.h r (Ag _ (Bo _ hr)))];exact h2
   |false =>
    have TX:Nat.beq (k+1) 2=false:=hb;rw[hb]at hf;have Je:(match Nat.beq (k+1) 2 with | true=>TE cx dst st (ev st.t f) (args.toList.map (ev st.t)) K | false=>match Nat.beq (k+1) 3 with | true=>Qc cx dst st (ev st.t f) (args.toList.map (ev st.t)) K | false=>OS cx (k+1) dst st (ev st.t f) (args.toList.map (ev st.t)) K):=hk;rw[TX]at Je;cases hc:Nat.beq k 2 with
    |true =>
     have Re:Nat.beq (k+1) 3=true:=hc;rw[hc]at hf;simp only[Re]at Je;have hf:eS (args.toList.map (ev st.t))=some (R,w):=hf;unfold eS at hf;unfold Qc at Je;split at hf
     ·rename_i vs ZW;cases hf;split at Je
      ·rename_i l iL e1 e2 z1 z2;rw[ZW]at e2;cases e2;split at Je
       ·rename_i r sz es la n e3 e4;obtain⟨⟨rfl,rfl⟩,v,EA,n',h1,h2⟩:=Je;refine⟨_,[(1001,_),(1000,_)],h2,fun r' o' e=>?_,fun st2 ha K' h'=>?_⟩
        ·rcases AF.1 e with e | e
         ·cases e
          exact⟨.inr (.inl ⟨by decide,.inr (by decide)⟩),by simp⟩
         ·obtain e:=Ai.1 e;cases e;exact⟨.inr (.inl ⟨by decide,.inl (by decide)⟩),by simp⟩
        show Gm cx true _ st2 (ev st2.t f) (args.toList.map (ev st2.t)) K';rw[Jc st2 ha,ha.t f (by simp[Op.operands,Call.operands]),e1];unfold Gm;simp only[ZV,TX,Re];unfold Qc;simp only[ZW,ha.h 1000 (by simp),ha.h 1001 (by simp),e3,e4];exact⟨⟨trivial,trivial⟩,v,EA,n',h1,h'⟩
       ·exact Je.elim
      ·exact Je.elim
     ·cases hf
    |false =>
    have Re:Nat.beq (k+1) 3=false:=hc;rw[hc]at hf;have YT:OS cx (k+1) dst st (ev st.t f) (args.toList.map (ev st.t)) K:=by
     simp only[Re]at Je;exact Je
    have mW:eP k dst (args.toList.map (ev st.t))=some (R,w):=hf;unfold eP at mW;unfold OS at YT;cases he:Nat.beq k 3 with
    |true =>
     have dw:Nat.beq (k+1) 4=true:=he;rw[he]at mW;rw[dw]at YT;have mW:some (jz,some Vu)=some (R,w):=mW;have YT:W4 cx dst st (ev st.t f) (args.toList.map (ev st.t)) K:=YT;cases mW;unfold W4 at YT;split at YT
     ·rename_i d f' e2 _ _ _;obtain⟨σ,H0,Hn,args',res,g1,g2,g3,g4⟩:=YT;simp only[Af]at g2;refine⟨_,σ.map fun p=>(p.1,(Ad Hn Aa p.2).ren (E7 σ d 0) (Ad Hn Aa)),(Uq (h:=st.h) (h':=Ad Hn Aa) (d:=d) g2.1.1)▸g4,fun r' o' e=>?_,fun st2 ha K' h'=>?_⟩
      ·obtain⟨p,hp,e⟩:=Ao.1 e;cases e;exact⟨.inr (.inr rfl),kp (BB.1 g2.2 p hp)⟩
      ·show Gm cx true _ st2 (ev st2.t f) (args.toList.map (ev st2.t)) K';rw[Jc st2 ha,ha.t f (by simp[Op.operands,Call.operands])];unfold Gm;simp only[ZV,TX,Re];unfold OS;simp only[dw];unfold W4;rw[e2];refine⟨σ,H0,Hn,args',res,fun h2 hh=>g1 h2 fun r hr=>(hh r hr).trans (ha.h r hr),by simp only[Af];exact g2,g3,?_⟩;rw[Uq (h:=st2.h) (h':=Ad Hn Aa) (d:=d) g2.1.1];exact h'
     ·exact YT.elim
    |false =>
    have dw:Nat.beq (k+1) 4=false:=he;rw[he]at mW;rw[dw]at YT;have hf:ZM dst (args.toList.map (ev st.t))=some (R,w):=mW;have hk:QO cx (k+1) dst st.h (ev st.t f) (args.toList.map (ev st.t)) K:=YT;obtain⟨d,r,n,l,rfl,hl,e0⟩:=YI hf;cases e0;unfold QO at hk;rw[hl]at hk;split at hk
    ·rename_i d0 f0 r0 n0 l0 e9 e1 e2;cases e9;cases e2;split at hk
     ·rename_i vs ZW;split at hk
      ·rename_i sz es hr;obtain⟨n',EA,h0,h1,h2⟩:=hk;have tO:=h0;simp only[Af,Cg]at tO;refine⟨_,[(r,.dead),(Bu d 0,_)],h2,fun r' o' e=>?_,fun st2 ha K' h'=>?_⟩
       ·rcases AF.1 e with e | e
        ·cases e
         refine⟨.inr (.inl ⟨by unfold Bu;omega,.inl ?_⟩),Ab ..⟩;rw[Nat.add_mul_mod_self_left,Nat.mod_eq_of_lt tO.1.2]
        ·obtain e:=Ai.1 e;cases e;refine⟨.inr (.inl ⟨by unfold Bu;omega,.inr ?_⟩),Ag _ (Ab ..)⟩;rw[Nat.add_mul_div_left _ _ (by decide),Nat.div_eq_of_lt tO.1.2,Bd]
       show Gm cx true _ st2 (ev st2.t f) (args.toList.map (ev st2.t)) K';rw[Jc st2 ha,ha.t f (by simp[Op.operands,Call.operands]),hl,e1];unfold Gm;simp only[ZV,TX,Re];unfold OS;simp only[dw];unfold QO;simp only[ZW,ha.h r (Ab ..),hr]
       have:Dq st2.h d 1=Dq st.h d 1:=by simp only[Dq,ha.h (Bu d 0) (Ag _ (Ab ..))]
       exact⟨n',EA,by rw[this];exact h0,h1,h'⟩
      ·exact hk.elim
     ·exact hk.elim
    ·exact hk.elim
 |builtin b =>
  refine D6.toL ?_;have mm:∀f:Int→Int→Int,(∀(d:Option Nat) (h:Nat→HO) (GY:List Nat) (args:List AV) (K:HK),F4 cx d h b GY args K=(match args with | [x,y]=>kr f x y fun v=>K v h | _=>False))→R=[]∧w=none→D6 cx ⟨dst,.call ⟨.builtin b,args,GY⟩,ty,pos,after,gd⟩ st R w K:=by
   rintro f hb ⟨rfl,rfl⟩
   have hk:F4 cx dst st.h b GY.toList (args.toList.map (ev st.t)) K:=hk;rw[hb]at hk;split at hk
   ·rename_i x y e;refine .pick (kK f x y) hk fun st2 ha K' h=>?_;show F4 cx dst st2.h b GY.toList (args.toList.map (ev st2.t)) K';rw[hb,Jc st2 ha,e];exact h
   ·exact hk.elim
  cases b
  case max=>exact mm max (fun d h GY args K=>by cases args with | nil=>rfl | cons x l=>cases l with | nil=>rfl | cons y l=>cases l<;>rfl) (by
   have hf:GU cx dst (.builtin .max) st.t (args.toList.map (ev st.t))=some (R,w):=hf;simp only[GU]at hf;cases hf;exact⟨rfl,rfl⟩)
  case min=>exact mm min (fun d h GY args K=>by cases args with | nil=>rfl | cons x l=>cases l with | nil=>rfl | cons y l=>cases l<;>rfl) (by
   have hf:GU cx dst (.builtin .min) st.t (args.toList.map (ev st.t))=some (R,w):=hf;simp only[GU]at hf;cases hf;exact⟨rfl,rfl⟩)
  case append =>
   obtain⟨l⟩:=args
   match l,hk,hf with
   | [s,x],hk,hf=>exact VI hk hf
   | [],hk,hf=>cases GY;exact hk.elim
   | [_],hk,hf=>exact hk.elim
   |_::_::_::_,hk,hf=>exact hk.elim
  case len =>
   obtain⟨l⟩:=args
   match l,hk,hf with
   | [x],hk,hf=>exact bE hk hf
   | [],hk,hf=>exact hk.elim
   |_::_::_,hk,hf=>exact hk.elim
  all_goals exact hk.elim
theorem Ym{o:Oper}(hc:∀c,o.op≠.call c)(hs:(∃t x lo hi mx,o.op=.slice t x lo hi mx)→Nl cx.pl.tok o.dst=none)(hk:F1 cx true o st K)(hf:Fi cx o st=some (R,w)):D6 cx o st R w K:=by
 obtain⟨dst,op,ty,pos,after,gd⟩:=o;cases op with
 |call c=>exact absurd rfl (hc c)
 |alloc e=>exact WZ hk hf
 |box e x=>exact bD hk hf
 |buildSlice t n ps=>exact Po hk hf
 |makeSlice t n c=>exact QS hk hf
 |makeMap t r=>exact TW hk hf
 |store t p x=>exact W0 hk hf
 |mapUpdate t m k x=>exact QT hk hf
 |makeFunc fn first cap=>exact Su hk hf
 |load t p=>exact YL hk hf
 |assign x=>exact VJ hk hf
 |slice t x lo hi mx=>exact Qq (hs ⟨t,x,lo,hi,mx,rfl⟩) hk hf
 |lookup t x i ok=>exact VK hk hf
 |move x =>
  cases hf
  exact .pick (Di _) hk fun st2 ha K' h=>by simp only[F1,ha.t x (by simp[Op.operands])];exact h
 |pick c a b =>
  cases hf
  exact .pick (cS _ _ _) hk fun st2 ha K' h=>by simp only[F1,ha.t c (by simp[Op.operands]),ha.t a (by simp[Op.operands]),ha.t b (by simp[Op.operands])];exact h
 |nilCheck x =>
  cases hf
  exact .pick (gO _) hk fun st2 ha K' h=>by simp only[F1,ha.t x (by simp[Op.operands])];exact h
 |binOp op t x y u =>
  simp only[Fi]at hf;split at hf
  ·cases hf
  ·rename_i hx;cases hf;exact .pick (cQ _ _ _ _ _ _ hx) hk fun st2 ha K' h=>by simp only[F1,ha.t x (by simp[Op.operands]),ha.t y (by simp[Op.operands])];exact h
 |unOp op t x =>
  cases hf
  exact .pick (cU _ _) hk fun st2 ha K' h=>by simp only[F1,ha.t x (by simp[Op.operands])];exact h
 |convert s t x =>
  cases hf
  exact .pick (cR _ _ _ _) hk fun st2 ha K' h=>by simp only[F1,ha.t x (by simp[Op.operands])];exact h
 |fieldAddr s x f =>
  cases hf
  exact .pick (Zh _ _ _ _) hk fun st2 ha K' h=>by simp only[F1,ha.t x (by simp[Op.operands])];exact h
 |field s x f =>
  cases hf
  exact .pick (XZ _ _ _ _) hk fun st2 ha K' h=>by simp only[F1,ha.t x (by simp[Op.operands])];exact h
 |indexAddr t x i =>
  cases hf
  exact .pick (Th _ _ _ _) hk fun st2 ha K' h=>by simp only[F1,ha.t x (by simp[Op.operands]),ha.t i (by simp[Op.operands])];exact h
 |index t x i =>
  cases hf
  exact .pick (Zi _ _ _ _) hk fun st2 ha K' h=>by simp only[F1,ha.t x (by simp[Op.operands]),ha.t i (by simp[Op.operands])];exact h
 |extract x i =>
  cases hf
  exact .pick (V9 _ _) hk fun st2 ha K' h=>by simp only[F1,ha.t x (by simp[Op.operands])];exact h
 |build t ps =>
  cases hf
  refine .pick (Zg _ _ _ _) hk fun st2 ha K' h=>?_;have hx:∀p∈ps.toList,ev st2.t p.2=ev st.t p.2:=fun p hp=>ha.t p.2 (by
   simp only[Op.operands,List.mem_toArray];exact Ao.2 ⟨p,hp,rfl⟩)
  simp only[F1];have fill:∀(pl:Nat→Option (Nat×Nat)) (l:List (Nat×Operand)) (cs:List AV) (K:List AV→Prop),(∀p∈l,ev st2.t p.2=ev st.t p.2)→Ks pl cs st2.t l K=Ks pl cs st.t l K:=by
   intro pl l
   induction l with
   |nil=>intro cs K _;rfl
   |cons p l ih =>
    intro cs K hp;obtain⟨i,x⟩:=p;have h1:ev st2.t x=ev st.t x:=hp (i,x) (Ab ..);have h2:∀cs,Ks pl cs st2.t l K=Ks pl cs st.t l K:=fun cs=>ih cs K (fun p ng=>hp p (Ag _ ng));simp only[Ks,h1,h2]
  unfold Pd at h⊢;simp only[fill _ _ _ _ hx];exact h
 |_=>cases hf
theorem aX{o:Oper}(hk:F1 cx true o st K)(hf:Fi cx o st=some (R,w)):Rc cx o st R w K:=by
 obtain⟨dst,op,ty,pos,after,gd⟩:=o
 by_cases h:∃c,op=.call c
 ·obtain⟨c,rfl⟩:=h;exact YK hk hf
 ·by_cases h2:∃t x lo hi mx,op=.slice t x lo hi mx
  ·obtain⟨t,x,lo,hi,mx,rfl⟩:=h2;cases hp:Nl cx.pl.tok dst with
   |none=>exact D6.toL (Qq hp hk hf)
   |some p=>exact bF hp hk hf
  ·exact D6.toL (Ym (fun c e=>h ⟨c,e⟩) (fun e=>absurd e h2) hk hf)
end
end Go.Eng

namespace Go.Eng

theorem UF{cx:Cx}{o:Oper}{st st2:St}(h:∀x∈o.op.operands,ev st2.t x=ev st.t x):Fi cx o st2=Fi cx o st:=by
 obtain⟨dst,op,ty,pos,after,gd⟩:=o;cases op with
 |call c =>
  obtain⟨og,args,GY⟩:=c;have ha:args.toList.map (ev st2.t)=args.toList.map (ev st.t):=Be fun x hx=>h x (by simp only[Op.operands,Call.operands,RB];exact .inr (by simpa using hx));simp only[Fi];rw[ha];cases og with
  |value f =>
   have hf:ev st2.t f=ev st.t f:=h f (by simp[Op.operands,Call.operands]);simp only[GU,hf]
  |builtin b =>
   generalize args.toList.map (ev st.t)=l
   match l with
   | []=>cases b<;>rfl
   | [x]=>cases b<;>cases x<;>rfl
   | [x,y]=>cases b<;>cases x<;>rfl
   |x::_::_::_=>cases b<;>cases x<;>rfl
  |invoke r m=>rfl
 |box e x=>simp only[Fi,h x (by simp[Op.operands])]
 |buildSlice t n ps =>
  have hx:ps.toList.map (fun p=>ev st2.t p.2)=ps.toList.map (fun p=>ev st.t p.2):=Be fun p hp=>h p.2 (by
   simp only[Op.operands,List.mem_toArray];exact Ao.2 ⟨p,hp,rfl⟩)
  simp only[Fi,hx]
 |store t p x=>simp only[Fi,h p (by simp[Op.operands]),h x (by simp[Op.operands])]
 |mapUpdate t m k x=>simp only[Fi,h m (by simp[Op.operands]),h x (by simp[Op.operands])]
 |makeFunc fn first cap =>
  have hx:cap.toList.map (ev st2.t)=cap.toList.map (ev st.t):=Be fun x hx=>h x (by simp only[Op.operands,RB];exact .inr (by simpa using hx));simp only[Fi,hx]
 |load t p=>simp only[Fi,h p (by simp[Op.operands])]
 |assign x=>simp only[Fi,h x (by simp[Op.operands])]
 |binOp op t x y u=>simp only[Fi,h x (by simp[Op.operands])]
 |slice t x lo hi mx=>simp only[Fi,h x (by simp[Op.operands])]
 |lookup t x i ok=>simp only[Fi,h x (by simp[Op.operands])]
 |_=>rfl

def Kg(ops:Array Oper)(o:Oper)(st st2:St):Prop:=∀d∈o.looksAt ops,st2.t d=st.t d
theorem Kg.operands{ops:Array Oper}{o:Oper}{st st2:St}(h:Kg ops o st st2):∀x∈o.op.operands,ev st2.t x=ev st.t x:=fun x hx=>by
 cases x with
 |tmp t=>exact h t (Bs _ (List.mem_filterMap.2 ⟨.tmp t,by simpa using hx,rfl⟩))
 |_=>rfl
theorem UY(ops:Array Oper)(j:Nat):J5 ops.toList j=(ops[j]?).bind (·.dst):=by
 have:∀(l:List Oper) (j:Nat),J5 l j=(l[j]?).bind (·.dst):=by
  intro l
  induction l with
  |nil=>intro j;simp[J5]
  |cons o l ih =>
   intro j;cases j with
   |zero=>simp[J5]
   |succ j=>simp[J5,ih]
 rw[this];simp
theorem Kg.guard{ops:Array Oper}{o:Oper}{st st2:St}(h:Kg ops o st st2){j:Nat}{b:Bool}(hg:o.guard=some (j,b)){d:Nat}(hd:J5 ops.toList j=some d):st2.t d=st.t d :=
 h d (Bo _ (by rw[hg];simp only;rw[←UY,hd];simp))

def St.after(st:St)(o:Oper)(v:AV)(e:List (Nat×HO)):St:=st.put o.dst v (HT st.h e)

def O9(cx:Cx)(ops:Array Oper)(o:Oper)(st:St)(f:FE)(v:AV)(e:List (Nat×HO)):Prop :=
 (∀r o',(r,o')∈e→RD f.2 r∧r∈f.1)∧∀st2,Kg ops o st st2→(∀r∈f.1,st2.h r=st.h r)→∀K:St→Prop,K (st2.after o v e)→IH cx true ops.toList o st2 K

theorem Ss{cx:Cx}{ops:Array Oper}{o:Oper}{st st2:St}(h:Kg ops o st st2):M7 cx ops.toList o st2=M7 cx ops.toList o st:=by
 unfold M7;split
 ·exact UF h.operands
 ·rename_i j want hg;split
  ·rfl
  ·rename_i d hd;simp only[h.guard hg hd];split<;>first | exact UF h.operands | rfl

theorem N7{cx:Cx}{ops:Array Oper}{o:Oper}{st:St}{f:FE}{K:St→Prop}(hk:IH cx true ops.toList o st K)(hf:M7 cx ops.toList o st=some f) :
  ∃v e,O9 cx ops o st f v e∧K (st.after o v e):=by
 obtain⟨R,w⟩:=f;have skip:R=[]∧w=none→K (st.put o.dst (.v undef) st.h)→(∀st2,Kg ops o st st2→∀K:St→Prop,K (st2.put o.dst (.v undef) st2.h)→IH cx true ops.toList o st2 K)→∃v e,O9 cx ops o st (R,w) v e∧K (st.after o v e):=by
  rintro⟨rfl,rfl⟩ h1 h2
  exact⟨.v undef,[],⟨fun r o' e=>(by cases e),fun st2 hl _ K h=>h2 st2 hl K h⟩,h1⟩
 have run:Fi cx o st=some (R,w)→F1 cx true o st (fun v h=>K (st.put o.dst v h))→(∀st2,Kg ops o st st2→∀K:St→Prop,F1 cx true o st2 (fun v h=>K (st2.put o.dst v h))→IH cx true ops.toList o st2 K)→∃v e,O9 cx ops o st (R,w) v e∧K (st.after o v e):=by
  intro hf hk h2;obtain⟨v,e,q1,q2,q3⟩:=aX hk hf;exact⟨v,e,⟨q2,fun st2 hl hh K h=>h2 st2 hl K (q3 st2 ⟨hl.operands,hh⟩ _ h)⟩,q1⟩
 unfold IH at hk;unfold M7 at hf;cases hg:o.guard with
 |none =>
  rw[hg]at hk hf;exact run hf hk (fun st2 hl K h=>by unfold IH;rw[hg];exact h)
 |some p =>
  obtain⟨j,want⟩:=p;rw[hg]at hk hf;simp only at hk hf;cases hd:J5 ops.toList j with
  |none=>rw[hd]at hk;exact hk.elim
  |some d =>
   rw[hd]at hk hf;simp only at hk hf;have he:∀st2,Kg ops o st st2→st2.t d=st.t d:=fun st2 hl=>hl.guard hg hd;generalize hx:st.t d=x at hk hf he;split at hk
   ·exact run hf hk (fun st2 hl K h=>by unfold IH;simp only[hg,hd,he st2 hl];exact h)
   ·exact run hf hk (fun st2 hl K h=>by unfold IH;simp only[hg,hd,he st2 hl];exact h)
   ·exact skip (by cases hf;exact⟨rfl,rfl⟩) hk (fun st2 hl K h=>by unfold IH;simp only[hg,hd,he st2 hl];exact h)
   ·exact skip (by cases hf;exact⟨rfl,rfl⟩) hk (fun st2 hl K h=>by unfold IH;simp only[hg,hd,he st2 hl];exact h)
   ·exact skip (by cases hf;exact⟨rfl,rfl⟩) hk (fun st2 hl K h=>by unfold IH;simp only[hg,hd,he st2 hl];exact h)
   ·exact hk.elim

def oZ(cx:Cx)(ops:Array Oper)(FT:Nat→FE)(i:Nat)(K:St→Prop)(st:St):Prop :=
 match ops[i]? with
 |none=>K st
 |some o=>M7 cx ops.toList o st=some (FT i)∧IH cx true ops.toList o st K
def Wt(cx:Cx)(ops:Array Oper)(FT:Nat→FE)(K:St→Prop):Nat→Array Bool→St→Prop
 |0,listed,st=>Region.ready .any ops listed=[]∧K st
 |fuel+1,listed,st =>
  (Region.ready .any ops listed=[]→K st)∧∀i∈Region.ready .any ops listed,oZ cx ops FT i (Wt cx ops FT K fuel (listed.setIfInBounds i true)) st

theorem dh(t:Nat→AV){d d' : Nat}(h:d'≠d)(v v' : AV):HG (HG t d v) d' v'=HG (HG t d' v') d v:=by
 funext i
 unfold HG
 by_cases h1:i=d<;>by_cases h2:i=d'
 ·exact absurd (h2.symm.trans h1) h
 ·subst h1;simp[Cc h2]
 ·subst h2;simp[Cc h1]
 ·simp[Cc h1,Cc h2]
theorem bN(t:Nat→HO){d d' : Nat}(h:d'≠d)(v v' : HO):AT (AT t d v) d' v'=AT (AT t d' v') d v:=by
 funext i
 unfold AT
 by_cases h1:i=d<;>by_cases h2:i=d'
 ·exact absurd (h2.symm.trans h1) h
 ·subst h1;simp[Cc h2]
 ·subst h2;simp[Cc h1]
 ·simp[Cc h1,Cc h2]
theorem OF{l:List Nat}{n:Nat}(h:n∈l):IB l n=true:=by
 induction l with
 |nil=>cases h
 |cons a l ih =>
  unfold IB
  by_cases e:a=n
  ·subst e;simp
  ·rw[Cc e];exact ih ((AF.1 h).resolve_left (fun q=>e q.symm))
theorem XH{l:List Nat}{n:Nat}(h:IB l n=true):n∈l:=by
 induction l with
 |nil=>cases h
 |cons a l ih =>
  unfold IB at h
  by_cases e:a=n
  ·exact e▸Ab ..
  ·rw[Cc e]at h;exact Ag _ (ih h)
theorem XU{l:List Nat}{x:Nat}(h:XS l x=true):∀r,RD (some x) r→r∉l:=by
 intro r hc hr;unfold XS at h
 by_cases hx:x=Vu
 ·subst hx;rw[CU,JE]at h;cases l with
  |nil=>cases hr
  |cons a l=>cases h
 rw[Cc hx,D1]at h;simp only[Af,CO,CN,Cg]at h;rcases hc with rfl | ⟨h1,h2⟩ | hc
 ·rw[OF hr]at h;cases h.1
 ·rcases h.2 with h3 | h3
  ·omega
  ·rcases h2 with rfl | rfl
   ·rw[OF hr]at h3;cases h3.1
   ·rw[OF hr]at h3;cases h3.2
 ·exact hx hc
theorem bt{a b:FE}(h:Sb a b=true):(∀r,RD a.2 r→r∉b.1)∧∀r,RD b.2 r→r∉a.1:=by
 obtain⟨a1,a2⟩:=a;obtain⟨b1,b2⟩:=b;simp only[Sb,Af]at h;refine⟨fun r e=>?_,fun r e=>?_⟩
 ·cases a2 with
  |none=>exact e.elim
  |some x=>exact XU h.1 r e
 ·cases b2 with
  |none=>exact e.elim
  |some x=>exact XU h.2 r e

section
variable {cx:Cx}{ops:Array Oper}{FT:Nat→FE}
theorem QB{oi oj:Oper}(h:∀d,oi.dst=some d→d∉oj.looksAt ops)(st:St)(v:AV)(e:List (Nat×HO)):Kg ops oj st (st.after oi v e):=by
 intro d hd;cases hdst:oi.dst with
 |none=>simp[St.after,St.put,hdst]
 |some d' =>
  have:d≠d':=fun q=>h d' hdst (q▸hd)
  simp[St.after,St.put,hdst,HG,Cc this]
theorem Kg.symm{o:Oper}{st st2:St}(h:Kg ops o st st2):Kg ops o st2 st:=fun d hd=>(h d hd).symm
theorem ZS{o:Oper}{st:St}{v:AV}{e:List (Nat×HO)}:(st.after o v e).h=HT st.h e:=by
 unfold St.after St.put;cases o.dst<;>rfl
theorem Pj{r:Nat}:∀{e:List (Nat×HO)} {h:Nat→HO},(∀o',(r,o')∉e)→HT h e r=h r
 | [],_,_=>rfl
 |p::e,h,hr=>by
  have:r≠p.1:=fun q=>hr p.2 (by rw[q];exact Ab ..)
  show HT (AT h p.1 p.2) e r=h r;rw[Pj fun o' ho=>hr o' (Ag _ ho),B3 _ _ _ _ this]
theorem WO{r:Nat}{o:HO}:∀{e:List (Nat×HO)} {h:Nat→HO},(∀r' o',(r',o')∈e→r'≠r)→HT (AT h r o) e=AT (HT h e) r o
 | [],_,_=>rfl
 |p::e,h,hr=>by
  show HT (AT (AT h r o) p.1 p.2) e=AT (HT (AT h p.1 p.2) e) r o;rw[bN h (hr p.1 p.2 (Ab ..)),WO fun r' o' ho=>hr r' o' (Ag _ ho)]
theorem UD:∀{e e' : List (Nat×HO)} {h:Nat→HO},(∀r o r' o',(r,o)∈e→(r',o')∈e'→r'≠r)→HT (HT h e) e'=HT (HT h e') e
 | [],_,_,_=>rfl
 |p::e,e',h,hd=>by
  show HT (HT (AT h p.1 p.2) e) e'=HT (AT (HT h e') p.1 p.2) e;rw[←WO fun r' o' ho=>hd p.1 p.2 r' o' (Ab ..) ho,UD fun r o r' o' h1 h2=>hd r o r' o' (Ag _ h1) h2]
theorem Yl{oi oj:Oper}{st:St}{v v' : AV}{e e' : List (Nat×HO)}(h1:∀d,oi.dst=some d→oj.dst≠some d)(h2:∀r o r' o',(r,o)∈e→(r',o')∈e'→r'≠r) :
  (st.after oi v e).after oj v' e'=(st.after oj v' e').after oi v e:=by
 have hh:HT (HT st.h e) e'=HT (HT st.h e') e:=UD h2;have key:∀o:Oper,∀v e,∀st:St,st.after o v e=⟨match o.dst with | none=>st.t | some d=>HG st.t d v,HT st.h e⟩:=fun o v e st=>by
  unfold St.after St.put;cases o.dst<;>rfl
 rw[key,key,key,key];simp only[hh];cases hi:oi.dst with
 |none=>rfl
 |some d =>
  cases hj:oj.dst with
  |none=>rfl
  |some d' =>
   have Dn:d'≠d:=fun q=>h1 d hi (by rw[hj,q]);simp only[dh st.t Dn v v']


theorem Yh{K:St→Prop}{i:Nat}{oi:Oper}{v:AV}{e:List (Nat×HO)}(hi:ops[i]?=some oi)(D:Nat→Prop)
  (hD:∀j,D j→∃oj,ops[j]?=some oj∧∃ed∈oj.after,Region.binds .any ed=true∧(ed.on=i∨D ed.on)) :
  ∀(fuel:Nat) (listed:Array Bool) (st:St),
   (∀j oj,ops[j]?=some oj→j≠i→listed.getD j true=false→¬D j→oi.apart ops oj=true∧Sb (FT i) (FT j)=true) →
   i∈Region.ready .any ops listed→(∀j,D j→listed.getD j true=false)→M7 cx ops.toList oi st=some (FT i)→O9 cx ops oi st (FT i) v e →
   Wt cx ops FT K fuel (listed.setIfInBounds i true) (st.after oi v e)→Wt cx ops FT K (fuel+1) listed st:=by
 have here:∀(fuel:Nat) (listed:Array Bool) (st:St),M7 cx ops.toList oi st=some (FT i)→O9 cx ops oi st (FT i) v e →
   Wt cx ops FT K fuel (listed.setIfInBounds i true) (st.after oi v e)→oZ cx ops FT i (Wt cx ops FT K fuel (listed.setIfInBounds i true)) st:=by
  intro fuel listed st hf hy H;unfold oZ;rw[hi];exact⟨hf,hy.2 st (fun _ _=>rfl) (fun _ _=>rfl) _ H⟩
 intro fuel
 induction fuel with
 |zero =>
  intro listed st _ hr _ hf hy H;refine⟨fun h=>(by rw[h]at hr;cases hr),fun j hj=>?_⟩
  by_cases MO:j=i
  ·subst MO;exact here 0 listed st hf hy H
  ·have:=ready_mono hj MO
   rw[H.1]at this;cases this
 |succ fuel ih =>
  intro listed st Aa hr xm hf hy H;refine⟨fun h=>(by rw[h]at hr;cases hr),fun j hj=>?_⟩
  by_cases MO:j=i
  ·subst MO;exact here (fuel+1) listed st hf hy H
  ·have h1:=H.2 j (ready_mono hj MO);obtain⟨qr,oj,jW,HW⟩:=mem_ready.1 hj;have pN:∀k,listed.getD k true=false→listed.getD k false=true→False:=fun k h0 h1=>by
    rcases DV k listed.size with h' | h'
    ·simp[h']at h0 h1;rw[h0]at h1;cases h1
    ·simp[Array.getElem?_eq_none h']at h1
   have r9:¬D j:=fun rZ=>by
    obtain⟨oj',lB,ed,he,hb,z7⟩:=hD j rZ;rw[jW]at lB;cases lB;have hl:=HW ed he hb;rcases z7 with h2 | h2
    ·exact pN _ (by rw[h2];exact(mem_ready.1 hr).1) hl
    ·exact pN _ (xm _ h2) hl
   obtain⟨pW,rZ⟩:=Aa j oj jW MO qr r9;obtain⟨a1,a2,a3⟩:=Oper.apart_spec pW;obtain⟨d1,d2⟩:=bt rZ;unfold oZ at h1⊢;rw[jW]at h1⊢;obtain⟨xG,zS⟩:=h1;have xP:=QB (ops:=ops) a1 st v e;obtain⟨vj,ej,ya,hK⟩:=N7 zS xG;have qj:∀r o',(r,o')∈e→r∉(FT j).1:=fun r o' q=>d1 r (hy.1 r o' q).1;have dw:∀r o',(r,o')∈ej→r∉(FT i).1:=fun r o' q=>d2 r (ya.1 r o' q).1;refine⟨by rw[←Ss xP];exact xG,ya.2 st xP.symm (fun r fJ=>?_) _ ?_⟩
   ·rw[ZS,Pj (fun o' q=>qj r o' q fJ)]
   ·have xO:=QB (ops:=ops) a3 st vj ej;refine ih (listed.setIfInBounds j true) (st.after oj vj ej) (fun k ok hk xN ka Nw=>?_) (ready_mono hr (TP MO)) (fun k hk=>?_) (by rw[Ss xO];exact hf) ⟨hy.1,fun st2 hl hh K' h'=>?_⟩ ?_
    ·by_cases jR:j=k
     ·subst jR;exact Aa _ ok hk xN qr Nw
     ·rw[getD_set_ne true jR]at ka;exact Aa k ok hk xN ka Nw
    ·by_cases jR:j=k
     ·subst jR;exact absurd hk r9
     ·rw[getD_set_ne true jR];exact xm k hk
    ·refine hy.2 st2 (fun d hd=>(hl d hd).trans (xO d hd)) (fun r fJ=>?_) K' h';rw[hh r fJ,ZS,Pj (fun o' q=>dw r o' q fJ)]
    ·rw[Array.setIfInBounds_comm _ _ (TP MO)]at hK;rw[←Yl a2 (fun r o r' o' q q' e2=>dw r' o' q' (by rw[e2];exact(hy.1 r o q).2))];exact hK

def lV(cx:Cx)(ops:Array Oper)(K:St→Prop):List Oper→List FE→St→Prop
 | [],[],st=>K st
 |o::r,f::fs,st=>M7 cx ops.toList o st=some f∧∃v e,O9 cx ops o st f v e∧lV cx ops K r fs (st.after o v e)
 |_,_,_=>False
theorem RJ{K:St→Prop}:∀(l:List Oper) (acc:List FE) (st:St),Wy cx ops l acc st K→∃fs,Sc ops (acc.reverse++fs)=true∧lV cx ops K l fs st
 | [],acc,st,h=>⟨[],by simpa using h.1,h.2⟩
 |o::r,acc,st,h=>by
  unfold Wy at h;split at h
  ·rename_i f hf;obtain⟨v,e,h1,h2⟩:=N7 h hf;obtain⟨fs,q1,q2⟩:=RJ r _ _ h2;exact⟨f::fs,by simpa using q1,hf,v,e,h1,q2⟩
  ·exact h.elim

theorem VN{o:Oper}{i:Nat}{D:List Nat}(h:Ow o i D=true):∃ed∈o.after,Region.binds .any ed=true∧(ed.on=i∨ed.on∈D):=by
 unfold Ow at h;obtain⟨ed,h1,h2⟩:=Bf.1 h;simp only[Af,CO]at h2;exact⟨ed,by simpa using h1,h2.1,h2.2.imp AR XH⟩
theorem Tz{i:Nat}{D:List Nat}:∀(l:List Oper) (k:Nat),Ty i D k l=true→∀j o,l[j]?=some o→k+j∈D→Ow o i D=true
 | [],_,_,_,_,h,_=>by simp at h
 |o::l,k,hs,j,o',h,hm=>by
  simp only[Ty,Af]at hs;cases j with
  |zero =>
   simp only[Bi,Bq]at h;subst h;have h1:=hs.1;rw[OF (by simpa using hm)]at h1;simpa using h1
  |succ j=>exact Tz l (k+1) hs.2 j o' (by simpa using h) (by rw[GA,Nat.add_comm 1 j];exact hm)
theorem Um{oi:Oper}{fi:FE}{D:List Nat}:∀(l:List Oper) (fs:List FE) (k:Nat),Ie ops oi fi D k l fs=true→l.length=fs.length∧∀j o f,l[j]?=some o→fs[j]?=some f→k+j∉D→oi.apart ops o=true∧Sb fi f=true
 | [],[],_,_=>⟨rfl,fun _ _ _ h=>by simp at h⟩
 | [],_::_,_,h=>by simp[Ie]at h
 |_::_,[],_,h=>by simp[Ie]at h
 |o::l,f::fs,k,h=>by
  simp only[Ie,Af,CO]at h;obtain⟨h1,h2⟩:=Um l fs (k+1) h.2;refine⟨by simp[h1],fun j o' f' q1 q2 hn=>?_⟩;cases j with
  |zero =>
   simp only[Bi,Bq]at q1 q2;subst q1;subst q2;rcases h.1 with h3 | h3
   ·exact absurd (XH h3) hn
   ·exact h3
  |succ j=>exact h2 j o' f' (by simpa using q1) (by simpa using q2) (by simpa[Nat.add_assoc,Nat.add_comm 1 j]using hn)

theorem Wu{K:St→Prop}:∀(l:List Oper) (fs:List FE) (k:Nat) (listed:Array Bool) (st:St),(∀j,l[j]?=ops[k+j]?)→(∀j f,fs[j]?=some f→FT (k+j)=f)→listed.size=ops.size →
  (∀j,j<ops.size→listed.getD j true=decide (j<k))→LR ops ops.toList k l fs=true→lV cx ops K l fs st→Wt cx ops FT K l.length listed st
 | [],[],k,listed,st,hl,_,hs,hL,_,h=>by
  refine⟨?_,h⟩;apply Lw.2;intro j hj;obtain⟨h1,o,ho,_⟩:=mem_ready.1 hj;have Dt:=(Bl.1 ho).1;rw[hL j Dt]at h1;have oA:k≤j:=by simpa using h1
  have:=hl (j-k)
  rw[show k+(j-k)=j by omega,ho]at this;simp at this
 | [],_::_,_,_,_,_,_,_,_,h,_=>by simp[LR]at h
 |_::_,[],_,_,_,_,_,_,_,h,_=>by simp[LR]at h
 |o::l,f::fs,k,listed,st,hl,hF,hs,hL,hg,h=>by
  simp only[LR,Af]at hg;obtain⟨⟨⟨⟨g1,g2⟩,g3⟩,g4⟩,g5⟩:=hg;obtain⟨hf,v,e,hy,hp⟩:=h;have h0:ops[k]?=some o:=by simpa using(hl 0).symm
  have hk:=(Bl.1 h0).1;have tW:FT k=f:=by simpa using hF 0 f rfl
  have Pp : ∀j,l[j]?=ops[k+1+j]?:=fun j=>by have:=hl (j+1);simpa[Nat.add_assoc,Nat.add_comm 1 j]using this
  have lp : ∀j f,fs[j]?=some f→FT (k+1+j)=f:=fun j f' hj=>by have:=hF (j+1) f' (by simpa using hj);simpa[Nat.add_assoc,Nat.add_comm 1 j]using this
  obtain⟨CM,pW⟩:=Um l fs (k+1) g4;have ZQ:∀j,j∈Pi k [] 0 ops.toList→k<j∧j<ops.size:=fun j hj=>by
   have:=(BB.1 g3) j hj
   simp only[Af,Cg,Cs]at this;exact this
  refine Yh h0 (fun j=>j∈Pi k [] 0 ops.toList) (fun j hj=>?_) l.length listed st (fun j oj jW jR ka r9=>?_) ?_ (fun j hj=>?_) (by rw[tW];exact hf) (by rw[tW];exact hy) ?_
  ·have Dt:=(ZQ j hj).2
   have:=Tz ops.toList 0 g2 j ops[j] (by simp[Dt]) (by simpa using hj)
   obtain⟨ed,e1,e2,e3⟩:=VN this;exact⟨ops[j],by simp[Dt],ed,e1,e2,e3⟩
  ·have Dt:=(Bl.1 jW).1;rw[hL j Dt]at ka;have oA:k<j:=by have q:k≤j:=(by simpa using ka);omega
   have e1:l[j-(k+1)]?=some oj:=by rw[Pp,show k+1+(j-(k+1))=j by omega];exact jW
   have hfl:j-(k+1)<fs.length:=by rw[←CM];exact(At.1 e1).1
   have e2:fs[j-(k+1)]?=some fs[j-(k+1)]:=Ay hfl;have e3:=lp _ _ e2;rw[show k+1+(j-(k+1))=j by omega]at e3;rw[tW,e3];exact pW _ _ _ e1 e2 (by rw[show k+1+(j-(k+1))=j by omega];exact r9)
  ·refine mem_ready.2 ⟨by rw[hL k hk];simp,o,h0,fun ed he hb=>?_⟩
   have:=(BB.1 g1) ed (by simpa using he)
   simp only[hb,Bool.not_true,LG,Cg]at this;have h1:=hL ed.on (by omega);have Dt:ed.on<listed.size:=by omega
   simp[Dt]at h1⊢;rw[h1];simpa using this
  ·have:=ZQ j hj
   rw[hL j this.2];simp;omega
  ·refine Wu l fs (k+1) _ _ Pp lp (by simp[hs]) (fun j hj=>?_) g5 hp
   by_cases jR:j=k
   ·subst jR
    have:j<listed.size:=by omega
    simp[this]
   ·rw[getD_set_ne true (TP jR),hL j hj]
    by_cases h1:j<k
    ·simp[h1];omega
    ·simp[h1];omega

theorem aT{K:St→Prop}{st:St}(h:Wy cx ops ops.toList [] st K):Region.noSelect ops=true∧∃FT,Wt cx ops FT K ops.size (Array.replicate ops.size false) st:=by
 obtain⟨fs,h1,h2⟩:=RJ _ _ _ h;simp only[Sc,List.reverse_nil,D8,Af]at h1;refine⟨h1.1,fun j=>fs.getD j default,?_⟩
 have:=Wu (FT:=fun j=>fs.getD j default) ops.toList fs 0 (Array.replicate ops.size false) st (by simp) (fun j f hj=>by simp[hj]) (by simp) (fun j hj=>by simp[hj]) h1.2 h2
 simpa using this
end
end Go.Eng
