/- Lemmas for the claims of this seat, without a condition: part 10 (EngX, EngY, EngZ). -/
import Derived.Test.YtmcbkdbfaneofaaGreatDoorFA09
namespace Go.Eng
section
variable {cx:Cx}{dst:Option Nat}{ty:Nat}{pos:String}{after:Array Edge}{gd:Option (Nat×Bool)}{st:St}{R:List Nat}{w:Option Nat}{K:HK}
theorem Y9{t:Nat}{p:Operand}(hk:FO cx true ⟨dst,.load t p,ty,pos,after,gd⟩ st K)(hf:Fe cx ⟨dst,.load t p,ty,pos,after,gd⟩ st=some (R,w)):Eh cx ⟨dst,.load t p,ty,pos,after,gd⟩ st R w K:=by
 simp only[FO]at hk;have hn:∀st2,IK ⟨dst,.load t p,ty,pos,after,gd⟩ R st st2→ev st2.t p=ev st.t p:=fun st2 ha=>ha.t p (by simp[Op.operands]);simp only[Fe]at hf;unfold H5 at hk;split at hf
 ·rename_i cs hp;cases hf;rw[hp]at hk;simp only at hk;exact .pick (Ib _ _ _) hk fun st2 ha K' h=>by simp only[FO,H5,hn st2 ha,hp];exact h
 ·rename_i r off hp;cases hf;rw[hp]at hk;simp only at hk;split at hk
  ·rename_i cs hr;exact .pick (Ib _ _ _) hk fun st2 ha K' h=>by simp only[FO,H5,hn st2 ha,hp,ha.h r (Ab ..),hr];exact h
  ·rename_i cs hr;exact .pick (Ib _ _ _) hk fun st2 ha K' h=>by simp only[FO,H5,hn st2 ha,hp,ha.h r (Ab ..),hr];exact h
  ·exact hk.elim
 ·rename_i r n sz i off hp;cases hf;rw[hp]at hk;simp only at hk;split at hk
  ·rename_i Gq es hr;split at hk
   ·rename_i hs;exact .pick (DA (MQ fun _=>DA (Ib _ _ _))) hk fun st2 ha K' h=>by simp only[FO,H5,hn st2 ha,hp,ha.h r (Ab ..),hr,hs];exact h
   ·exact hk.elim
  ·rename_i Gq es i' c av hr;split at hk
   ·rename_i hs;exact .pick (DA (Ib _ _ _)) hk fun st2 ha K' h=>by simp only[FO,H5,hn st2 ha,hp,ha.h r (Ab ..),hr,hs];exact h
   ·exact hk.elim
  ·exact hk.elim
 ·cases hf
theorem V5{x:Operand}(hk:FO cx true ⟨dst,.assign x,ty,pos,after,gd⟩ st K)(hf:Fe cx ⟨dst,.assign x,ty,pos,after,gd⟩ st=some (R,w)):Eh cx ⟨dst,.assign x,ty,pos,after,gd⟩ st R w K:=by
 simp only[FO]at hk;have hn:∀st2,IK ⟨dst,.assign x,ty,pos,after,gd⟩ R st st2→ev st2.t x=ev st.t x:=fun st2 ha=>ha.t x (by simp[Op.operands]);simp only[Fe]at hf;split at hf
 ·cases hf
 ·rename_i hx;cases hf;have same:∃y,∀(h:Nat→HO) (K:HK),Oe cx dst h (ev st.t x) K↔K y h:=by
   unfold Oe;cases dst with
   |none=>exact⟨_,fun _ _=>Qs⟩
   |some d =>
    simp only;cases GD cx.pl.tok d with
    |some sz =>
     simp only;cases Nat.beq sz 0 with
     |true=>exact⟨_,fun _ _=>Qs⟩
     |false =>
      refine⟨ev st.t x,fun h K=>?_⟩;simp only;split
      ·rename_i e;exact absurd e (hx _ _ _)
      ·exact Qs
    |none =>
     simp only;cases GD cx.pl.arr d with
     |some sz =>
      refine⟨ev st.t x,fun h K=>?_⟩;simp only;split
      ·rename_i e;exact absurd e (hx _ _ _)
      ·exact Qs
     |none=>exact⟨_,fun _ _=>Qs⟩
  obtain⟨y,same⟩:=same;exact .pick (Dp y) ((same _ _).1 hk) fun st2 ha K' h=>by simp only[FO];rw[hn st2 ha];exact(same _ _).2 h
theorem QJ{t:Nat}{x:Operand}{lo hi mx:Option Operand}(hp:Nv cx.pl.tok dst=none)(hk:FO cx true ⟨dst,.slice t x lo hi mx,ty,pos,after,gd⟩ st K)(hf:Fe cx ⟨dst,.slice t x lo hi mx,ty,pos,after,gd⟩ st=some (R,w)) :
  Eh cx ⟨dst,.slice t x lo hi mx,ty,pos,after,gd⟩ st R w K:=by
 simp only[FO,hp]at hk;have hn:∀st2,IK ⟨dst,.slice t x lo hi mx,ty,pos,after,gd⟩ R st st2→ev st2.t x=ev st.t x∧B6 st2.t lo=B6 st.t lo∧B6 st2.t hi=B6 st.t hi∧B6 st2.t mx=B6 st.t mx:=by
  intro st2 ha;have ww:∀y:Option Operand,(∀z,y=some z→ev st2.t z=ev st.t z)→B6 st2.t y=B6 st.t y:=by
   intro y hy;cases y with
   |none=>rfl
   |some z=>simp only[B6];rw[hy z rfl]
  exact⟨ha.t x (by simp[Op.operands]),ww lo (fun z e=>ha.t z (by simp[Op.operands,e])),ww hi (fun z e=>ha.t z (by simp[Op.operands,e])),ww mx (fun z e=>ha.t z (by simp[Op.operands,e]))⟩
 simp only[Fe,hp]at hf;split at hf
 ·cases hf
 ·rename_i hx;cases hf;have e3:B6 st.t none=some none:=rfl
  have Iv:F9 (fun K1=>Gp cx dst st.h t (ev st.t x) (B6 st.t lo) (B6 st.t hi) (some none) fun v _=>K1 v) ∧
    ∀(h:Nat→HO) (K:HK),Gp cx dst h t (ev st.t x) (B6 st.t lo) (B6 st.t hi) (some none) K↔Gp cx dst st.h t (ev st.t x) (B6 st.t lo) (B6 st.t hi) (some none) (fun v _=>K v h):=by
   generalize ev st.t x=X at hx;unfold Gp;constructor
   ·repeat' split
    all_goals first | exact CC | exact DA (Dp _) | exact DA (DA (Dp _)) | skip
    all_goals first | (rename_i e;cases e;done) | skip
    all_goals (exfalso;exact hx _ _ rfl)
   ·intro h K
    repeat' split
    all_goals first | exact Qs | skip
    all_goals exfalso
    all_goals first | exact hx _ _ rfl | (rename some none=some (some _)=>e4;cases e4)
  rw[e3]at hk;exact .pick Iv.1 ((Iv.2 _ _).1 hk) fun st2 ha K' h=>by
   obtain⟨n1,n2,n3,n4⟩:=hn st2 ha;simp only[FO,hp];rw[n1,n2,n3,n4,e3];exact(Iv.2 _ _).2 h
 ·rename_i y tk es hx;obtain⟨d,rfl,e0⟩:=It hf;cases e0;rw[hx]at hk;unfold Gp at hk;split at hk
  ·rename_i HC LL mB e1 e2 e3;split at hk
   ·split at hk<;>first | exact hk.elim | (rename_i e;cases e)
   ·rename_i e he;split at hk
    ·exact hk.elim
    ·rename_i k EK;simp only at hk;split at hk
     ·exfalso
      rename_i e4;simp only[B6]at e3;split at e3<;>cases e3
     ·rename_i m;split at hk
      ·rename some d=some _=>e5
       cases e5
       split at hk
       ·rename_i nF;refine⟨_,none,hk.2.2,fun r o' e=>(by cases e),fun st2 GW K' h'=>?_⟩;obtain⟨n1,n2,n3,n4⟩:=hn st2 GW;simp only[FO,hp];rw[n1,n2,n3,n4,hx,e1,e2,e3];unfold Gp;simp only[he];split
        ·rename_i e0;rw[EK]at e0;cases e0
        ·simp only[nF];exact⟨hk.1,hk.2.1,h'⟩
       rename_i nF;split at hk
       ·rename_i hd;refine⟨_,some (d,_),hk.2.2,fun r o' e=>(by cases e;exact⟨rfl,Ab ..⟩),fun st2 GW K' h'=>?_⟩;obtain⟨n1,n2,n3,n4⟩:=hn st2 GW;simp only[FO,hp];rw[n1,n2,n3,n4,hx,e1,e2,e3];unfold Gp;simp only[he];split
        ·rename_i e0;rw[EK]at e0;cases e0
        ·simp only[nF];rw[GW.h d (Ab ..),hd];exact⟨hk.1,hk.2.1,h'⟩
       ·exact hk.elim
      ·exact hk.elim
   ·exact hk.elim
  ·exact hk.elim
 ·cases hf
theorem cn{t:Nat}{x:Operand}{lo hi mx:Option Operand}{p:Nat}(hp:Nv cx.pl.tok dst=some p)(hk:FO cx true ⟨dst,.slice t x lo hi mx,ty,pos,after,gd⟩ st K)(hf:Fe cx ⟨dst,.slice t x lo hi mx,ty,pos,after,gd⟩ st=some (R,w)) :
  Ru cx ⟨dst,.slice t x lo hi mx,ty,pos,after,gd⟩ st R w K:=by
 simp only[FO,hp]at hk;simp only[Fe,hp]at hf;obtain⟨d',r,n,hd,hx,e0⟩:=Y7 hf;cases e0;cases dst with
 |none=>cases hd
 |some d =>
 cases hd
 unfold No at hk;split at hk
 ·rw[hx]at hk;unfold iC at hk;split at hk
  ·rename_i d0 LL e1 e2;cases e1;split at hk
   ·rename_i e he;split at hk
    ·exact hk.elim
    ·rename_i k EK;simp only at hk;split at hk
     ·rename_i sz es hr;split at hk
      ·rename_i hd;split at hk
       ·rename_i q1 q3;obtain⟨h1,hk⟩:=hk;have hr8:r<10000000∧0<Kv cx d:=by simpa using q3
        obtain⟨yt,hz⟩:=hr8;refine⟨_,[(r,.dead),(Kv cx d,_)],hk,fun r' o' e=>?_,fun st2 ha K' h'=>?_⟩
        ·rcases As.1 e with e | e
         ·cases e
          refine⟨.inr (.inl ⟨by omega,.inl ?_⟩),Ab ..⟩;rw[Nat.add_mul_mod_self_left,Nat.mod_eq_of_lt yt]
         ·obtain e:=Am.1 e;cases e;refine⟨.inr (.inl ⟨by omega,.inr ?_⟩),Af _ (Ab ..)⟩;rw[Nat.add_mul_div_left _ _ (by decide),Nat.div_eq_of_lt yt,Bi]
        ·have o1:B6 st2.t hi=B6 st.t hi:=by
          cases hi with
          |none=>rfl
          |some z=>simp only[B6];rw[ha.t z (by simp[Op.operands])]
         simp only[FO,hp];unfold No;rw[ha.t x (by simp[Op.operands]),o1,hx,e2];unfold iC;simp only[he];split
         ·rename_i e0;rw[EK]at e0;cases e0
         ·simp only[ha.h r (Ab ..),hr,ha.h (Kv cx d) (Af _ (Ab ..)),hd,q1,q3];exact⟨h1,h'⟩
       ·exact hk.elim
      ·exact hk.elim
     ·exact hk.elim
   ·exact hk.elim
  ·exact hk.elim
 ·exact hk.elim
theorem V4{s x:Operand}{GL:Array TypeId}(hk:FO cx true ⟨dst,.call ⟨.builtin .append,#[s,x],GL⟩,ty,pos,after,gd⟩ st K)(hf:Fe cx ⟨dst,.call ⟨.builtin .append,#[s,x],GL⟩,ty,pos,after,gd⟩ st=some (R,w)) :
  Eh cx ⟨dst,.call ⟨.builtin .append,#[s,x],GL⟩,ty,pos,after,gd⟩ st R w K:=by
 have hk:FW cx dst st.h .append GL.toList [ev st.t s,ev st.t x] K:=hk;have hf:V3 cx dst (ev st.t s) (ev st.t x)=some (R,w):=hf;have hn:∀st2,IK ⟨dst,.call ⟨.builtin .append,#[s,x],GL⟩,ty,pos,after,gd⟩ R st st2→ev st2.t s=ev st.t s∧ev st2.t x=ev st.t x:=fun st2 ha =>
  ⟨ha.t s (by simp[Op.operands,Call.operands]),ha.t x (by simp[Op.operands,Call.operands])⟩
 have J5:∀st2,IK ⟨dst,.call ⟨.builtin .append,#[s,x],GL⟩,ty,pos,after,gd⟩ R st st2→∀K' : HK,FW cx dst st2.h .append GL.toList [ev st.t s,ev st.t x] K'→FO cx true ⟨dst,.call ⟨.builtin .append,#[s,x],GL⟩,ty,pos,after,gd⟩ st2 K':=by
  intro st2 ha K' h;rw[←(hn st2 ha).1,←(hn st2 ha).2]at h;exact h
 generalize GL.toList=l at hk J5
 match l,hk,J5 with
 | [t,t'],hk,J5 =>
  simp only[FW]at hk J5;split at hk
  ·rename_i ht;simp only[ht]at J5;unfold Ie at hk J5;split at hk
   ·rename_i e he;simp only[he]at J5;split at hk
    ·exact hk.elim
    ·rename_i hz;simp only[hz]at J5;split at hk
     ·exact hk.elim
     ·rename_i k EK;obtain⟨es2,q1,q2⟩:=Y1 hk;have jy:∀d,R=d::cR (ev st.t x)→∀st2,IK ⟨dst,.call ⟨.builtin .append,#[s,x],GL⟩,ty,pos,after,gd⟩ R st st2→∀r n,ev st.t x=.msl r n→st2.h r=st.h r:=fun d hR st2 ha r n e=>ha.h r (by rw[hR,e];simp[cR]);unfold V3 at hf;split at hf
      ·rename_i hs;obtain⟨d,ct,e0⟩:=It hf;cases e0;rw[hs]at q1 J5;simp only at q1 J5;obtain⟨d',hd,v,y,q3,q4⟩:=Ih q1.2;rw[ct]at hd;cases hd;refine⟨v,some (d,y),q3,fun r o' e=>(by cases e;exact⟨rfl,Ab ..⟩),fun st2 GW K' h'=>J5 st2 GW K' ?_⟩;split
       ·rename_i e0;rw[EK]at e0;cases e0
       ·exact q2 st2.h (jy d rfl st2 GW) _ ⟨q1.1,q4 st2.h (GW.h d (Ab ..)) K' h'⟩
      ·rename_i Gq es hs;obtain⟨d,ct,e0⟩:=It hf;cases e0;rw[hs]at q1 J5;simp only at q1 J5;split at q1
       ·rename_i h1;obtain⟨d',hd,v,y,q3,q4⟩:=Ih q1.2;rw[ct]at hd;cases hd;refine⟨v,some (d,y),q3,fun r o' e=>(by cases e;exact⟨rfl,Ab ..⟩),fun st2 GW K' h'=>J5 st2 GW K' ?_⟩;split
        ·rename_i e0;rw[EK]at e0;cases e0
        ·refine q2 st2.h (jy d rfl st2 GW) _ ?_;simp only[h1];exact⟨q1.1,q4 st2.h (GW.h d (Ab ..)) K' h'⟩
       ·exact q1.elim
      ·rename_i r Gq es hs;cases hf;rw[hs]at q1 J5;simp only at q1 J5;split at q1
       ·rename_i sz n hr;split at q1
        ·rename_i h1 h2;refine⟨_,some (r,_),q1.2,fun r o' e=>(by cases e;exact⟨rfl,Ab ..⟩),fun st2 GW K' h'=>J5 st2 GW K' ?_⟩;split
         ·rename_i e0;rw[EK]at e0;cases e0
         ·refine q2 st2.h (jy r rfl st2 GW) _ ?_;simp only[GW.h r (Ab ..),hr,h1,h2];exact⟨q1.1,h'⟩
        ·exact q1.elim
       ·exact q1.elim
      ·rename_i r n hs;cases hf;rw[hs]at q1 J5;simp only at q1 J5;split at q1
       ·rename_i sz es hr;split at q1
        ·rename_i h1;refine⟨_,some (r,_),q1.2,fun r o' e=>(by cases e;exact⟨rfl,Ab ..⟩),fun st2 GW K' h'=>J5 st2 GW K' ?_⟩;split
         ·rename_i e0;rw[EK]at e0;cases e0
         ·refine q2 st2.h (jy r rfl st2 GW) _ ?_;simp only[GW.h r (Ab ..),hr,h1];exact⟨q1.1,h'⟩
        ·exact q1.elim
       ·exact q1.elim
      ·cases hf
   ·exact hk.elim
  ·exact hk.elim
 | [],hk,_=>exact hk.elim
 | [_],hk,_=>exact hk.elim
 |_::_::_::_,hk,_=>exact hk.elim
theorem Vk(T:Gt)(t:Nat):F9 (Kg T t):=by
 unfold Kg
 repeat' split
 all_goals first | exact CC | exact Dp _
theorem TE(T:Gt)(ty:Nat)(ok:Bool)(B4:List (Value×AV))(kx:Value):F9 (L4 T ty ok B4 kx):=by
 unfold L4
 repeat' split
 ·refine aX (MQ fun a=>DA (Dp _)) (DA ?_);intro K hk;obtain⟨v,h1,h2⟩:=Vk T _ _ hk;exact⟨_,h1,fun K' h=>h2 _ h⟩
 ·exact aX (MQ fun a=>DA (Dp _)) (DA (Vk T _))
 ·exact CC
theorem Yk(T:Gt)(ty:Nat)(sh:EJ)(k:AV){F:Value→(AV→Prop)→Prop}(h:∀x,F9 (F x)):F9 fun K=>J8 T ty sh k fun kx=>F kx K:=by
 unfold J8
 repeat' split
 all_goals first | exact CC | exact h _
theorem V6{t:Nat}{m k:Operand}{ok:Bool}(hk:FO cx true ⟨dst,.lookup t m k ok,ty,pos,after,gd⟩ st K)(hf:Fe cx ⟨dst,.lookup t m k ok,ty,pos,after,gd⟩ st=some (R,w)) :
  Eh cx ⟨dst,.lookup t m k ok,ty,pos,after,gd⟩ st R w K:=by
 simp only[FO]at hk;have hn:∀st2,IK ⟨dst,.lookup t m k ok,ty,pos,after,gd⟩ R st st2→ev st2.t m=ev st.t m∧ev st2.t k=ev st.t k:=fun st2 ha=>⟨ha.t m (by simp[Op.operands]),ha.t k (by simp[Op.operands])⟩;simp only[Fe]at hf;unfold MI at hk;split at hf
 ·rename_i sh B4 hm;cases hf;rw[hm]at hk;simp only at hk;exact .pick (Yk _ _ _ _ fun _=>TE _ _ _ _ _) hk fun st2 ha K' h=>by simp only[FO,MI,hn st2 ha,hm];exact h
 ·rename_i r hm;cases hf;rw[hm]at hk;simp only at hk;split at hk
  all_goals first | exact hk.elim | (rename_i e;exact .pick (Yk _ _ _ _ fun _=>TE _ _ _ _ _) hk fun st2 ha K' h=>by simp only[FO,MI,hn st2 ha,hm,ha.h r (Ab ..),e];exact h)
 ·cases hf
theorem ir(T:Gt)(t:Nat)(h:Nat→HO)(x:AV):F9 (QR T t h x):=by
 unfold QR
 repeat' split
 all_goals first | exact CC | exact Dp _
theorem ox{T:Gt}{t:Nat}{h h2:Nat→HO}{x:AV}(e:∀r,x=.mref r→h2 r=h r){K:AV→Prop}:QR T t h2 x K=QR T t h x K:=by
 cases x<;>first | rfl | skip
 rename_i r;unfold QR;simp only[e r rfl]
theorem cj{x:Operand}{GL:Array TypeId}(hk:FO cx true ⟨dst,.call ⟨.builtin .len,#[x],GL⟩,ty,pos,after,gd⟩ st K)(hf:Fe cx ⟨dst,.call ⟨.builtin .len,#[x],GL⟩,ty,pos,after,gd⟩ st=some (R,w)) :
  Eh cx ⟨dst,.call ⟨.builtin .len,#[x],GL⟩,ty,pos,after,gd⟩ st R w K:=by
 have hk:FW cx dst st.h .len GL.toList [ev st.t x] K:=hk;have hf:GS cx dst (.builtin .len) st.t [ev st.t x]=some (R,w):=hf;have hn:∀st2,IK ⟨dst,.call ⟨.builtin .len,#[x],GL⟩,ty,pos,after,gd⟩ R st st2→ev st2.t x=ev st.t x:=fun st2 ha=>ha.t x (by simp[Op.operands,Call.operands]);have J5:∀st2,IK ⟨dst,.call ⟨.builtin .len,#[x],GL⟩,ty,pos,after,gd⟩ R st st2→∀K' : HK,FW cx dst st2.h .len GL.toList [ev st.t x] K'→FO cx true ⟨dst,.call ⟨.builtin .len,#[x],GL⟩,ty,pos,after,gd⟩ st2 K':=by
  intro st2 ha K' h;rw[←hn st2 ha]at h;exact h
 generalize GL.toList=l at hk J5
 match l,hk,J5 with
 | [t],hk,J5 =>
  have hR:∀r,ev st.t x=.mref r→r∈R:=fun r e=>by
   rw[e]at hf;cases hf;exact Ab ..
  have hw:w=none:=by
   unfold GS at hf;split at hf<;>first | (cases hf;rfl) | (rename_i e;cases e) | (rename_i e _;cases e) | skip
   all_goals (cases hf)
  subst hw;exact .pick (ir _ _ _ _) hk fun st2 ha K' h=>J5 st2 ha K' (by
   simp only[FW];rw[ox fun r e=>ha.h r (hR r e)];exact h)
 | [],hk,_=>exact hk.elim
 |_::_::_,hk,_=>exact hk.elim
end
theorem kU{l:List Nat}{n:Nat}(h:II l n=true):n∈l:=by
 induction l with
 |nil=>cases h
 |cons a l ih =>
  unfold II at h
  by_cases e:a=n
  ·exact e▸Ab ..
  ·rw[CM e]at h;exact Af _ (ih h)
theorem Xe(G:Nat→HO):∀(σ:IU) (h:Nat→HO),Eo σ=true→(fun i=>match Cv σ i with | some j=>G j | none=>h i)=H1 h (σ.map fun p=>(p.1,G p.2))
 | [],h,_=>rfl
 |(i,j)::r,h,hσ=>by
  unfold Eo at hσ;simp only[Ag]at hσ;have ih:=Xe G r (AW h i (G j)) hσ.2;show _=H1 (AW h i (G j)) (r.map fun p=>(p.1,G p.2));rw[←ih]
  funext i'
  have hn:Cv r i=none:=by
   have:=hσ.1.1.1
   cases e:Cv r i with
   |none=>rfl
   |some k=>rw[e]at this;simp at this
  by_cases e:i'=i
  ·subst e;have e1:Cv ((i',j)::r) i'=some j:=by unfold Cv;rw[CY];rfl
   rw[e1,hn];show G j=AW h i' (G j) i';unfold AW;rw[CY];rfl
  ·have e1:Cv ((i,j)::r) i'=Cv r i':=by
    show(bif Nat.beq i i' then some j else Cv r i')=_;rw[CM (Ne.symm e)];rfl
   rw[e1];cases Cv r i' with
   |some k=>rfl
   |none=>show h i'=AW h i (G j) i';unfold AW;rw[CM e];rfl
theorem UG{σ:IU}{d:Nat}(hσ:Eo σ=true){h h' : Nat→HO}:D8 σ d 0 h h'=H1 h (σ.map fun p=>(p.1,(h' p.2).ren (E6 σ d 0) h')):=by
 rw[←Xe (fun j=>(h' j).ren (E6 σ d 0) h') σ h hσ]
 funext i
 unfold D8;cases Cv σ i with
 |some j=>rfl
 |none =>
  have:(Nat.ble (Br d 0) i&&Nat.blt i (Br d 0))=false:=by
   rw[AK];simp only[Vd,Ag,Dd,Cm];omega
  simp only[this]
section
variable {cx:Cx}{op:Op}{dst:Option Nat}{ty:Nat}{pos:String}{after:Array Edge}{gd:Option (Nat×Bool)}{st:St}{R:List Nat}{w:Option Nat}{K:HK}
theorem Eh.toL(h:Eh cx ⟨dst,op,ty,pos,after,gd⟩ st R w K):Ru cx ⟨dst,op,ty,pos,after,gd⟩ st R w K:=by
 obtain⟨v,e,h1,h2,h3⟩:=h;cases e with
 |none=>exact⟨v,[],h1,fun r o' e=>(by cases e),h3⟩
 |some p=>exact⟨v,[p],h1,fun r o' e=>by
   obtain rfl:=Am.1 e;obtain⟨a,b⟩:=h2 r o' rfl;exact⟨by rw[a];exact .inl rfl,b⟩,h3⟩
theorem Y8{c:Call}(hk:FO cx true ⟨dst,.call c,ty,pos,after,gd⟩ st K)(hf:Fe cx ⟨dst,.call c,ty,pos,after,gd⟩ st=some (R,w)):Ru cx ⟨dst,.call c,ty,pos,after,gd⟩ st R w K:=by
 obtain⟨nq,args,GL⟩:=c;have Je:∀st2,IK ⟨dst,.call ⟨nq,args,GL⟩,ty,pos,after,gd⟩ R st st2→args.toList.map (ev st2.t)=args.toList.map (ev st.t):=fun st2 ha =>
  Bf fun x hx=>ha.t x (by simp only[Op.operands,Call.operands,RJ];exact .inr (by simpa using hx))
 cases nq with
 |invoke r m=>exact hk.elim
 |value f =>
  have hk:Gf cx true dst st (ev st.t f) (args.toList.map (ev st.t)) K:=hk;have hf:GS cx dst (.value f) st.t (args.toList.map (ev st.t))=some (R,w):=hf;unfold GS at hf;unfold Gf at hk;simp only at hf hk;have hn:=Je;split at hf
  ·rename_i aD;rw[aD]at hk;cases hf;obtain⟨res,h1,h2⟩:=hk;refine Eh.toL ⟨res,none,h2,fun r o' e=>(by cases e),fun st2 ha K' h'=>?_⟩;show Gf cx true dst st2 (ev st2.t f) (args.toList.map (ev st2.t)) K';rw[Je st2 ha,ha.t f (by simp[Op.operands,Call.operands])];unfold Gf;simp only[aD];refine⟨res,?_,h'⟩;rw[KN (h:=st.h) (fun r hr=>ha.h r (Bo _ hr)),Qk (h:=st.h) (fun r hr=>ha.h r (Bk _ hr))];exact h1
  ·rename_i aD;rw[aD]at hk;simp only at hk;cases dst with
   |none=>exact hk.elim
   |some d =>
    obtain⟨n,sz,es,h1,h2,h3⟩:=hk;have hf:some (Br d 0::(WN (ev st.t f)++SU (args.toList.map (ev st.t))),some (Br d 0))=some (R,w):=hf;cases hf;refine Eh.toL ⟨_,some (Br d 0,_),h3,fun r o' e=>(by cases e;exact⟨rfl,Ab ..⟩),fun st2 ha K' h'=>?_⟩;show Gf cx true (some d) st2 (ev st2.t f) (args.toList.map (ev st2.t)) K';rw[Je st2 ha,ha.t f (by simp[Op.operands,Call.operands])];unfold Gf;simp only[aD];refine⟨n,sz,es,?_,?_,h'⟩
    ·have:DH st2.h d 1=DH st.h d 1:=by simp only[DH,ha.h (Br d 0) (Ab ..)]
     rw[this];exact h1
    ·rw[KN (h:=st.h) (fun r hr=>ha.h r (Af _ (Bo _ hr))),Qk (h:=st.h) (fun r hr=>ha.h r (Af _ (Bk _ hr)))];exact h2
  ·rename_i aD;rw[aD]at hk;have hk:Rd cx 0 dst st.h (ev st.t f) (args.toList.map (ev st.t)) K:=hk;split at hf
   ·rename_i r n l hl;cases hf;have Iv:=hk;unfold Rd at Iv;rw[hl]at Iv;split at Iv
    ·rename_i d0 f0 r0 n0 l0 e1 e2 z1 z2;cases e2;split at Iv
     ·rename_i vs dT;split at Iv
      ·rename_i sz es hr;obtain⟨n',FD,h1,h2⟩:=Iv;refine Eh.toL ⟨_,some (r,_),h2,fun r o' e=>(by cases e;exact⟨rfl,Ab ..⟩),fun st2 ha K' h'=>?_⟩;show Gf cx true _ st2 (ev st2.t f) (args.toList.map (ev st2.t)) K';rw[Je st2 ha,ha.t f (by simp[Op.operands,Call.operands]),hl,e1];unfold Gf;simp only[aD];unfold Pf;simp only;unfold Rd;simp only[dT,ha.h r (Ab ..),hr];exact⟨n',FD,h1,h'⟩
      ·exact Iv.elim
     ·exact Iv.elim
    ·exact Iv.elim
   ·cases hf
  ·rename_i k aD;rw[aD]at hk;cases hb:Nat.beq k 1 with
   |true =>
    have Uf:Nat.beq (k+1) 2=true:=hb;have hk:TU cx dst st (ev st.t f) (args.toList.map (ev st.t)) K:=by
     have Iv:(match Nat.beq (k+1) 2 with | true=>TU cx dst st (ev st.t f) (args.toList.map (ev st.t)) K | false=>match Nat.beq (k+1) 3 with | true=>Qq cx dst st (ev st.t f) (args.toList.map (ev st.t)) K | false=>Pf cx (k+1) dst st (ev st.t f) (args.toList.map (ev st.t)) K):=hk;rw[Uf]at Iv;exact Iv
    rw[hb]at hf;cases dst with
    |none=>exact hk.elim
    |some d =>
     obtain⟨sz,es,h1,h2,h3⟩:=hk;have hf:some (Br d 0::(WN (ev st.t f)++SU (args.toList.map (ev st.t))),some (Br d 0))=some (R,w):=hf;cases hf;refine Eh.toL ⟨_,some (Br d 0,_),h3,fun r o' e=>(by cases e;exact⟨rfl,Ab ..⟩),fun st2 ha K' h'=>?_⟩;show Gf cx true (some d) st2 (ev st2.t f) (args.toList.map (ev st2.t)) K';rw[Je st2 ha,ha.t f (by simp[Op.operands,Call.operands])];unfold Gf;simp only[aD,Uf];refine⟨sz,es,?_,?_,h'⟩
     ·have:DH st2.h d 1=DH st.h d 1:=by simp only[DH,ha.h (Br d 0) (Ab ..)]
      rw[this];exact h1
     ·rw[KN (h:=st.h) (fun r hr=>ha.h r (Af _ (Bo _ hr))),Qk (h:=st.h) (fun r hr=>ha.h r (Af _ (Bk _ hr)))];exact h2
   |false =>
    have Uf:Nat.beq (k+1) 2=false:=hb;rw[hb]at hf;have Iv:(match Nat.beq (k+1) 2 with | true=>TU cx dst st (ev st.t f) (args.toList.map (ev st.t)) K | false=>match Nat.beq (k+1) 3 with | true=>Qq cx dst st (ev st.t f) (args.toList.map (ev st.t)) K | false=>Pf cx (k+1) dst st (ev st.t f) (args.toList.map (ev st.t)) K):=hk;rw[Uf]at Iv;cases hc:Nat.beq k 2 with
    |true =>
     have ph:Nat.beq (k+1) 3=true:=hc;rw[hc]at hf;simp only[ph]at Iv;have hf:fC (args.toList.map (ev st.t))=some (R,w):=hf;unfold fC at hf;unfold Qq at Iv;split at hf
     ·rename_i vs dT;cases hf;split at Iv
      ·rename_i l dV e1 e2 z1 z2;rw[dT]at e2;cases e2;split at Iv
       ·rename_i r sz es br n e3 e4;obtain⟨⟨rfl,rfl⟩,v,FD,n',h1,h2⟩:=Iv;refine⟨_,[(1001,_),(1000,_)],h2,fun r' o' e=>?_,fun st2 ha K' h'=>?_⟩
        ·rcases As.1 e with e | e
         ·cases e
          exact⟨.inr (.inl ⟨by decide,.inr (by decide)⟩),by simp⟩
         ·obtain e:=Am.1 e;cases e;exact⟨.inr (.inl ⟨by decide,.inl (by decide)⟩),by simp⟩
        show Gf cx true _ st2 (ev st2.t f) (args.toList.map (ev st2.t)) K';rw[Je st2 ha,ha.t f (by simp[Op.operands,Call.operands]),e1];unfold Gf;simp only[aD,Uf,ph];unfold Qq;simp only[dT,ha.h 1000 (by simp),ha.h 1001 (by simp),e3,e4];exact⟨⟨trivial,trivial⟩,v,FD,n',h1,h'⟩
       ·exact Iv.elim
      ·exact Iv.elim
     ·cases hf
    |false =>
    have ph:Nat.beq (k+1) 3=false:=hc;rw[hc]at hf;have U2:Pf cx (k+1) dst st (ev st.t f) (args.toList.map (ev st.t)) K:=by
     simp only[ph]at Iv;exact Iv
    have nI:fA k dst (args.toList.map (ev st.t))=some (R,w):=hf;unfold fA at nI;unfold Pf at U2;cases he:Nat.beq k 3 with
    |true =>
     have js:Nat.beq (k+1) 4=true:=he;rw[he]at nI;rw[js]at U2;have nI:some (kb,some VL)=some (R,w):=nI;have U2:Xw cx dst st (ev st.t f) (args.toList.map (ev st.t)) K:=U2;cases nI;unfold Xw at U2;split at U2
     ·rename_i d f' e2 _ _ _;obtain⟨σ,H0,Hn,args',res,g1,g2,g3,g4⟩:=U2;simp only[Ag]at g2;refine⟨_,σ.map fun p=>(p.1,(Aj Hn Aa p.2).ren (E6 σ d 0) (Aj Hn Aa)),(UG (h:=st.h) (h':=Aj Hn Aa) (d:=d) g2.1.1)▸g4,fun r' o' e=>?_,fun st2 ha K' h'=>?_⟩
      ·obtain⟨p,hp,e⟩:=Al.1 e;cases e;exact⟨.inr (.inr rfl),kU (Bs.1 g2.2 p hp)⟩
      ·show Gf cx true _ st2 (ev st2.t f) (args.toList.map (ev st2.t)) K';rw[Je st2 ha,ha.t f (by simp[Op.operands,Call.operands])];unfold Gf;simp only[aD,Uf,ph];unfold Pf;simp only[js];unfold Xw;rw[e2];refine⟨σ,H0,Hn,args',res,fun h2 hh=>g1 h2 fun r hr=>(hh r hr).trans (ha.h r hr),by simp only[Ag];exact g2,g3,?_⟩;rw[UG (h:=st2.h) (h':=Aj Hn Aa) (d:=d) g2.1.1];exact h'
     ·exact U2.elim
    |false =>
    have js:Nat.beq (k+1) 4=false:=he;rw[he]at nI;rw[js]at U2;have hf:ar dst (args.toList.map (ev st.t))=some (R,w):=nI;have hk:Rd cx (k+1) dst st.h (ev st.t f) (args.toList.map (ev st.t)) K:=U2;obtain⟨d,r,n,l,rfl,hl,e0⟩:=Y6 hf;cases e0;unfold Rd at hk;rw[hl]at hk;split at hk
    ·rename_i d0 f0 r0 n0 l0 e9 e1 e2;cases e9;cases e2;split at hk
     ·rename_i vs dT;split at hk
      ·rename_i sz es hr;obtain⟨n',FD,h0,h1,h2⟩:=hk;have uA:=h0;simp only[Ag,Cm]at uA;refine⟨_,[(r,.dead),(Br d 0,_)],h2,fun r' o' e=>?_,fun st2 ha K' h'=>?_⟩
       ·rcases As.1 e with e | e
        ·cases e
         refine⟨.inr (.inl ⟨by unfold Br;omega,.inl ?_⟩),Ab ..⟩;rw[Nat.add_mul_mod_self_left,Nat.mod_eq_of_lt uA.1.2]
        ·obtain e:=Am.1 e;cases e;refine⟨.inr (.inl ⟨by unfold Br;omega,.inr ?_⟩),Af _ (Ab ..)⟩;rw[Nat.add_mul_div_left _ _ (by decide),Nat.div_eq_of_lt uA.1.2,Bi]
       show Gf cx true _ st2 (ev st2.t f) (args.toList.map (ev st2.t)) K';rw[Je st2 ha,ha.t f (by simp[Op.operands,Call.operands]),hl,e1];unfold Gf;simp only[aD,Uf,ph];unfold Pf;simp only[js];unfold Rd;simp only[dT,ha.h r (Ab ..),hr]
       have:DH st2.h d 1=DH st.h d 1:=by simp only[DH,ha.h (Br d 0) (Af _ (Ab ..))]
       exact⟨n',FD,by rw[this];exact h0,h1,h'⟩
      ·exact hk.elim
     ·exact hk.elim
    ·exact hk.elim
 |builtin b =>
  refine Eh.toL ?_;have mm:∀f:Int→Int→Int,(∀(d:Option Nat) (h:Nat→HO) (GL:List Nat) (args:List AV) (K:HK),FW cx d h b GL args K=(match args with | [x,y]=>kW f x y fun v=>K v h | _=>False))→R=[]∧w=none→Eh cx ⟨dst,.call ⟨.builtin b,args,GL⟩,ty,pos,after,gd⟩ st R w K:=by
   rintro f hb ⟨rfl,rfl⟩
   have hk:FW cx dst st.h b GL.toList (args.toList.map (ev st.t)) K:=hk;rw[hb]at hk;split at hk
   ·rename_i x y e;refine .pick (lq f x y) hk fun st2 ha K' h=>?_;show FW cx dst st2.h b GL.toList (args.toList.map (ev st2.t)) K';rw[hb,Je st2 ha,e];exact h
   ·exact hk.elim
  cases b
  case max=>exact mm max (fun d h GL args K=>by cases args with | nil=>rfl | cons x l=>cases l with | nil=>rfl | cons y l=>cases l<;>rfl) (by
   have hf:GS cx dst (.builtin .max) st.t (args.toList.map (ev st.t))=some (R,w):=hf;simp only[GS]at hf;cases hf;exact⟨rfl,rfl⟩)
  case min=>exact mm min (fun d h GL args K=>by cases args with | nil=>rfl | cons x l=>cases l with | nil=>rfl | cons y l=>cases l<;>rfl) (by
   have hf:GS cx dst (.builtin .min) st.t (args.toList.map (ev st.t))=some (R,w):=hf;simp only[GS]at hf;cases hf;exact⟨rfl,rfl⟩)
  case append =>
   obtain⟨l⟩:=args
   match l,hk,hf with
   | [s,x],hk,hf=>exact V4 hk hf
   | [],hk,hf=>cases GL;exact hk.elim
   | [_],hk,hf=>exact hk.elim
   |_::_::_::_,hk,hf=>exact hk.elim
  case len =>
   obtain⟨l⟩:=args
   match l,hk,hf with
   | [x],hk,hf=>exact cj hk hf
   | [],hk,hf=>exact hk.elim
   |_::_::_,hk,hf=>exact hk.elim
  all_goals exact hk.elim
theorem YG{o:Oper}(hc:∀c,o.op≠.call c)(hs:(∃t x lo hi mx,o.op=.slice t x lo hi mx)→Nv cx.pl.tok o.dst=none)(hk:FO cx true o st K)(hf:Fe cx o st=some (R,w)):Eh cx o st R w K:=by
 obtain⟨dst,op,ty,pos,after,gd⟩:=o;cases op with
 |call c=>exact absurd rfl (hc c)
 |alloc e=>exact Xt hk hf
 |box e x=>exact ci hk hf
 |buildSlice t n ps=>exact PJ hk hf
 |makeSlice t n c=>exact Rh hk hf
 |makeMap t r=>exact Ue hk hf
 |store t p x=>exact Xu hk hf
 |mapUpdate t m k x=>exact Ri hk hf
 |makeFunc fn first cap=>exact SE hk hf
 |load t p=>exact Y9 hk hf
 |assign x=>exact V5 hk hf
 |slice t x lo hi mx=>exact QJ (hs ⟨t,x,lo,hi,mx,rfl⟩) hk hf
 |lookup t x i ok=>exact V6 hk hf
 |move x =>
  cases hf
  exact .pick (Dp _) hk fun st2 ha K' h=>by simp only[FO,ha.t x (by simp[Op.operands])];exact h
 |pick c a b =>
  cases hf
  exact .pick (dw _ _ _) hk fun st2 ha K' h=>by simp only[FO,ha.t c (by simp[Op.operands]),ha.t a (by simp[Op.operands]),ha.t b (by simp[Op.operands])];exact h
 |nilCheck x =>
  cases hf
  exact .pick (iu _) hk fun st2 ha K' h=>by simp only[FO,ha.t x (by simp[Op.operands])];exact h
 |binOp op t x y u =>
  simp only[Fe]at hf;split at hf
  ·cases hf
  ·rename_i hx;cases hf;exact .pick (du _ _ _ _ _ _ hx) hk fun st2 ha K' h=>by simp only[FO,ha.t x (by simp[Op.operands]),ha.t y (by simp[Op.operands])];exact h
 |unOp op t x =>
  cases hf
  exact .pick (dx _ _) hk fun st2 ha K' h=>by simp only[FO,ha.t x (by simp[Op.operands])];exact h
 |convert s t x =>
  cases hf
  exact .pick (dv _ _ _ _) hk fun st2 ha K' h=>by simp only[FO,ha.t x (by simp[Op.operands])];exact h
 |fieldAddr s x f =>
  cases hf
  exact .pick (ZM _ _ _ _) hk fun st2 ha K' h=>by simp only[FO,ha.t x (by simp[Op.operands])];exact h
 |field s x f =>
  cases hf
  exact .pick (Yj _ _ _ _) hk fun st2 ha K' h=>by simp only[FO,ha.t x (by simp[Op.operands])];exact h
 |indexAddr t x i =>
  cases hf
  exact .pick (TF _ _ _ _) hk fun st2 ha K' h=>by simp only[FO,ha.t x (by simp[Op.operands]),ha.t i (by simp[Op.operands])];exact h
 |index t x i =>
  cases hf
  exact .pick (ZN _ _ _ _) hk fun st2 ha K' h=>by simp only[FO,ha.t x (by simp[Op.operands]),ha.t i (by simp[Op.operands])];exact h
 |extract x i =>
  cases hf
  exact .pick (Ws _ _) hk fun st2 ha K' h=>by simp only[FO,ha.t x (by simp[Op.operands])];exact h
 |build t ps =>
  cases hf
  refine .pick (ZL _ _ _ _) hk fun st2 ha K' h=>?_;have hx:∀p∈ps.toList,ev st2.t p.2=ev st.t p.2:=fun p hp=>ha.t p.2 (by
   simp only[Op.operands,List.mem_toArray];exact Al.2 ⟨p,hp,rfl⟩)
  simp only[FO];have fill:∀(pl:Nat→Option (Nat×Nat)) (l:List (Nat×Operand)) (cs:List AV) (K:List AV→Prop),(∀p∈l,ev st2.t p.2=ev st.t p.2)→Kx pl cs st2.t l K=Kx pl cs st.t l K:=by
   intro pl l
   induction l with
   |nil=>intro cs K _;rfl
   |cons p l ih =>
    intro cs K hp;obtain⟨i,x⟩:=p;have h1:ev st2.t x=ev st.t x:=hp (i,x) (Ab ..);have h2:∀cs,Kx pl cs st2.t l K=Kx pl cs st.t l K:=fun cs=>ih cs K (fun p nV=>hp p (Af _ nV));simp only[Kx,h1,h2]
  unfold PA at h⊢;simp only[fill _ _ _ _ hx];exact h
 |_=>cases hf
theorem bK{o:Oper}(hk:FO cx true o st K)(hf:Fe cx o st=some (R,w)):Ru cx o st R w K:=by
 obtain⟨dst,op,ty,pos,after,gd⟩:=o
 by_cases h:∃c,op=.call c
 ·obtain⟨c,rfl⟩:=h;exact Y8 hk hf
 ·by_cases h2:∃t x lo hi mx,op=.slice t x lo hi mx
  ·obtain⟨t,x,lo,hi,mx,rfl⟩:=h2;cases hp:Nv cx.pl.tok dst with
   |none=>exact Eh.toL (QJ hp hk hf)
   |some p=>exact cn hp hk hf
  ·exact Eh.toL (YG (fun c e=>h ⟨c,e⟩) (fun e=>absurd e h2) hk hf)
end
theorem UX{cx:Cx}{o:Oper}{st st2:St}(h:∀x∈o.op.operands,ev st2.t x=ev st.t x):Fe cx o st2=Fe cx o st:=by
 obtain⟨dst,op,ty,pos,after,gd⟩:=o;cases op with
 |call c =>
  obtain⟨nq,args,GL⟩:=c;have ha:args.toList.map (ev st2.t)=args.toList.map (ev st.t):=Bf fun x hx=>h x (by simp only[Op.operands,Call.operands,RJ];exact .inr (by simpa using hx));simp only[Fe];rw[ha];cases nq with
  |value f =>
   have hf:ev st2.t f=ev st.t f:=h f (by simp[Op.operands,Call.operands]);simp only[GS,hf]
  |builtin b =>
   generalize args.toList.map (ev st.t)=l
   match l with
   | []=>cases b<;>rfl
   | [x]=>cases b<;>cases x<;>rfl
   | [x,y]=>cases b<;>cases x<;>rfl
   |x::_::_::_=>cases b<;>cases x<;>rfl
  |invoke r m=>rfl
 |box e x=>simp only[Fe,h x (by simp[Op.operands])]
 |buildSlice t n ps =>
  have hx:ps.toList.map (fun p=>ev st2.t p.2)=ps.toList.map (fun p=>ev st.t p.2):=Bf fun p hp=>h p.2 (by
   simp only[Op.operands,List.mem_toArray];exact Al.2 ⟨p,hp,rfl⟩)
  simp only[Fe,hx]
 |store t p x=>simp only[Fe,h p (by simp[Op.operands]),h x (by simp[Op.operands])]
 |mapUpdate t m k x=>simp only[Fe,h m (by simp[Op.operands]),h x (by simp[Op.operands])]
 |makeFunc fn first cap =>
  have hx:cap.toList.map (ev st2.t)=cap.toList.map (ev st.t):=Bf fun x hx=>h x (by simp only[Op.operands,RJ];exact .inr (by simpa using hx));simp only[Fe,hx]
 |load t p=>simp only[Fe,h p (by simp[Op.operands])]
 |assign x=>simp only[Fe,h x (by simp[Op.operands])]
 |binOp op t x y u=>simp only[Fe,h x (by simp[Op.operands])]
 |slice t x lo hi mx=>simp only[Fe,h x (by simp[Op.operands])]
 |lookup t x i ok=>simp only[Fe,h x (by simp[Op.operands])]
 |_=>rfl
def Kn(ops:Array Oper)(o:Oper)(st st2:St):Prop:=∀d∈o.looksAt ops,st2.t d=st.t d
theorem Kn.operands{ops:Array Oper}{o:Oper}{st st2:St}(h:Kn ops o st st2):∀x∈o.op.operands,ev st2.t x=ev st.t x:=fun x hx=>by
 cases x with
 |tmp t=>exact h t (Bo _ (List.mem_filterMap.2 ⟨.tmp t,by simpa using hx,rfl⟩))
 |_=>rfl
theorem Vf(ops:Array Oper)(j:Nat):Kb ops.toList j=(ops[j]?).bind (·.dst):=by
 have:∀(l:List Oper) (j:Nat),Kb l j=(l[j]?).bind (·.dst):=by
  intro l
  induction l with
  |nil=>intro j;simp[Kb]
  |cons o l ih =>
   intro j;cases j with
   |zero=>simp[Kb]
   |succ j=>simp[Kb,ih]
 rw[this];simp
theorem Kn.guard{ops:Array Oper}{o:Oper}{st st2:St}(h:Kn ops o st st2){j:Nat}{b:Bool}(hg:o.guard=some (j,b)){d:Nat}(hd:Kb ops.toList j=some d):st2.t d=st.t d :=
 h d (Bk _ (by rw[hg];simp only;rw[←Vf,hd];simp))
def St.after(st:St)(o:Oper)(v:AV)(e:List (Nat×HO)):St:=st.put o.dst v (H1 st.h e)
def Pw(cx:Cx)(ops:Array Oper)(o:Oper)(st:St)(f:Fv)(v:AV)(e:List (Nat×HO)):Prop :=
 (∀r o',(r,o')∈e→RL f.2 r∧r∈f.1)∧∀st2,Kn ops o st st2→(∀r∈f.1,st2.h r=st.h r)→∀K:St→Prop,K (st2.after o v e)→G7 cx true ops.toList o st2 K
theorem SD{cx:Cx}{ops:Array Oper}{o:Oper}{st st2:St}(h:Kn ops o st st2):Nb cx ops.toList o st2=Nb cx ops.toList o st:=by
 unfold Nb;split
 ·exact UX h.operands
 ·rename_i j want hg;split
  ·rfl
  ·rename_i d hd;simp only[h.guard hg hd];split<;>first | exact UX h.operands | rfl
theorem Od{cx:Cx}{ops:Array Oper}{o:Oper}{st:St}{f:Fv}{K:St→Prop}(hk:G7 cx true ops.toList o st K)(hf:Nb cx ops.toList o st=some f) :
  ∃v e,Pw cx ops o st f v e∧K (st.after o v e):=by
 obtain⟨R,w⟩:=f;have skip:R=[]∧w=none→K (st.put o.dst (.v undef) st.h)→(∀st2,Kn ops o st st2→∀K:St→Prop,K (st2.put o.dst (.v undef) st2.h)→G7 cx true ops.toList o st2 K)→∃v e,Pw cx ops o st (R,w) v e∧K (st.after o v e):=by
  rintro⟨rfl,rfl⟩ h1 h2
  exact⟨.v undef,[],⟨fun r o' e=>(by cases e),fun st2 hl _ K h=>h2 st2 hl K h⟩,h1⟩
 have run:Fe cx o st=some (R,w)→FO cx true o st (fun v h=>K (st.put o.dst v h))→(∀st2,Kn ops o st st2→∀K:St→Prop,FO cx true o st2 (fun v h=>K (st2.put o.dst v h))→G7 cx true ops.toList o st2 K)→∃v e,Pw cx ops o st (R,w) v e∧K (st.after o v e):=by
  intro hf hk h2;obtain⟨v,e,q1,q2,q3⟩:=bK hk hf;exact⟨v,e,⟨q2,fun st2 hl hh K h=>h2 st2 hl K (q3 st2 ⟨hl.operands,hh⟩ _ h)⟩,q1⟩
 unfold G7 at hk;unfold Nb at hf;cases hg:o.guard with
 |none =>
  rw[hg]at hk hf;exact run hf hk (fun st2 hl K h=>by unfold G7;rw[hg];exact h)
 |some p =>
  obtain⟨j,want⟩:=p;rw[hg]at hk hf;simp only at hk hf;cases hd:Kb ops.toList j with
  |none=>rw[hd]at hk;exact hk.elim
  |some d =>
   rw[hd]at hk hf;simp only at hk hf;have he:∀st2,Kn ops o st st2→st2.t d=st.t d:=fun st2 hl=>hl.guard hg hd;generalize hx:st.t d=x at hk hf he;split at hk
   ·exact run hf hk (fun st2 hl K h=>by unfold G7;simp only[hg,hd,he st2 hl];exact h)
   ·exact run hf hk (fun st2 hl K h=>by unfold G7;simp only[hg,hd,he st2 hl];exact h)
   ·exact skip (by cases hf;exact⟨rfl,rfl⟩) hk (fun st2 hl K h=>by unfold G7;simp only[hg,hd,he st2 hl];exact h)
   ·exact skip (by cases hf;exact⟨rfl,rfl⟩) hk (fun st2 hl K h=>by unfold G7;simp only[hg,hd,he st2 hl];exact h)
   ·exact skip (by cases hf;exact⟨rfl,rfl⟩) hk (fun st2 hl K h=>by unfold G7;simp only[hg,hd,he st2 hl];exact h)
   ·exact hk.elim
def pI(cx:Cx)(ops:Array Oper)(FT:Nat→Fv)(i:Nat)(K:St→Prop)(st:St):Prop :=
 match ops[i]? with
 |none=>K st
 |some o=>Nb cx ops.toList o st=some (FT i)∧G7 cx true ops.toList o st K
def WS(cx:Cx)(ops:Array Oper)(FT:Nat→Fv)(K:St→Prop):Nat→Array Bool→St→Prop
 |0,listed,st=>Region.ready .any ops listed=[]∧K st
 |fuel+1,listed,st =>
  (Region.ready .any ops listed=[]→K st)∧∀i∈Region.ready .any ops listed,pI cx ops FT i (WS cx ops FT K fuel (listed.setIfInBounds i true)) st
theorem dL(t:Nat→AV){d d' : Nat}(h:d'≠d)(v v' : AV):G4 (G4 t d v) d' v'=G4 (G4 t d' v') d v:=by
 funext i
 unfold G4
 by_cases h1:i=d<;>by_cases h2:i=d'
 ·exact absurd (h2.symm.trans h1) h
 ·subst h1;simp[CM h2]
 ·subst h2;simp[CM h1]
 ·simp[CM h1,CM h2]
theorem cy(t:Nat→HO){d d' : Nat}(h:d'≠d)(v v' : HO):AW (AW t d v) d' v'=AW (AW t d' v') d v:=by
 funext i
 unfold AW
 by_cases h1:i=d<;>by_cases h2:i=d'
 ·exact absurd (h2.symm.trans h1) h
 ·subst h1;simp[CM h2]
 ·subst h2;simp[CM h1]
 ·simp[CM h1,CM h2]
theorem OR{l:List Nat}{n:Nat}(h:n∈l):II l n=true:=by
 induction l with
 |nil=>cases h
 |cons a l ih =>
  unfold II
  by_cases e:a=n
  ·subst e;simp
  ·rw[CM e];exact ih ((As.1 h).resolve_left (fun q=>e q.symm))
theorem X1{l:List Nat}{n:Nat}(h:II l n=true):n∈l:=by
 induction l with
 |nil=>cases h
 |cons a l ih =>
  unfold II at h
  by_cases e:a=n
  ·exact e▸Ab ..
  ·rw[CM e]at h;exact Af _ (ih h)
theorem Yc{l:List Nat}{x:Nat}(h:Ya l x=true):∀r,RL (some x) r→r∉l:=by
 intro r hc hr;unfold Ya at h
 by_cases hx:x=VL
 ·subst hx;rw[CY,JK]at h;cases l with
  |nil=>cases hr
  |cons a l=>cases h
 rw[CM hx,Er]at h;simp only[Ag,CG,CU,Cm]at h;rcases hc with rfl | ⟨h1,h2⟩ | hc
 ·rw[OR hr]at h;cases h.1
 ·rcases h.2 with h3 | h3
  ·omega
  ·rcases h2 with rfl | rfl
   ·rw[OR hr]at h3;cases h3.1
   ·rw[OR hr]at h3;cases h3.2
 ·exact hx hc
theorem bZ{a b:Fv}(h:Sp a b=true):(∀r,RL a.2 r→r∉b.1)∧∀r,RL b.2 r→r∉a.1:=by
 obtain⟨a1,a2⟩:=a;obtain⟨b1,b2⟩:=b;simp only[Sp,Ag]at h;refine⟨fun r e=>?_,fun r e=>?_⟩
 ·cases a2 with
  |none=>exact e.elim
  |some x=>exact Yc h.1 r e
 ·cases b2 with
  |none=>exact e.elim
  |some x=>exact Yc h.2 r e
section
variable {cx:Cx}{ops:Array Oper}{FT:Nat→Fv}
theorem QT{oi oj:Oper}(h:∀d,oi.dst=some d→d∉oj.looksAt ops)(st:St)(v:AV)(e:List (Nat×HO)):Kn ops oj st (st.after oi v e):=by
 intro d hd;cases hdst:oi.dst with
 |none=>simp[St.after,St.put,hdst]
 |some d' =>
  have:d≠d':=fun q=>h d' hdst (q▸hd)
  simp[St.after,St.put,hdst,G4,CM this]
theorem Kn.symm{o:Oper}{st st2:St}(h:Kn ops o st st2):Kn ops o st2 st:=fun d hd=>(h d hd).symm
theorem aA{o:Oper}{st:St}{v:AV}{e:List (Nat×HO)}:(st.after o v e).h=H1 st.h e:=by
 unfold St.after St.put;cases o.dst<;>rfl
theorem PG{r:Nat}:∀{e:List (Nat×HO)} {h:Nat→HO},(∀o',(r,o')∉e)→H1 h e r=h r
 | [],_,_=>rfl
 |p::e,h,hr=>by
  have:r≠p.1:=fun q=>hr p.2 (by rw[q];exact Ab ..)
  show H1 (AW h p.1 p.2) e r=h r;rw[PG fun o' ho=>hr o' (Af _ ho),BZ _ _ _ _ this]
theorem Xf{r:Nat}{o:HO}:∀{e:List (Nat×HO)} {h:Nat→HO},(∀r' o',(r',o')∈e→r'≠r)→H1 (AW h r o) e=AW (H1 h e) r o
 | [],_,_=>rfl
 |p::e,h,hr=>by
  show H1 (AW (AW h r o) p.1 p.2) e=AW (H1 (AW h p.1 p.2) e) r o;rw[cy h (hr p.1 p.2 (Ab ..)),Xf fun r' o' ho=>hr r' o' (Af _ ho)]
theorem UT:∀{e e' : List (Nat×HO)} {h:Nat→HO},(∀r o r' o',(r,o)∈e→(r',o')∈e'→r'≠r)→H1 (H1 h e) e'=H1 (H1 h e') e
 | [],_,_,_=>rfl
 |p::e,e',h,hd=>by
  show H1 (H1 (AW h p.1 p.2) e) e'=H1 (AW (H1 h e') p.1 p.2) e;rw[←Xf fun r' o' ho=>hd p.1 p.2 r' o' (Ab ..) ho,UT fun r o r' o' h1 h2=>hd r o r' o' (Af _ h1) h2]
theorem YF{oi oj:Oper}{st:St}{v v' : AV}{e e' : List (Nat×HO)}(h1:∀d,oi.dst=some d→oj.dst≠some d)(h2:∀r o r' o',(r,o)∈e→(r',o')∈e'→r'≠r) :
  (st.after oi v e).after oj v' e'=(st.after oj v' e').after oi v e:=by
 have hh:H1 (H1 st.h e) e'=H1 (H1 st.h e') e:=UT h2;have key:∀o:Oper,∀v e,∀st:St,st.after o v e=⟨match o.dst with | none=>st.t | some d=>G4 st.t d v,H1 st.h e⟩:=fun o v e st=>by
  unfold St.after St.put;cases o.dst<;>rfl
 rw[key,key,key,key];simp only[hh];cases hi:oi.dst with
 |none=>rfl
 |some d =>
  cases hj:oj.dst with
  |none=>rfl
  |some d' =>
   have DE:d'≠d:=fun q=>h1 d hi (by rw[hj,q]);simp only[dL st.t DE v v']
theorem YE{K:St→Prop}{i:Nat}{oi:Oper}{v:AV}{e:List (Nat×HO)}(hi:ops[i]?=some oi)(D:Nat→Prop)
  (hD:∀j,D j→∃oj,ops[j]?=some oj∧∃ed∈oj.after,Region.binds .any ed=true∧(ed.on=i∨D ed.on)) :
  ∀(fuel:Nat) (listed:Array Bool) (st:St),
   (∀j oj,ops[j]?=some oj→j≠i→listed.getD j true=false→¬D j→oi.apart ops oj=true∧Sp (FT i) (FT j)=true) →
   i∈Region.ready .any ops listed→(∀j,D j→listed.getD j true=false)→Nb cx ops.toList oi st=some (FT i)→Pw cx ops oi st (FT i) v e →
   WS cx ops FT K fuel (listed.setIfInBounds i true) (st.after oi v e)→WS cx ops FT K (fuel+1) listed st:=by
 have here:∀(fuel:Nat) (listed:Array Bool) (st:St),Nb cx ops.toList oi st=some (FT i)→Pw cx ops oi st (FT i) v e →
   WS cx ops FT K fuel (listed.setIfInBounds i true) (st.after oi v e)→pI cx ops FT i (WS cx ops FT K fuel (listed.setIfInBounds i true)) st:=by
  intro fuel listed st hf hy H;unfold pI;rw[hi];exact⟨hf,hy.2 st (fun _ _=>rfl) (fun _ _=>rfl) _ H⟩
 intro fuel
 induction fuel with
 |zero =>
  intro listed st _ hr _ hf hy H;refine⟨fun h=>(by rw[h]at hr;cases hr),fun j hj=>?_⟩
  by_cases H2:j=i
  ·subst H2;exact here 0 listed st hf hy H
  ·have:=ready_mono hj H2
   rw[H.1]at this;cases this
 |succ fuel ih =>
  intro listed st Aa hr xP hf hy H;refine⟨fun h=>(by rw[h]at hr;cases hr),fun j hj=>?_⟩
  by_cases H2:j=i
  ·subst H2;exact here (fuel+1) listed st hf hy H
  ·have h1:=H.2 j (ready_mono hj H2);obtain⟨qT,oj,ky,FX⟩:=mem_ready.1 hj;have qn:∀k,listed.getD k true=false→listed.getD k false=true→False:=fun k h0 h1=>by
    rcases EI k listed.size with h' | h'
    ·simp[h']at h0 h1;rw[h0]at h1;cases h1
    ·simp[Array.getElem?_eq_none h']at h1
   have sX:¬D j:=fun sN=>by
    obtain⟨oj',mj,ed,he,hb,hon⟩:=hD j sN;rw[ky]at mj;cases mj;have hl:=FX ed he hb;rcases hon with h2 | h2
    ·exact qn _ (by rw[h2];exact(mem_ready.1 hr).1) hl
    ·exact qn _ (xP _ h2) hl
   obtain⟨qD,sN⟩:=Aa j oj ky H2 qT sX;obtain⟨a1,a2,a3⟩:=Oper.apart_spec qD;obtain⟨d1,d2⟩:=bZ sN;unfold pI at h1⊢;rw[ky]at h1⊢;obtain⟨ya,hkj⟩:=h1;have yi:=QT (ops:=ops) a1 st v e;obtain⟨vj,ej,yE,hK⟩:=Od hkj ya;have he1:∀r o',(r,o')∈e→r∉(FT j).1:=fun r o' q=>d1 r (hy.1 r o' q).1;have js:∀r o',(r,o')∈ej→r∉(FT i).1:=fun r o' q=>d2 r (yE.1 r o' q).1;refine⟨by rw[←SD yi];exact ya,yE.2 st yi.symm (fun r nW=>?_) _ ?_⟩
   ·rw[aA,PG (fun o' q=>he1 r o' q nW)]
   ·have yh:=QT (ops:=ops) a3 st vj ej;refine ih (listed.setIfInBounds j true) (st.after oj vj ej) (fun k ok hk yg kF OK=>?_) (ready_mono hr (Ne.symm H2)) (fun k hk=>?_) (by rw[SD yh];exact hf) ⟨hy.1,fun st2 hl hh K' h'=>?_⟩ ?_
    ·by_cases ks:j=k
     ·subst ks;exact Aa _ ok hk yg qT OK
     ·rw[getD_set_ne true ks]at kF;exact Aa k ok hk yg kF OK
    ·by_cases ks:j=k
     ·subst ks;exact absurd hk sX
     ·rw[getD_set_ne true ks];exact xP k hk
    ·refine hy.2 st2 (fun d hd=>(hl d hd).trans (yh d hd)) (fun r nW=>?_) K' h';rw[hh r nW,aA,PG (fun o' q=>js r o' q nW)]
    ·rw[Array.setIfInBounds_comm _ _ (Ne.symm H2)]at hK;rw[←YF a2 (fun r o r' o' q q' e2=>js r' o' q' (by rw[e2];exact(hy.1 r o q).2))];exact hK
def mM(cx:Cx)(ops:Array Oper)(K:St→Prop):List Oper→List Fv→St→Prop
 | [],[],st=>K st
 |o::r,f::fs,st=>Nb cx ops.toList o st=some f∧∃v e,Pw cx ops o st f v e∧mM cx ops K r fs (st.after o v e)
 |_,_,_=>False
theorem RU{K:St→Prop}:∀(l:List Oper) (acc:List Fv) (st:St),WW cx ops l acc st K→∃fs,Sq ops (acc.reverse++fs)=true∧mM cx ops K l fs st
 | [],acc,st,h=>⟨[],by simpa using h.1,h.2⟩
 |o::r,acc,st,h=>by
  unfold WW at h;split at h
  ·rename_i f hf;obtain⟨v,e,h1,h2⟩:=Od h hf;obtain⟨fs,q1,q2⟩:=RU r _ _ h2;exact⟨f::fs,by simpa using q1,hf,v,e,h1,q2⟩
  ·exact h.elim
theorem V9{o:Oper}{i:Nat}{D:List Nat}(h:OI o i D=true):∃ed∈o.after,Region.binds .any ed=true∧(ed.on=i∨ed.on∈D):=by
 unfold OI at h;obtain⟨ed,h1,h2⟩:=Bc.1 h;simp only[Ag,CG]at h2;exact⟨ed,by simpa using h1,h2.1,h2.2.imp AO X1⟩
theorem TQ{i:Nat}{D:List Nat}:∀(l:List Oper) (k:Nat),TP i D k l=true→∀j o,l[j]?=some o→k+j∈D→OI o i D=true
 | [],_,_,_,_,h,_=>by simp at h
 |o::l,k,hs,j,o',h,hm=>by
  simp only[TP,Ag]at hs;cases j with
  |zero =>
   simp only[A9,Bm]at h;subst h;have h1:=hs.1;rw[OR (by simpa using hm)]at h1;simpa using h1
  |succ j=>exact TQ l (k+1) hs.2 j o' (by simpa using h) (by rw[Gs,Nat.add_comm 1 j];exact hm)
theorem UB{oi:Oper}{fi:Fv}{D:List Nat}:∀(l:List Oper) (fs:List Fv) (k:Nat),Io ops oi fi D k l fs=true→l.length=fs.length∧∀j o f,l[j]?=some o→fs[j]?=some f→k+j∉D→oi.apart ops o=true∧Sp fi f=true
 | [],[],_,_=>⟨rfl,fun _ _ _ h=>by simp at h⟩
 | [],_::_,_,h=>by simp[Io]at h
 |_::_,[],_,h=>by simp[Io]at h
 |o::l,f::fs,k,h=>by
  simp only[Io,Ag,CG]at h;obtain⟨h1,h2⟩:=UB l fs (k+1) h.2;refine⟨by simp[h1],fun j o' f' q1 q2 hn=>?_⟩;cases j with
  |zero =>
   simp only[A9,Bm]at q1 q2;subst q1;subst q2;rcases h.1 with h3 | h3
   ·exact absurd (X1 h3) hn
   ·exact h3
  |succ j=>exact h2 j o' f' (by simpa using q1) (by simpa using q2) (by simpa[Nat.add_assoc,Nat.add_comm 1 j]using hn)
theorem WT{K:St→Prop}:∀(l:List Oper) (fs:List Fv) (k:Nat) (listed:Array Bool) (st:St),(∀j,l[j]?=ops[k+j]?)→(∀j f,fs[j]?=some f→FT (k+j)=f)→listed.size=ops.size →
  (∀j,j<ops.size→listed.getD j true=decide (j<k))→LY ops ops.toList k l fs=true→mM cx ops K l fs st→WS cx ops FT K l.length listed st
 | [],[],k,listed,st,hl,_,hs,hL,_,h=>by
  refine⟨?_,h⟩;apply LC.2;intro j hj;obtain⟨h1,o,ho,_⟩:=mem_ready.1 hj;have DL:=(Bz.1 ho).1;rw[hL j DL]at h1;have pn:k≤j:=by simpa using h1
  have:=hl (j-k)
  rw[show k+(j-k)=j by omega,ho]at this;simp at this
 | [],_::_,_,_,_,_,_,_,_,h,_=>by simp[LY]at h
 |_::_,[],_,_,_,_,_,_,_,h,_=>by simp[LY]at h
 |o::l,f::fs,k,listed,st,hl,hF,hs,hL,hg,h=>by
  simp only[LY,Ag]at hg;obtain⟨⟨⟨⟨g1,g2⟩,g3⟩,g4⟩,g5⟩:=hg;obtain⟨hf,v,e,hy,hp⟩:=h;have h0:ops[k]?=some o:=by simpa using(hl 0).symm
  have hk:=(Bz.1 h0).1;have uF:FT k=f:=by simpa using hF 0 f rfl
  have PK : ∀j,l[j]?=ops[k+1+j]?:=fun j=>by have:=hl (j+1);simpa[Nat.add_assoc,Nat.add_comm 1 j]using this
  have pe : ∀j f,fs[j]?=some f→FT (k+1+j)=f:=fun j f' hj=>by have:=hF (j+1) f' (by simpa using hj);simpa[Nat.add_assoc,Nat.add_comm 1 j]using this
  obtain⟨CJ,qD⟩:=UB l fs (k+1) g4;have ay:∀j,j∈PF k [] 0 ops.toList→k<j∧j<ops.size:=fun j hj=>by
   have:=(Bs.1 g3) j hj
   simp only[Ag,Cm,B5]at this;exact this
  refine YE h0 (fun j=>j∈PF k [] 0 ops.toList) (fun j hj=>?_) l.length listed st (fun j oj ky ks kF sX=>?_) ?_ (fun j hj=>?_) (by rw[uF];exact hf) (by rw[uF];exact hy) ?_
  ·have DL:=(ay j hj).2
   have:=TQ ops.toList 0 g2 j ops[j] (by simp[DL]) (by simpa using hj)
   obtain⟨ed,e1,e2,e3⟩:=V9 this;exact⟨ops[j],by simp[DL],ed,e1,e2,e3⟩
  ·have DL:=(Bz.1 ky).1;rw[hL j DL]at kF;have pn:k<j:=by have q:k≤j:=(by simpa using kF);omega
   have e1:l[j-(k+1)]?=some oj:=by rw[PK,show k+1+(j-(k+1))=j by omega];exact ky
   have hfl:j-(k+1)<fs.length:=by rw[←CJ];exact(At.1 e1).1
   have e2:fs[j-(k+1)]?=some fs[j-(k+1)]:=AA hfl;have e3:=pe _ _ e2;rw[show k+1+(j-(k+1))=j by omega]at e3;rw[uF,e3];exact qD _ _ _ e1 e2 (by rw[show k+1+(j-(k+1))=j by omega];exact sX)
  ·refine mem_ready.2 ⟨by rw[hL k hk];simp,o,h0,fun ed he hb=>?_⟩
   have:=(Bs.1 g1) ed (by simpa using he)
   simp only[hb,Bool.not_true,LK,Cm]at this;have h1:=hL ed.on (by omega);have DL:ed.on<listed.size:=by omega
   simp[DL]at h1⊢;rw[h1];simpa using this
  ·have:=ay j hj
   rw[hL j this.2];simp;omega
  ·refine WT l fs (k+1) _ _ PK pe (by simp[hs]) (fun j hj=>?_) g5 hp
   by_cases ks:j=k
   ·subst ks
    have:j<listed.size:=by omega
    simp[this]
   ·rw[getD_set_ne true (Ne.symm ks),hL j hj]
    by_cases h1:j<k
    ·simp[h1];omega
    ·simp[h1];omega
theorem bH{K:St→Prop}{st:St}(h:WW cx ops ops.toList [] st K):Region.noSelect ops=true∧∃FT,WS cx ops FT K ops.size (Array.replicate ops.size false) st:=by
 obtain⟨fs,h1,h2⟩:=RU _ _ _ h;simp only[Sq,List.reverse_nil,Ei,Ag]at h1;refine⟨h1.1,fun j=>fs.getD j default,?_⟩
 have:=WT (FT:=fun j=>fs.getD j default) ops.toList fs 0 (Array.replicate ops.size false) st (by simp) (fun j f hj=>by simp[hj]) (by simp) (fun j hj=>by simp[hj]) h1.2 h2
 simpa using this
end
end Go.Eng
