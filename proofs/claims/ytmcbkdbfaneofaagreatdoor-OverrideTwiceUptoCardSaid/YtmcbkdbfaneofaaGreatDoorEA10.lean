/- Lemmas for the claims of this seat, without a condition: part 10 (EngX, EngY, EngZ). -/
import Derived.Test.YtmcbkdbfaneofaaGreatDoorEA09
namespace Go.Eng
section
variable {cx:Cx}{dst:Option Nat}{ty:Nat}{pos:String}{after:Array Edge}{gd:Option (Nat×Bool)}{st:St}{R:List Nat}{w:Option Nat}{K:HK}
theorem Za{t:Nat}{p:Operand}(hk:FK cx true ⟨dst,.load t p,ty,pos,after,gd⟩ st K)(hf:Fa cx ⟨dst,.load t p,ty,pos,after,gd⟩ st=some (R,w)):Ee cx ⟨dst,.load t p,ty,pos,after,gd⟩ st R w K:=by
 simp only[FK]at hk;have hn:∀st2,IH ⟨dst,.load t p,ty,pos,after,gd⟩ R st st2→ev st2.t p=ev st.t p:=fun st2 ha=>ha.t p (by simp[Op.operands]);simp only[Fa]at hf;unfold H3 at hk;split at hf
 ·rename_i cs hp;cases hf;rw[hp]at hk;simp only at hk;exact .pick (H9 _ _ _) hk fun st2 ha K' h=>by simp only[FK,H3,hn st2 ha,hp];exact h
 ·rename_i r off hp;cases hf;rw[hp]at hk;simp only at hk;split at hk
  ·rename_i cs hr;exact .pick (H9 _ _ _) hk fun st2 ha K' h=>by simp only[FK,H3,hn st2 ha,hp,ha.h r (Aa ..),hr];exact h
  ·rename_i cs hr;exact .pick (H9 _ _ _) hk fun st2 ha K' h=>by simp only[FK,H3,hn st2 ha,hp,ha.h r (Aa ..),hr];exact h
  ·exact hk.elim
 ·rename_i r n sz i off hp;cases hf;rw[hp]at hk;simp only at hk;split at hk
  ·rename_i Gj es hr;split at hk
   ·rename_i hs;exact .pick (Dz (MU fun _=>Dz (H9 _ _ _))) hk fun st2 ha K' h=>by simp only[FK,H3,hn st2 ha,hp,ha.h r (Aa ..),hr,hs];exact h
   ·exact hk.elim
  ·rename_i Gj es i' c av hr;split at hk
   ·rename_i hs;exact .pick (Dz (H9 _ _ _)) hk fun st2 ha K' h=>by simp only[FK,H3,hn st2 ha,hp,ha.h r (Aa ..),hr,hs];exact h
   ·exact hk.elim
  ·exact hk.elim
 ·cases hf
theorem V8{x:Operand}(hk:FK cx true ⟨dst,.assign x,ty,pos,after,gd⟩ st K)(hf:Fa cx ⟨dst,.assign x,ty,pos,after,gd⟩ st=some (R,w)):Ee cx ⟨dst,.assign x,ty,pos,after,gd⟩ st R w K:=by
 simp only[FK]at hk;have hn:∀st2,IH ⟨dst,.assign x,ty,pos,after,gd⟩ R st st2→ev st2.t x=ev st.t x:=fun st2 ha=>ha.t x (by simp[Op.operands]);simp only[Fa]at hf;split at hf
 ·cases hf
 ·rename_i hx;cases hf;have same:∃y,∀(h:Nat→HO) (K:HK),Of cx dst h (ev st.t x) K↔K y h:=by
   unfold Of;cases dst with
   |none=>exact⟨_,fun _ _=>Qw⟩
   |some d =>
    simp only;cases Gy cx.pl.tok d with
    |some sz =>
     simp only;cases Nat.beq sz 0 with
     |true=>exact⟨_,fun _ _=>Qw⟩
     |false =>
      refine⟨ev st.t x,fun h K=>?_⟩;simp only;split
      ·rename_i e;exact absurd e (hx _ _ _)
      ·exact Qw
    |none =>
     simp only;cases Gy cx.pl.arr d with
     |some sz =>
      refine⟨ev st.t x,fun h K=>?_⟩;simp only;split
      ·rename_i e;exact absurd e (hx _ _ _)
      ·exact Qw
     |none=>exact⟨_,fun _ _=>Qw⟩
  obtain⟨y,same⟩:=same;exact .pick (Dm y) ((same _ _).1 hk) fun st2 ha K' h=>by simp only[FK];rw[hn st2 ha];exact(same _ _).2 h
theorem QL{t:Nat}{x:Operand}{lo hi mx:Option Operand}(hp:Nx cx.pl.tok dst=none)(hk:FK cx true ⟨dst,.slice t x lo hi mx,ty,pos,after,gd⟩ st K)(hf:Fa cx ⟨dst,.slice t x lo hi mx,ty,pos,after,gd⟩ st=some (R,w)) :
  Ee cx ⟨dst,.slice t x lo hi mx,ty,pos,after,gd⟩ st R w K:=by
 simp only[FK,hp]at hk;have hn:∀st2,IH ⟨dst,.slice t x lo hi mx,ty,pos,after,gd⟩ R st st2→ev st2.t x=ev st.t x∧B6 st2.t lo=B6 st.t lo∧B6 st2.t hi=B6 st.t hi∧B6 st2.t mx=B6 st.t mx:=by
  intro st2 ha;have vR:∀y:Option Operand,(∀z,y=some z→ev st2.t z=ev st.t z)→B6 st2.t y=B6 st.t y:=by
   intro y hy;cases y with
   |none=>rfl
   |some z=>simp only[B6];rw[hy z rfl]
  exact⟨ha.t x (by simp[Op.operands]),vR lo (fun z e=>ha.t z (by simp[Op.operands,e])),vR hi (fun z e=>ha.t z (by simp[Op.operands,e])),vR mx (fun z e=>ha.t z (by simp[Op.operands,e]))⟩
 simp only[Fa,hp]at hf;split at hf
 ·cases hf
 ·rename_i hx;cases hf;have e3:B6 st.t none=some none:=rfl
  have It:F2 (fun K1=>Gi cx dst st.h t (ev st.t x) (B6 st.t lo) (B6 st.t hi) (some none) fun v _=>K1 v) ∧
    ∀(h:Nat→HO) (K:HK),Gi cx dst h t (ev st.t x) (B6 st.t lo) (B6 st.t hi) (some none) K↔Gi cx dst st.h t (ev st.t x) (B6 st.t lo) (B6 st.t hi) (some none) (fun v _=>K v h):=by
   generalize ev st.t x=X at hx;unfold Gi;constructor
   ·repeat' split
    all_goals first | exact CA | exact Dz (Dm _) | exact Dz (Dz (Dm _)) | skip
    all_goals first | (rename_i e;cases e;done) | skip
    all_goals (exfalso;exact hx _ _ rfl)
   ·intro h K
    repeat' split
    all_goals first | exact Qw | skip
    all_goals exfalso
    all_goals first | exact hx _ _ rfl | (rename some none=some (some _)=>e4;cases e4)
  rw[e3]at hk;exact .pick It.1 ((It.2 _ _).1 hk) fun st2 ha K' h=>by
   obtain⟨n1,n2,n3,n4⟩:=hn st2 ha;simp only[FK,hp];rw[n1,n2,n3,n4,e3];exact(It.2 _ _).2 h
 ·rename_i y tk es hx;obtain⟨d,rfl,e0⟩:=Ir hf;cases e0;rw[hx]at hk;unfold Gi at hk;split at hk
  ·rename_i HA LN mf e1 e2 e3;split at hk
   ·split at hk<;>first | exact hk.elim | (rename_i e;cases e)
   ·rename_i e he;split at hk
    ·exact hk.elim
    ·rename_i k EF;simp only at hk;split at hk
     ·exfalso
      rename_i e4;simp only[B6]at e3;split at e3<;>cases e3
     ·rename_i m;split at hk
      ·rename some d=some _=>e5
       cases e5
       split at hk
       ·rename_i ng;refine⟨_,none,hk.2.2,fun r o' e=>(by cases e),fun st2 GS K' h'=>?_⟩;obtain⟨n1,n2,n3,n4⟩:=hn st2 GS;simp only[FK,hp];rw[n1,n2,n3,n4,hx,e1,e2,e3];unfold Gi;simp only[he];split
        ·rename_i e0;rw[EF]at e0;cases e0
        ·simp only[ng];exact⟨hk.1,hk.2.1,h'⟩
       rename_i ng;split at hk
       ·rename_i hd;refine⟨_,some (d,_),hk.2.2,fun r o' e=>(by cases e;exact⟨rfl,Aa ..⟩),fun st2 GS K' h'=>?_⟩;obtain⟨n1,n2,n3,n4⟩:=hn st2 GS;simp only[FK,hp];rw[n1,n2,n3,n4,hx,e1,e2,e3];unfold Gi;simp only[he];split
        ·rename_i e0;rw[EF]at e0;cases e0
        ·simp only[ng];rw[GS.h d (Aa ..),hd];exact⟨hk.1,hk.2.1,h'⟩
       ·exact hk.elim
      ·exact hk.elim
   ·exact hk.elim
  ·exact hk.elim
 ·cases hf
theorem cd{t:Nat}{x:Operand}{lo hi mx:Option Operand}{p:Nat}(hp:Nx cx.pl.tok dst=some p)(hk:FK cx true ⟨dst,.slice t x lo hi mx,ty,pos,after,gd⟩ st K)(hf:Fa cx ⟨dst,.slice t x lo hi mx,ty,pos,after,gd⟩ st=some (R,w)) :
  Rs cx ⟨dst,.slice t x lo hi mx,ty,pos,after,gd⟩ st R w K:=by
 simp only[FK,hp]at hk;simp only[Fa,hp]at hf;obtain⟨d',r,n,hd,hx,e0⟩:=Y8 hf;cases e0;cases dst with
 |none=>cases hd
 |some d =>
 cases hd
 unfold Nq at hk;split at hk
 ·rw[hx]at hk;unfold ii at hk;split at hk
  ·rename_i d0 LN e1 e2;cases e1;split at hk
   ·rename_i e he;split at hk
    ·exact hk.elim
    ·rename_i k EF;simp only at hk;split at hk
     ·rename_i sz es hr;split at hk
      ·rename_i hd;split at hk
       ·rename_i q1 q3;obtain⟨h1,hk⟩:=hk;have hr8:r<10000000∧0<Ks cx d:=by simpa using q3
        obtain⟨xU,hz⟩:=hr8;refine⟨_,[(r,.dead),(Ks cx d,_)],hk,fun r' o' e=>?_,fun st2 ha K' h'=>?_⟩
        ·rcases Aq.1 e with e | e
         ·cases e
          refine⟨.inr (.inl ⟨by omega,.inl ?_⟩),Aa ..⟩;rw[Nat.add_mul_mod_self_left,Nat.mod_eq_of_lt xU]
         ·obtain e:=Am.1 e;cases e;refine⟨.inr (.inl ⟨by omega,.inr ?_⟩),Ae _ (Aa ..)⟩;rw[Nat.add_mul_div_left _ _ (by decide),Nat.div_eq_of_lt xU,Bi]
        ·have o1:B6 st2.t hi=B6 st.t hi:=by
          cases hi with
          |none=>rfl
          |some z=>simp only[B6];rw[ha.t z (by simp[Op.operands])]
         simp only[FK,hp];unfold Nq;rw[ha.t x (by simp[Op.operands]),o1,hx,e2];unfold ii;simp only[he];split
         ·rename_i e0;rw[EF]at e0;cases e0
         ·simp only[ha.h r (Aa ..),hr,ha.h (Ks cx d) (Ae _ (Aa ..)),hd,q1,q3];exact⟨h1,h'⟩
       ·exact hk.elim
      ·exact hk.elim
     ·exact hk.elim
   ·exact hk.elim
  ·exact hk.elim
 ·exact hk.elim
theorem V7{s x:Operand}{GG:Array TypeId}(hk:FK cx true ⟨dst,.call ⟨.builtin .append,#[s,x],GG⟩,ty,pos,after,gd⟩ st K)(hf:Fa cx ⟨dst,.call ⟨.builtin .append,#[s,x],GG⟩,ty,pos,after,gd⟩ st=some (R,w)) :
  Ee cx ⟨dst,.call ⟨.builtin .append,#[s,x],GG⟩,ty,pos,after,gd⟩ st R w K:=by
 have hk:FQ cx dst st.h .append GG.toList [ev st.t s,ev st.t x] K:=hk;have hf:V6 cx dst (ev st.t s) (ev st.t x)=some (R,w):=hf;have hn:∀st2,IH ⟨dst,.call ⟨.builtin .append,#[s,x],GG⟩,ty,pos,after,gd⟩ R st st2→ev st2.t s=ev st.t s∧ev st2.t x=ev st.t x:=fun st2 ha =>
  ⟨ha.t s (by simp[Op.operands,Call.operands]),ha.t x (by simp[Op.operands,Call.operands])⟩
 have JZ:∀st2,IH ⟨dst,.call ⟨.builtin .append,#[s,x],GG⟩,ty,pos,after,gd⟩ R st st2→∀K' : HK,FQ cx dst st2.h .append GG.toList [ev st.t s,ev st.t x] K'→FK cx true ⟨dst,.call ⟨.builtin .append,#[s,x],GG⟩,ty,pos,after,gd⟩ st2 K':=by
  intro st2 ha K' h;rw[←(hn st2 ha).1,←(hn st2 ha).2]at h;exact h
 generalize GG.toList=l at hk JZ
 match l,hk,JZ with
 | [t,t'],hk,JZ =>
  simp only[FQ]at hk JZ;split at hk
  ·rename_i ht;simp only[ht]at JZ;unfold Ib at hk JZ;split at hk
   ·rename_i e he;simp only[he]at JZ;split at hk
    ·exact hk.elim
    ·rename_i hz;simp only[hz]at JZ;split at hk
     ·exact hk.elim
     ·rename_i k EF;obtain⟨es2,q1,q2⟩:=Y2 hk;have jk:∀d,R=d::cK (ev st.t x)→∀st2,IH ⟨dst,.call ⟨.builtin .append,#[s,x],GG⟩,ty,pos,after,gd⟩ R st st2→∀r n,ev st.t x=.msl r n→st2.h r=st.h r:=fun d hR st2 ha r n e=>ha.h r (by rw[hR,e];simp[cK]);unfold V6 at hf;split at hf
      ·rename_i hs;obtain⟨d,ci,e0⟩:=Ir hf;cases e0;rw[hs]at q1 JZ;simp only at q1 JZ;obtain⟨d',hd,v,y,q3,q4⟩:=Ig q1.2;rw[ci]at hd;cases hd;refine⟨v,some (d,y),q3,fun r o' e=>(by cases e;exact⟨rfl,Aa ..⟩),fun st2 GS K' h'=>JZ st2 GS K' ?_⟩;split
       ·rename_i e0;rw[EF]at e0;cases e0
       ·exact q2 st2.h (jk d rfl st2 GS) _ ⟨q1.1,q4 st2.h (GS.h d (Aa ..)) K' h'⟩
      ·rename_i Gj es hs;obtain⟨d,ci,e0⟩:=Ir hf;cases e0;rw[hs]at q1 JZ;simp only at q1 JZ;split at q1
       ·rename_i h1;obtain⟨d',hd,v,y,q3,q4⟩:=Ig q1.2;rw[ci]at hd;cases hd;refine⟨v,some (d,y),q3,fun r o' e=>(by cases e;exact⟨rfl,Aa ..⟩),fun st2 GS K' h'=>JZ st2 GS K' ?_⟩;split
        ·rename_i e0;rw[EF]at e0;cases e0
        ·refine q2 st2.h (jk d rfl st2 GS) _ ?_;simp only[h1];exact⟨q1.1,q4 st2.h (GS.h d (Aa ..)) K' h'⟩
       ·exact q1.elim
      ·rename_i r Gj es hs;cases hf;rw[hs]at q1 JZ;simp only at q1 JZ;split at q1
       ·rename_i sz n hr;split at q1
        ·rename_i h1 h2;refine⟨_,some (r,_),q1.2,fun r o' e=>(by cases e;exact⟨rfl,Aa ..⟩),fun st2 GS K' h'=>JZ st2 GS K' ?_⟩;split
         ·rename_i e0;rw[EF]at e0;cases e0
         ·refine q2 st2.h (jk r rfl st2 GS) _ ?_;simp only[GS.h r (Aa ..),hr,h1,h2];exact⟨q1.1,h'⟩
        ·exact q1.elim
       ·exact q1.elim
      ·rename_i r n hs;cases hf;rw[hs]at q1 JZ;simp only at q1 JZ;split at q1
       ·rename_i sz es hr;split at q1
        ·rename_i h1;refine⟨_,some (r,_),q1.2,fun r o' e=>(by cases e;exact⟨rfl,Aa ..⟩),fun st2 GS K' h'=>JZ st2 GS K' ?_⟩;split
         ·rename_i e0;rw[EF]at e0;cases e0
         ·refine q2 st2.h (jk r rfl st2 GS) _ ?_;simp only[GS.h r (Aa ..),hr,h1];exact⟨q1.1,h'⟩
        ·exact q1.elim
       ·exact q1.elim
      ·cases hf
   ·exact hk.elim
  ·exact hk.elim
 | [],hk,_=>exact hk.elim
 | [_],hk,_=>exact hk.elim
 |_::_::_::_,hk,_=>exact hk.elim
theorem Vp(T:Gm)(t:Nat):F2 (Kc T t):=by
 unfold Kc
 repeat' split
 all_goals first | exact CA | exact Dm _
theorem TJ(T:Gm)(ty:Nat)(ok:Bool)(B3:List (Value×AV))(kx:Value):F2 (L6 T ty ok B3 kx):=by
 unfold L6
 repeat' split
 ·refine aS (MU fun a=>Dz (Dm _)) (Dz ?_);intro K hk;obtain⟨v,h1,h2⟩:=Vp T _ _ hk;exact⟨_,h1,fun K' h=>h2 _ h⟩
 ·exact aS (MU fun a=>Dz (Dm _)) (Dz (Vp T _))
 ·exact CA
theorem Ym(T:Gm)(ty:Nat)(sh:EE)(k:AV){F:Value→(AV→Prop)→Prop}(h:∀x,F2 (F x)):F2 fun K=>J5 T ty sh k fun kx=>F kx K:=by
 unfold J5
 repeat' split
 all_goals first | exact CA | exact h _
theorem V9{t:Nat}{m k:Operand}{ok:Bool}(hk:FK cx true ⟨dst,.lookup t m k ok,ty,pos,after,gd⟩ st K)(hf:Fa cx ⟨dst,.lookup t m k ok,ty,pos,after,gd⟩ st=some (R,w)) :
  Ee cx ⟨dst,.lookup t m k ok,ty,pos,after,gd⟩ st R w K:=by
 simp only[FK]at hk;have hn:∀st2,IH ⟨dst,.lookup t m k ok,ty,pos,after,gd⟩ R st st2→ev st2.t m=ev st.t m∧ev st2.t k=ev st.t k:=fun st2 ha=>⟨ha.t m (by simp[Op.operands]),ha.t k (by simp[Op.operands])⟩;simp only[Fa]at hf;unfold MM at hk;split at hf
 ·rename_i sh B3 hm;cases hf;rw[hm]at hk;simp only at hk;exact .pick (Ym _ _ _ _ fun _=>TJ _ _ _ _ _) hk fun st2 ha K' h=>by simp only[FK,MM,hn st2 ha,hm];exact h
 ·rename_i r hm;cases hf;rw[hm]at hk;simp only at hk;split at hk
  all_goals first | exact hk.elim | (rename_i e;exact .pick (Ym _ _ _ _ fun _=>TJ _ _ _ _ _) hk fun st2 ha K' h=>by simp only[FK,MM,hn st2 ha,hm,ha.h r (Aa ..),e];exact h)
 ·cases hf
theorem gZ(T:Gm)(t:Nat)(h:Nat→HO)(x:AV):F2 (QR T t h x):=by
 unfold QR
 repeat' split
 all_goals first | exact CA | exact Dm _
theorem nU{T:Gm}{t:Nat}{h h2:Nat→HO}{x:AV}(e:∀r,x=.mref r→h2 r=h r){K:AV→Prop}:QR T t h2 x K=QR T t h x K:=by
 cases x<;>first | rfl | skip
 rename_i r;unfold QR;simp only[e r rfl]
theorem cc{x:Operand}{GG:Array TypeId}(hk:FK cx true ⟨dst,.call ⟨.builtin .len,#[x],GG⟩,ty,pos,after,gd⟩ st K)(hf:Fa cx ⟨dst,.call ⟨.builtin .len,#[x],GG⟩,ty,pos,after,gd⟩ st=some (R,w)) :
  Ee cx ⟨dst,.call ⟨.builtin .len,#[x],GG⟩,ty,pos,after,gd⟩ st R w K:=by
 have hk:FQ cx dst st.h .len GG.toList [ev st.t x] K:=hk;have hf:GN cx dst (.builtin .len) st.t [ev st.t x]=some (R,w):=hf;have hn:∀st2,IH ⟨dst,.call ⟨.builtin .len,#[x],GG⟩,ty,pos,after,gd⟩ R st st2→ev st2.t x=ev st.t x:=fun st2 ha=>ha.t x (by simp[Op.operands,Call.operands]);have JZ:∀st2,IH ⟨dst,.call ⟨.builtin .len,#[x],GG⟩,ty,pos,after,gd⟩ R st st2→∀K' : HK,FQ cx dst st2.h .len GG.toList [ev st.t x] K'→FK cx true ⟨dst,.call ⟨.builtin .len,#[x],GG⟩,ty,pos,after,gd⟩ st2 K':=by
  intro st2 ha K' h;rw[←hn st2 ha]at h;exact h
 generalize GG.toList=l at hk JZ
 match l,hk,JZ with
 | [t],hk,JZ =>
  have hR:∀r,ev st.t x=.mref r→r∈R:=fun r e=>by
   rw[e]at hf;cases hf;exact Aa ..
  have hw:w=none:=by
   unfold GN at hf;split at hf<;>first | (cases hf;rfl) | (rename_i e;cases e) | (rename_i e _;cases e) | skip
   all_goals (cases hf)
  subst hw;exact .pick (gZ _ _ _ _) hk fun st2 ha K' h=>JZ st2 ha K' (by
   simp only[FQ];rw[nU fun r e=>ha.h r (hR r e)];exact h)
 | [],hk,_=>exact hk.elim
 |_::_::_,hk,_=>exact hk.elim
end
theorem kD{l:List Nat}{n:Nat}(h:IF l n=true):n∈l:=by
 induction l with
 |nil=>cases h
 |cons a l ih =>
  unfold IF at h
  by_cases e:a=n
  ·exact e▸Aa ..
  ·rw[CL e]at h;exact Ae _ (ih h)
theorem Xk(G:Nat→HO):∀(σ:IT) (h:Nat→HO),Ek σ=true→(fun i=>match Cu σ i with | some j=>G j | none=>h i)=HY h (σ.map fun p=>(p.1,G p.2))
 | [],h,_=>rfl
 |(i,j)::r,h,hσ=>by
  unfold Ek at hσ;simp only[Ag]at hσ;have ih:=Xk G r (AW h i (G j)) hσ.2;show _=HY (AW h i (G j)) (r.map fun p=>(p.1,G p.2));rw[←ih]
  funext i'
  have hn:Cu r i=none:=by
   have:=hσ.1.1.1
   cases e:Cu r i with
   |none=>rfl
   |some k=>rw[e]at this;simp at this
  by_cases e:i'=i
  ·subst e;have e1:Cu ((i',j)::r) i'=some j:=by unfold Cu;rw[CW];rfl
   rw[e1,hn];show G j=AW h i' (G j) i';unfold AW;rw[CW];rfl
  ·have e1:Cu ((i,j)::r) i'=Cu r i':=by
    show(bif Nat.beq i i' then some j else Cu r i')=_;rw[CL (Ne.symm e)];rfl
   rw[e1];cases Cu r i' with
   |some k=>rfl
   |none=>show h i'=AW h i (G j) i';unfold AW;rw[CL e];rfl
theorem UI{σ:IT}{d:Nat}(hσ:Ek σ=true){h h' : Nat→HO}:D6 σ d 0 h h'=HY h (σ.map fun p=>(p.1,(h' p.2).ren (E2 σ d 0) h')):=by
 rw[←Xk (fun j=>(h' j).ren (E2 σ d 0) h') σ h hσ]
 funext i
 unfold D6;cases Cu σ i with
 |some j=>rfl
 |none =>
  have:(Nat.ble (Bq d 0) i&&Nat.blt i (Bq d 0))=false:=by
   rw[AI];simp only[Vj,Ag,Db,Ck];omega
  simp only[this]
section
variable {cx:Cx}{op:Op}{dst:Option Nat}{ty:Nat}{pos:String}{after:Array Edge}{gd:Option (Nat×Bool)}{st:St}{R:List Nat}{w:Option Nat}{K:HK}
theorem Ee.toL(h:Ee cx ⟨dst,op,ty,pos,after,gd⟩ st R w K):Rs cx ⟨dst,op,ty,pos,after,gd⟩ st R w K:=by
 obtain⟨v,e,h1,h2,h3⟩:=h;cases e with
 |none=>exact⟨v,[],h1,fun r o' e=>(by cases e),h3⟩
 |some p=>exact⟨v,[p],h1,fun r o' e=>by
   obtain rfl:=Am.1 e;obtain⟨a,b⟩:=h2 r o' rfl;exact⟨by rw[a];exact .inl rfl,b⟩,h3⟩
theorem Y9{c:Call}(hk:FK cx true ⟨dst,.call c,ty,pos,after,gd⟩ st K)(hf:Fa cx ⟨dst,.call c,ty,pos,after,gd⟩ st=some (R,w)):Rs cx ⟨dst,.call c,ty,pos,after,gd⟩ st R w K:=by
 obtain⟨mW,args,GG⟩:=c;have Jd:∀st2,IH ⟨dst,.call ⟨mW,args,GG⟩,ty,pos,after,gd⟩ R st st2→args.toList.map (ev st2.t)=args.toList.map (ev st.t):=fun st2 ha =>
  Bf fun x hx=>ha.t x (by simp only[Op.operands,Call.operands,RI];exact .inr (by simpa using hx))
 cases mW with
 |invoke r m=>exact hk.elim
 |value f =>
  have hk:F8 cx true dst st (ev st.t f) (args.toList.map (ev st.t)) K:=hk;have hf:GN cx dst (.value f) st.t (args.toList.map (ev st.t))=some (R,w):=hf;unfold GN at hf;unfold F8 at hk;simp only at hf hk;have hn:=Jd;split at hf
  ·rename_i az;rw[az]at hk;cases hf;obtain⟨res,h1,h2⟩:=hk;refine Ee.toL ⟨res,none,h2,fun r o' e=>(by cases e),fun st2 ha K' h'=>?_⟩;show F8 cx true dst st2 (ev st2.t f) (args.toList.map (ev st2.t)) K';rw[Jd st2 ha,ha.t f (by simp[Op.operands,Call.operands])];unfold F8;simp only[az];refine⟨res,?_,h'⟩;rw[KK (h:=st.h) (fun r hr=>ha.h r (Bp _ hr)),Qn (h:=st.h) (fun r hr=>ha.h r (Bk _ hr))];exact h1
  ·rename_i az;rw[az]at hk;simp only at hk;cases dst with
   |none=>exact hk.elim
   |some d =>
    obtain⟨n,sz,es,h1,h2,h3⟩:=hk;have hf:some (Bq d 0::(WQ (ev st.t f)++SV (args.toList.map (ev st.t))),some (Bq d 0))=some (R,w):=hf;cases hf;refine Ee.toL ⟨_,some (Bq d 0,_),h3,fun r o' e=>(by cases e;exact⟨rfl,Aa ..⟩),fun st2 ha K' h'=>?_⟩;show F8 cx true (some d) st2 (ev st2.t f) (args.toList.map (ev st2.t)) K';rw[Jd st2 ha,ha.t f (by simp[Op.operands,Call.operands])];unfold F8;simp only[az];refine⟨n,sz,es,?_,?_,h'⟩
    ·have:DF st2.h d 1=DF st.h d 1:=by simp only[DF,ha.h (Bq d 0) (Aa ..)]
     rw[this];exact h1
    ·rw[KK (h:=st.h) (fun r hr=>ha.h r (Ae _ (Bp _ hr))),Qn (h:=st.h) (fun r hr=>ha.h r (Ae _ (Bk _ hr)))];exact h2
  ·rename_i az;rw[az]at hk;have hk:Rd cx 0 dst st.h (ev st.t f) (args.toList.map (ev st.t)) K:=hk;split at hf
   ·rename_i r n l hl;cases hf;have It:=hk;unfold Rd at It;rw[hl]at It;split at It
    ·rename_i d0 f0 r0 n0 l0 e1 e2 z1 z2;cases e2;split at It
     ·rename_i vs dP;split at It
      ·rename_i sz es hr;obtain⟨n',Fz,h1,h2⟩:=It;refine Ee.toL ⟨_,some (r,_),h2,fun r o' e=>(by cases e;exact⟨rfl,Aa ..⟩),fun st2 ha K' h'=>?_⟩;show F8 cx true _ st2 (ev st2.t f) (args.toList.map (ev st2.t)) K';rw[Jd st2 ha,ha.t f (by simp[Op.operands,Call.operands]),hl,e1];unfold F8;simp only[az];unfold Pe;simp only;unfold Rd;simp only[dP,ha.h r (Aa ..),hr];exact⟨n',Fz,h1,h'⟩
      ·exact It.elim
     ·exact It.elim
    ·exact It.elim
   ·cases hf
  ·rename_i k az;rw[az]at hk;cases hb:Nat.beq k 1 with
   |true =>
    have Ui:Nat.beq (k+1) 2=true:=hb;have hk:TZ cx dst st (ev st.t f) (args.toList.map (ev st.t)) K:=by
     have It:(match Nat.beq (k+1) 2 with | true=>TZ cx dst st (ev st.t f) (args.toList.map (ev st.t)) K | false=>match Nat.beq (k+1) 3 with | true=>Qt cx dst st (ev st.t f) (args.toList.map (ev st.t)) K | false=>Pe cx (k+1) dst st (ev st.t f) (args.toList.map (ev st.t)) K):=hk;rw[Ui]at It;exact It
    rw[hb]at hf;cases dst with
    |none=>exact hk.elim
    |some d =>
     obtain⟨sz,es,h1,h2,h3⟩:=hk;have hf:some (Bq d 0::(WQ (ev st.t f)++SV (args.toList.map (ev st.t))),some (Bq d 0))=some (R,w):=hf;cases hf;refine Ee.toL ⟨_,some (Bq d 0,_),h3,fun r o' e=>(by cases e;exact⟨rfl,Aa ..⟩),fun st2 ha K' h'=>?_⟩;show F8 cx true (some d) st2 (ev st2.t f) (args.toList.map (ev st2.t)) K';rw[Jd st2 ha,ha.t f (by simp[Op.operands,Call.operands])];unfold F8;simp only[az,Ui];refine⟨sz,es,?_,?_,h'⟩
     ·have:DF st2.h d 1=DF st.h d 1:=by simp only[DF,ha.h (Bq d 0) (Aa ..)]
      rw[this];exact h1
     ·rw[KK (h:=st.h) (fun r hr=>ha.h r (Ae _ (Bp _ hr))),Qn (h:=st.h) (fun r hr=>ha.h r (Ae _ (Bk _ hr)))];exact h2
   |false =>
    have Ui:Nat.beq (k+1) 2=false:=hb;rw[hb]at hf;have It:(match Nat.beq (k+1) 2 with | true=>TZ cx dst st (ev st.t f) (args.toList.map (ev st.t)) K | false=>match Nat.beq (k+1) 3 with | true=>Qt cx dst st (ev st.t f) (args.toList.map (ev st.t)) K | false=>Pe cx (k+1) dst st (ev st.t f) (args.toList.map (ev st.t)) K):=hk;rw[Ui]at It;cases hc:Nat.beq k 2 with
    |true =>
     have oU:Nat.beq (k+1) 3=true:=hc;rw[hc]at hf;simp only[oU]at It;have hf:fo (args.toList.map (ev st.t))=some (R,w):=hf;unfold fo at hf;unfold Qt at It;split at hf
     ·rename_i vs dP;cases hf;split at It
      ·rename_i l dR e1 e2 z1 z2;rw[dP]at e2;cases e2;split at It
       ·rename_i r sz es bl n e3 e4;obtain⟨⟨rfl,rfl⟩,v,Fz,n',h1,h2⟩:=It;refine⟨_,[(1001,_),(1000,_)],h2,fun r' o' e=>?_,fun st2 ha K' h'=>?_⟩
        ·rcases Aq.1 e with e | e
         ·cases e
          exact⟨.inr (.inl ⟨by decide,.inr (by decide)⟩),by simp⟩
         ·obtain e:=Am.1 e;cases e;exact⟨.inr (.inl ⟨by decide,.inl (by decide)⟩),by simp⟩
        show F8 cx true _ st2 (ev st2.t f) (args.toList.map (ev st2.t)) K';rw[Jd st2 ha,ha.t f (by simp[Op.operands,Call.operands]),e1];unfold F8;simp only[az,Ui,oU];unfold Qt;simp only[dP,ha.h 1000 (by simp),ha.h 1001 (by simp),e3,e4];exact⟨⟨trivial,trivial⟩,v,Fz,n',h1,h'⟩
       ·exact It.elim
      ·exact It.elim
     ·cases hf
    |false =>
    have oU:Nat.beq (k+1) 3=false:=hc;rw[hc]at hf;have U5:Pe cx (k+1) dst st (ev st.t f) (args.toList.map (ev st.t)) K:=by
     simp only[oU]at It;exact It
    have np:fj k dst (args.toList.map (ev st.t))=some (R,w):=hf;unfold fj at np;unfold Pe at U5;cases he:Nat.beq k 3 with
    |true =>
     have jf:Nat.beq (k+1) 4=true:=he;rw[he]at np;rw[jf]at U5;have np:some (jP,some VP)=some (R,w):=np;have U5:XA cx dst st (ev st.t f) (args.toList.map (ev st.t)) K:=U5;cases np;unfold XA at U5;split at U5
     ·rename_i d f' e2 _ _ _;obtain⟨σ,H0,Hn,args',res,g1,g2,g3,g4⟩:=U5;simp only[Ag]at g2;refine⟨_,σ.map fun p=>(p.1,(Ai Hn Ab p.2).ren (E2 σ d 0) (Ai Hn Ab)),(UI (h:=st.h) (h':=Ai Hn Ab) (d:=d) g2.1.1)▸g4,fun r' o' e=>?_,fun st2 ha K' h'=>?_⟩
      ·obtain⟨p,hp,e⟩:=Ak.1 e;cases e;exact⟨.inr (.inr rfl),kD (Br.1 g2.2 p hp)⟩
      ·show F8 cx true _ st2 (ev st2.t f) (args.toList.map (ev st2.t)) K';rw[Jd st2 ha,ha.t f (by simp[Op.operands,Call.operands])];unfold F8;simp only[az,Ui,oU];unfold Pe;simp only[jf];unfold XA;rw[e2];refine⟨σ,H0,Hn,args',res,fun h2 hh=>g1 h2 fun r hr=>(hh r hr).trans (ha.h r hr),by simp only[Ag];exact g2,g3,?_⟩;rw[UI (h:=st2.h) (h':=Ai Hn Ab) (d:=d) g2.1.1];exact h'
     ·exact U5.elim
    |false =>
    have jf:Nat.beq (k+1) 4=false:=he;rw[he]at np;rw[jf]at U5;have hf:am dst (args.toList.map (ev st.t))=some (R,w):=np;have hk:Rd cx (k+1) dst st.h (ev st.t f) (args.toList.map (ev st.t)) K:=U5;obtain⟨d,r,n,l,rfl,hl,e0⟩:=Y7 hf;cases e0;unfold Rd at hk;rw[hl]at hk;split at hk
    ·rename_i d0 f0 r0 n0 l0 e9 e1 e2;cases e9;cases e2;split at hk
     ·rename_i vs dP;split at hk
      ·rename_i sz es hr;obtain⟨n',Fz,h0,h1,h2⟩:=hk;have ub:=h0;simp only[Ag,Ck]at ub;refine⟨_,[(r,.dead),(Bq d 0,_)],h2,fun r' o' e=>?_,fun st2 ha K' h'=>?_⟩
       ·rcases Aq.1 e with e | e
        ·cases e
         refine⟨.inr (.inl ⟨by unfold Bq;omega,.inl ?_⟩),Aa ..⟩;rw[Nat.add_mul_mod_self_left,Nat.mod_eq_of_lt ub.1.2]
        ·obtain e:=Am.1 e;cases e;refine⟨.inr (.inl ⟨by unfold Bq;omega,.inr ?_⟩),Ae _ (Aa ..)⟩;rw[Nat.add_mul_div_left _ _ (by decide),Nat.div_eq_of_lt ub.1.2,Bi]
       show F8 cx true _ st2 (ev st2.t f) (args.toList.map (ev st2.t)) K';rw[Jd st2 ha,ha.t f (by simp[Op.operands,Call.operands]),hl,e1];unfold F8;simp only[az,Ui,oU];unfold Pe;simp only[jf];unfold Rd;simp only[dP,ha.h r (Aa ..),hr]
       have:DF st2.h d 1=DF st.h d 1:=by simp only[DF,ha.h (Bq d 0) (Ae _ (Aa ..))]
       exact⟨n',Fz,by rw[this];exact h0,h1,h'⟩
      ·exact hk.elim
     ·exact hk.elim
    ·exact hk.elim
 |builtin b =>
  refine Ee.toL ?_;have mm:∀f:Int→Int→Int,(∀(d:Option Nat) (h:Nat→HO) (GG:List Nat) (args:List AV) (K:HK),FQ cx d h b GG args K=(match args with | [x,y]=>kF f x y fun v=>K v h | _=>False))→R=[]∧w=none→Ee cx ⟨dst,.call ⟨.builtin b,args,GG⟩,ty,pos,after,gd⟩ st R w K:=by
   rintro f hb ⟨rfl,rfl⟩
   have hk:FQ cx dst st.h b GG.toList (args.toList.map (ev st.t)) K:=hk;rw[hb]at hk;split at hk
   ·rename_i x y e;refine .pick (kV f x y) hk fun st2 ha K' h=>?_;show FQ cx dst st2.h b GG.toList (args.toList.map (ev st2.t)) K';rw[hb,Jd st2 ha,e];exact h
   ·exact hk.elim
  cases b
  case max=>exact mm max (fun d h GG args K=>by cases args with | nil=>rfl | cons x l=>cases l with | nil=>rfl | cons y l=>cases l<;>rfl) (by
   have hf:GN cx dst (.builtin .max) st.t (args.toList.map (ev st.t))=some (R,w):=hf;simp only[GN]at hf;cases hf;exact⟨rfl,rfl⟩)
  case min=>exact mm min (fun d h GG args K=>by cases args with | nil=>rfl | cons x l=>cases l with | nil=>rfl | cons y l=>cases l<;>rfl) (by
   have hf:GN cx dst (.builtin .min) st.t (args.toList.map (ev st.t))=some (R,w):=hf;simp only[GN]at hf;cases hf;exact⟨rfl,rfl⟩)
  case append =>
   obtain⟨l⟩:=args
   match l,hk,hf with
   | [s,x],hk,hf=>exact V7 hk hf
   | [],hk,hf=>cases GG;exact hk.elim
   | [_],hk,hf=>exact hk.elim
   |_::_::_::_,hk,hf=>exact hk.elim
  case len =>
   obtain⟨l⟩:=args
   match l,hk,hf with
   | [x],hk,hf=>exact cc hk hf
   | [],hk,hf=>exact hk.elim
   |_::_::_,hk,hf=>exact hk.elim
  all_goals exact hk.elim
theorem YI{o:Oper}(hc:∀c,o.op≠.call c)(hs:(∃t x lo hi mx,o.op=.slice t x lo hi mx)→Nx cx.pl.tok o.dst=none)(hk:FK cx true o st K)(hf:Fa cx o st=some (R,w)):Ee cx o st R w K:=by
 obtain⟨dst,op,ty,pos,after,gd⟩:=o;cases op with
 |call c=>exact absurd rfl (hc c)
 |alloc e=>exact Xx hk hf
 |box e x=>exact ca hk hf
 |buildSlice t n ps=>exact PN hk hf
 |makeSlice t n c=>exact Rh hk hf
 |makeMap t r=>exact Ug hk hf
 |store t p x=>exact Xy hk hf
 |mapUpdate t m k x=>exact Ri hk hf
 |makeFunc fn first cap=>exact SE hk hf
 |load t p=>exact Za hk hf
 |assign x=>exact V8 hk hf
 |slice t x lo hi mx=>exact QL (hs ⟨t,x,lo,hi,mx,rfl⟩) hk hf
 |lookup t x i ok=>exact V9 hk hf
 |move x =>
  cases hf
  exact .pick (Dm _) hk fun st2 ha K' h=>by simp only[FK,ha.t x (by simp[Op.operands])];exact h
 |pick c a b =>
  cases hf
  exact .pick (dj _ _ _) hk fun st2 ha K' h=>by simp only[FK,ha.t c (by simp[Op.operands]),ha.t a (by simp[Op.operands]),ha.t b (by simp[Op.operands])];exact h
 |nilCheck x =>
  cases hf
  exact .pick (g8 _) hk fun st2 ha K' h=>by simp only[FK,ha.t x (by simp[Op.operands])];exact h
 |binOp op t x y u =>
  simp only[Fa]at hf;split at hf
  ·cases hf
  ·rename_i hx;cases hf;exact .pick (dh _ _ _ _ _ _ hx) hk fun st2 ha K' h=>by simp only[FK,ha.t x (by simp[Op.operands]),ha.t y (by simp[Op.operands])];exact h
 |unOp op t x =>
  cases hf
  exact .pick (dk _ _) hk fun st2 ha K' h=>by simp only[FK,ha.t x (by simp[Op.operands])];exact h
 |convert s t x =>
  cases hf
  exact .pick (di _ _ _ _) hk fun st2 ha K' h=>by simp only[FK,ha.t x (by simp[Op.operands])];exact h
 |fieldAddr s x f =>
  cases hf
  exact .pick (ZJ _ _ _ _) hk fun st2 ha K' h=>by simp only[FK,ha.t x (by simp[Op.operands])];exact h
 |field s x f =>
  cases hf
  exact .pick (Yl _ _ _ _) hk fun st2 ha K' h=>by simp only[FK,ha.t x (by simp[Op.operands])];exact h
 |indexAddr t x i =>
  cases hf
  exact .pick (TK _ _ _ _) hk fun st2 ha K' h=>by simp only[FK,ha.t x (by simp[Op.operands]),ha.t i (by simp[Op.operands])];exact h
 |index t x i =>
  cases hf
  exact .pick (ZK _ _ _ _) hk fun st2 ha K' h=>by simp only[FK,ha.t x (by simp[Op.operands]),ha.t i (by simp[Op.operands])];exact h
 |extract x i =>
  cases hf
  exact .pick (Wv _ _) hk fun st2 ha K' h=>by simp only[FK,ha.t x (by simp[Op.operands])];exact h
 |build t ps =>
  cases hf
  refine .pick (ZI _ _ _ _) hk fun st2 ha K' h=>?_;have hx:∀p∈ps.toList,ev st2.t p.2=ev st.t p.2:=fun p hp=>ha.t p.2 (by
   simp only[Op.operands,List.mem_toArray];exact Ak.2 ⟨p,hp,rfl⟩)
  simp only[FK];have fill:∀(pl:Nat→Option (Nat×Nat)) (l:List (Nat×Operand)) (cs:List AV) (K:List AV→Prop),(∀p∈l,ev st2.t p.2=ev st.t p.2)→Ku pl cs st2.t l K=Ku pl cs st.t l K:=by
   intro pl l
   induction l with
   |nil=>intro cs K _;rfl
   |cons p l ih =>
    intro cs K hp;obtain⟨i,x⟩:=p;have h1:ev st2.t x=ev st.t x:=hp (i,x) (Aa ..);have h2:∀cs,Ku pl cs st2.t l K=Ku pl cs st.t l K:=fun cs=>ih cs K (fun p nE=>hp p (Ae _ nE));simp only[Ku,h1,h2]
  unfold PE at h⊢;simp only[fill _ _ _ _ hx];exact h
 |_=>cases hf
theorem bC{o:Oper}(hk:FK cx true o st K)(hf:Fa cx o st=some (R,w)):Rs cx o st R w K:=by
 obtain⟨dst,op,ty,pos,after,gd⟩:=o
 by_cases h:∃c,op=.call c
 ·obtain⟨c,rfl⟩:=h;exact Y9 hk hf
 ·by_cases h2:∃t x lo hi mx,op=.slice t x lo hi mx
  ·obtain⟨t,x,lo,hi,mx,rfl⟩:=h2;cases hp:Nx cx.pl.tok dst with
   |none=>exact Ee.toL (QL hp hk hf)
   |some p=>exact cd hp hk hf
  ·exact Ee.toL (YI (fun c e=>h ⟨c,e⟩) (fun e=>absurd e h2) hk hf)
end
theorem UZ{cx:Cx}{o:Oper}{st st2:St}(h:∀x∈o.op.operands,ev st2.t x=ev st.t x):Fa cx o st2=Fa cx o st:=by
 obtain⟨dst,op,ty,pos,after,gd⟩:=o;cases op with
 |call c =>
  obtain⟨mW,args,GG⟩:=c;have ha:args.toList.map (ev st2.t)=args.toList.map (ev st.t):=Bf fun x hx=>h x (by simp only[Op.operands,Call.operands,RI];exact .inr (by simpa using hx));simp only[Fa];rw[ha];cases mW with
  |value f =>
   have hf:ev st2.t f=ev st.t f:=h f (by simp[Op.operands,Call.operands]);simp only[GN,hf]
  |builtin b =>
   generalize args.toList.map (ev st.t)=l
   match l with
   | []=>cases b<;>rfl
   | [x]=>cases b<;>cases x<;>rfl
   | [x,y]=>cases b<;>cases x<;>rfl
   |x::_::_::_=>cases b<;>cases x<;>rfl
  |invoke r m=>rfl
 |box e x=>simp only[Fa,h x (by simp[Op.operands])]
 |buildSlice t n ps =>
  have hx:ps.toList.map (fun p=>ev st2.t p.2)=ps.toList.map (fun p=>ev st.t p.2):=Bf fun p hp=>h p.2 (by
   simp only[Op.operands,List.mem_toArray];exact Ak.2 ⟨p,hp,rfl⟩)
  simp only[Fa,hx]
 |store t p x=>simp only[Fa,h p (by simp[Op.operands]),h x (by simp[Op.operands])]
 |mapUpdate t m k x=>simp only[Fa,h m (by simp[Op.operands]),h x (by simp[Op.operands])]
 |makeFunc fn first cap =>
  have hx:cap.toList.map (ev st2.t)=cap.toList.map (ev st.t):=Bf fun x hx=>h x (by simp only[Op.operands,RI];exact .inr (by simpa using hx));simp only[Fa,hx]
 |load t p=>simp only[Fa,h p (by simp[Op.operands])]
 |assign x=>simp only[Fa,h x (by simp[Op.operands])]
 |binOp op t x y u=>simp only[Fa,h x (by simp[Op.operands])]
 |slice t x lo hi mx=>simp only[Fa,h x (by simp[Op.operands])]
 |lookup t x i ok=>simp only[Fa,h x (by simp[Op.operands])]
 |_=>rfl
def Kj(ops:Array Oper)(o:Oper)(st st2:St):Prop:=∀d∈o.looksAt ops,st2.t d=st.t d
theorem Kj.operands{ops:Array Oper}{o:Oper}{st st2:St}(h:Kj ops o st st2):∀x∈o.op.operands,ev st2.t x=ev st.t x:=fun x hx=>by
 cases x with
 |tmp t=>exact h t (Bp _ (Hg.2 ⟨.tmp t,by simpa using hx,rfl⟩))
 |_=>rfl
theorem Vl(ops:Array Oper)(j:Nat):J7 ops.toList j=(ops[j]?).bind (·.dst):=by
 have:∀(l:List Oper) (j:Nat),J7 l j=(l[j]?).bind (·.dst):=by
  intro l
  induction l with
  |nil=>intro j;simp[J7]
  |cons o l ih =>
   intro j;cases j with
   |zero=>simp[J7]
   |succ j=>simp[J7,ih]
 rw[this];simp
theorem Kj.guard{ops:Array Oper}{o:Oper}{st st2:St}(h:Kj ops o st st2){j:Nat}{b:Bool}(hg:o.guard=some (j,b)){d:Nat}(hd:J7 ops.toList j=some d):st2.t d=st.t d :=
 h d (Bk _ (by rw[hg];simp only;rw[←Vl,hd];simp))
def St.after(st:St)(o:Oper)(v:AV)(e:List (Nat×HO)):St:=st.put o.dst v (HY st.h e)
def Py(cx:Cx)(ops:Array Oper)(o:Oper)(st:St)(f:Fq)(v:AV)(e:List (Nat×HO)):Prop :=
 (∀r o',(r,o')∈e→RK f.2 r∧r∈f.1)∧∀st2,Kj ops o st st2→(∀r∈f.1,st2.h r=st.h r)→∀K:St→Prop,K (st2.after o v e)→G4 cx true ops.toList o st2 K
theorem SD{cx:Cx}{ops:Array Oper}{o:Oper}{st st2:St}(h:Kj ops o st st2):Ni cx ops.toList o st2=Ni cx ops.toList o st:=by
 unfold Ni;split
 ·exact UZ h.operands
 ·rename_i j want hg;split
  ·rfl
  ·rename_i d hd;simp only[h.guard hg hd];split<;>first | exact UZ h.operands | rfl
theorem Oe{cx:Cx}{ops:Array Oper}{o:Oper}{st:St}{f:Fq}{K:St→Prop}(hk:G4 cx true ops.toList o st K)(hf:Ni cx ops.toList o st=some f) :
  ∃v e,Py cx ops o st f v e∧K (st.after o v e):=by
 obtain⟨R,w⟩:=f;have skip:R=[]∧w=none→K (st.put o.dst (.v undef) st.h)→(∀st2,Kj ops o st st2→∀K:St→Prop,K (st2.put o.dst (.v undef) st2.h)→G4 cx true ops.toList o st2 K)→∃v e,Py cx ops o st (R,w) v e∧K (st.after o v e):=by
  rintro⟨rfl,rfl⟩ h1 h2
  exact⟨.v undef,[],⟨fun r o' e=>(by cases e),fun st2 hl _ K h=>h2 st2 hl K h⟩,h1⟩
 have run:Fa cx o st=some (R,w)→FK cx true o st (fun v h=>K (st.put o.dst v h))→(∀st2,Kj ops o st st2→∀K:St→Prop,FK cx true o st2 (fun v h=>K (st2.put o.dst v h))→G4 cx true ops.toList o st2 K)→∃v e,Py cx ops o st (R,w) v e∧K (st.after o v e):=by
  intro hf hk h2;obtain⟨v,e,q1,q2,q3⟩:=bC hk hf;exact⟨v,e,⟨q2,fun st2 hl hh K h=>h2 st2 hl K (q3 st2 ⟨hl.operands,hh⟩ _ h)⟩,q1⟩
 unfold G4 at hk;unfold Ni at hf;cases hg:o.guard with
 |none =>
  rw[hg]at hk hf;exact run hf hk (fun st2 hl K h=>by unfold G4;rw[hg];exact h)
 |some p =>
  obtain⟨j,want⟩:=p;rw[hg]at hk hf;simp only at hk hf;cases hd:J7 ops.toList j with
  |none=>rw[hd]at hk;exact hk.elim
  |some d =>
   rw[hd]at hk hf;simp only at hk hf;have he:∀st2,Kj ops o st st2→st2.t d=st.t d:=fun st2 hl=>hl.guard hg hd;generalize hx:st.t d=x at hk hf he;split at hk
   ·exact run hf hk (fun st2 hl K h=>by unfold G4;simp only[hg,hd,he st2 hl];exact h)
   ·exact run hf hk (fun st2 hl K h=>by unfold G4;simp only[hg,hd,he st2 hl];exact h)
   ·exact skip (by cases hf;exact⟨rfl,rfl⟩) hk (fun st2 hl K h=>by unfold G4;simp only[hg,hd,he st2 hl];exact h)
   ·exact skip (by cases hf;exact⟨rfl,rfl⟩) hk (fun st2 hl K h=>by unfold G4;simp only[hg,hd,he st2 hl];exact h)
   ·exact skip (by cases hf;exact⟨rfl,rfl⟩) hk (fun st2 hl K h=>by unfold G4;simp only[hg,hd,he st2 hl];exact h)
   ·exact hk.elim
def pn(cx:Cx)(ops:Array Oper)(FT:Nat→Fq)(i:Nat)(K:St→Prop)(st:St):Prop :=
 match ops[i]? with
 |none=>K st
 |some o=>Ni cx ops.toList o st=some (FT i)∧G4 cx true ops.toList o st K
def WW(cx:Cx)(ops:Array Oper)(FT:Nat→Fq)(K:St→Prop):Nat→Array Bool→St→Prop
 |0,listed,st=>Region.ready .any ops listed=[]∧K st
 |fuel+1,listed,st =>
  (Region.ready .any ops listed=[]→K st)∧∀i∈Region.ready .any ops listed,pn cx ops FT i (WW cx ops FT K fuel (listed.setIfInBounds i true)) st
theorem dG(t:Nat→AV){d d' : Nat}(h:d'≠d)(v v' : AV):G1 (G1 t d v) d' v'=G1 (G1 t d' v') d v:=by
 funext i
 unfold G1
 by_cases h1:i=d<;>by_cases h2:i=d'
 ·exact absurd (h2.symm.trans h1) h
 ·subst h1;simp[CL h2]
 ·subst h2;simp[CL h1]
 ·simp[CL h1,CL h2]
theorem co(t:Nat→HO){d d' : Nat}(h:d'≠d)(v v' : HO):AW (AW t d v) d' v'=AW (AW t d' v') d v:=by
 funext i
 unfold AW
 by_cases h1:i=d<;>by_cases h2:i=d'
 ·exact absurd (h2.symm.trans h1) h
 ·subst h1;simp[CL h2]
 ·subst h2;simp[CL h1]
 ·simp[CL h1,CL h2]
theorem OR{l:List Nat}{n:Nat}(h:n∈l):IF l n=true:=by
 induction l with
 |nil=>cases h
 |cons a l ih =>
  unfold IF
  by_cases e:a=n
  ·subst e;simp
  ·rw[CL e];exact ih ((Aq.1 h).resolve_left (fun q=>e q.symm))
theorem X3{l:List Nat}{n:Nat}(h:IF l n=true):n∈l:=by
 induction l with
 |nil=>cases h
 |cons a l ih =>
  unfold IF at h
  by_cases e:a=n
  ·exact e▸Aa ..
  ·rw[CL e]at h;exact Ae _ (ih h)
theorem Ye{l:List Nat}{x:Nat}(h:Yc l x=true):∀r,RK (some x) r→r∉l:=by
 intro r hc hr;unfold Yc at h
 by_cases hx:x=VP
 ·subst hx;rw[CW,JH]at h;cases l with
  |nil=>cases hr
  |cons a l=>cases h
 rw[CL hx,En]at h;simp only[Ag,CE,CT,Ck]at h;rcases hc with rfl | ⟨h1,h2⟩ | hc
 ·rw[OR hr]at h;cases h.1
 ·rcases h.2 with h3 | h3
  ·omega
  ·rcases h2 with rfl | rfl
   ·rw[OR hr]at h3;cases h3.1
   ·rw[OR hr]at h3;cases h3.2
 ·exact hx hc
theorem bT{a b:Fq}(h:Sp a b=true):(∀r,RK a.2 r→r∉b.1)∧∀r,RK b.2 r→r∉a.1:=by
 obtain⟨a1,a2⟩:=a;obtain⟨b1,b2⟩:=b;simp only[Sp,Ag]at h;refine⟨fun r e=>?_,fun r e=>?_⟩
 ·cases a2 with
  |none=>exact e.elim
  |some x=>exact Ye h.1 r e
 ·cases b2 with
  |none=>exact e.elim
  |some x=>exact Ye h.2 r e
section
variable {cx:Cx}{ops:Array Oper}{FT:Nat→Fq}
theorem QT{oi oj:Oper}(h:∀d,oi.dst=some d→d∉oj.looksAt ops)(st:St)(v:AV)(e:List (Nat×HO)):Kj ops oj st (st.after oi v e):=by
 intro d hd;cases hdst:oi.dst with
 |none=>simp[St.after,St.put,hdst]
 |some d' =>
  have:d≠d':=fun q=>h d' hdst (q▸hd)
  simp[St.after,St.put,hdst,G1,CL this]
theorem Kj.symm{o:Oper}{st st2:St}(h:Kj ops o st st2):Kj ops o st2 st:=fun d hd=>(h d hd).symm
theorem aw{o:Oper}{st:St}{v:AV}{e:List (Nat×HO)}:(st.after o v e).h=HY st.h e:=by
 unfold St.after St.put;cases o.dst<;>rfl
theorem PJ{r:Nat}:∀{e:List (Nat×HO)} {h:Nat→HO},(∀o',(r,o')∉e)→HY h e r=h r
 | [],_,_=>rfl
 |p::e,h,hr=>by
  have:r≠p.1:=fun q=>hr p.2 (by rw[q];exact Aa ..)
  show HY (AW h p.1 p.2) e r=h r;rw[PJ fun o' ho=>hr o' (Ae _ ho),BY _ _ _ _ this]
theorem Xl{r:Nat}{o:HO}:∀{e:List (Nat×HO)} {h:Nat→HO},(∀r' o',(r',o')∈e→r'≠r)→HY (AW h r o) e=AW (HY h e) r o
 | [],_,_=>rfl
 |p::e,h,hr=>by
  show HY (AW (AW h r o) p.1 p.2) e=AW (HY (AW h p.1 p.2) e) r o;rw[co h (hr p.1 p.2 (Aa ..)),Xl fun r' o' ho=>hr r' o' (Ae _ ho)]
theorem UV:∀{e e' : List (Nat×HO)} {h:Nat→HO},(∀r o r' o',(r,o)∈e→(r',o')∈e'→r'≠r)→HY (HY h e) e'=HY (HY h e') e
 | [],_,_,_=>rfl
 |p::e,e',h,hd=>by
  show HY (HY (AW h p.1 p.2) e) e'=HY (AW (HY h e') p.1 p.2) e;rw[←Xl fun r' o' ho=>hd p.1 p.2 r' o' (Aa ..) ho,UV fun r o r' o' h1 h2=>hd r o r' o' (Ae _ h1) h2]
theorem YH{oi oj:Oper}{st:St}{v v' : AV}{e e' : List (Nat×HO)}(h1:∀d,oi.dst=some d→oj.dst≠some d)(h2:∀r o r' o',(r,o)∈e→(r',o')∈e'→r'≠r) :
  (st.after oi v e).after oj v' e'=(st.after oj v' e').after oi v e:=by
 have hh:HY (HY st.h e) e'=HY (HY st.h e') e:=UV h2;have key:∀o:Oper,∀v e,∀st:St,st.after o v e=⟨match o.dst with | none=>st.t | some d=>G1 st.t d v,HY st.h e⟩:=fun o v e st=>by
  unfold St.after St.put;cases o.dst<;>rfl
 rw[key,key,key,key];simp only[hh];cases hi:oi.dst with
 |none=>rfl
 |some d =>
  cases hj:oj.dst with
  |none=>rfl
  |some d' =>
   have DC:d'≠d:=fun q=>h1 d hi (by rw[hj,q]);simp only[dG st.t DC v v']
theorem YG{K:St→Prop}{i:Nat}{oi:Oper}{v:AV}{e:List (Nat×HO)}(hi:ops[i]?=some oi)(D:Nat→Prop)
  (hD:∀j,D j→∃oj,ops[j]?=some oj∧∃ed∈oj.after,Region.binds .any ed=true∧(ed.on=i∨D ed.on)) :
  ∀(fuel:Nat) (listed:Array Bool) (st:St),
   (∀j oj,ops[j]?=some oj→j≠i→listed.getD j true=false→¬D j→oi.apart ops oj=true∧Sp (FT i) (FT j)=true) →
   i∈Region.ready .any ops listed→(∀j,D j→listed.getD j true=false)→Ni cx ops.toList oi st=some (FT i)→Py cx ops oi st (FT i) v e →
   WW cx ops FT K fuel (listed.setIfInBounds i true) (st.after oi v e)→WW cx ops FT K (fuel+1) listed st:=by
 have here:∀(fuel:Nat) (listed:Array Bool) (st:St),Ni cx ops.toList oi st=some (FT i)→Py cx ops oi st (FT i) v e →
   WW cx ops FT K fuel (listed.setIfInBounds i true) (st.after oi v e)→pn cx ops FT i (WW cx ops FT K fuel (listed.setIfInBounds i true)) st:=by
  intro fuel listed st hf hy H;unfold pn;rw[hi];exact⟨hf,hy.2 st (fun _ _=>rfl) (fun _ _=>rfl) _ H⟩
 intro fuel
 induction fuel with
 |zero =>
  intro listed st _ hr _ hf hy H;refine⟨fun h=>(by rw[h]at hr;cases hr),fun j hj=>?_⟩
  by_cases HZ:j=i
  ·subst HZ;exact here 0 listed st hf hy H
  ·have:=ready_mono hj HZ
   rw[H.1]at this;cases this
 |succ fuel ih =>
  intro listed st Ab hr xn hf hy H;refine⟨fun h=>(by rw[h]at hr;cases hr),fun j hj=>?_⟩
  by_cases HZ:j=i
  ·subst HZ;exact here (fuel+1) listed st hf hy H
  ·have h1:=H.2 j (ready_mono hj HZ);obtain⟨qz,oj,kd,FR⟩:=mem_ready.1 hj;have pZ:∀k,listed.getD k true=false→listed.getD k false=true→False:=fun k h0 h1=>by
    rcases ED k listed.size with h' | h'
    ·simp[h']at h0 h1;rw[h0]at h1;cases h1
    ·simp[Array.getElem?_eq_none h']at h1
   have sE:¬D j:=fun sr=>by
    obtain⟨oj',lU,ed,he,hb,hon⟩:=hD j sr;rw[kd]at lU;cases lU;have hl:=FR ed he hb;rcases hon with h2 | h2
    ·exact pZ _ (by rw[h2];exact(mem_ready.1 hr).1) hl
    ·exact pZ _ (xn _ h2) hl
   obtain⟨qi,sr⟩:=Ab j oj kd HZ qz sE;obtain⟨a1,a2,a3⟩:=Oper.apart_spec qi;obtain⟨d1,d2⟩:=bT sr;unfold pn at h1⊢;rw[kd]at h1⊢;obtain⟨xE,zU⟩:=h1;have xM:=QT (ops:=ops) a1 st v e;obtain⟨vj,ej,x9,hK⟩:=Oe zU xE;have zG:∀r o',(r,o')∈e→r∉(FT j).1:=fun r o' q=>d1 r (hy.1 r o' q).1;have jf:∀r o',(r,o')∈ej→r∉(FT i).1:=fun r o' q=>d2 r (x9.1 r o' q).1;refine⟨by rw[←SD xM];exact xE,x9.2 st xM.symm (fun r nF=>?_) _ ?_⟩
   ·rw[aw,PJ (fun o' q=>zG r o' q nF)]
   ·have xL:=QT (ops:=ops) a3 st vj ej;refine ih (listed.setIfInBounds j true) (st.after oj vj ej) (fun k ok hk xK kj OL=>?_) (ready_mono hr (Ne.symm HZ)) (fun k hk=>?_) (by rw[SD xL];exact hf) ⟨hy.1,fun st2 hl hh K' h'=>?_⟩ ?_
    ·by_cases ka:j=k
     ·subst ka;exact Ab _ ok hk xK qz OL
     ·rw[getD_set_ne true ka]at kj;exact Ab k ok hk xK kj OL
    ·by_cases ka:j=k
     ·subst ka;exact absurd hk sE
     ·rw[getD_set_ne true ka];exact xn k hk
    ·refine hy.2 st2 (fun d hd=>(hl d hd).trans (xL d hd)) (fun r nF=>?_) K' h';rw[hh r nF,aw,PJ (fun o' q=>jf r o' q nF)]
    ·rw[Array.setIfInBounds_comm _ _ (Ne.symm HZ)]at hK;rw[←YH a2 (fun r o r' o' q q' e2=>jf r' o' q' (by rw[e2];exact(hy.1 r o q).2))];exact hK
def mu(cx:Cx)(ops:Array Oper)(K:St→Prop):List Oper→List Fq→St→Prop
 | [],[],st=>K st
 |o::r,f::fs,st=>Ni cx ops.toList o st=some f∧∃v e,Py cx ops o st f v e∧mu cx ops K r fs (st.after o v e)
 |_,_,_=>False
theorem RS{K:St→Prop}:∀(l:List Oper) (acc:List Fq) (st:St),W0 cx ops l acc st K→∃fs,Sq ops (acc.reverse++fs)=true∧mu cx ops K l fs st
 | [],acc,st,h=>⟨[],by simpa using h.1,h.2⟩
 |o::r,acc,st,h=>by
  unfold W0 at h;split at h
  ·rename_i f hf;obtain⟨v,e,h1,h2⟩:=Oe h hf;obtain⟨fs,q1,q2⟩:=RS r _ _ h2;exact⟨f::fs,by simpa using q1,hf,v,e,h1,q2⟩
  ·exact h.elim
theorem Wb{o:Oper}{i:Nat}{D:List Nat}(h:OJ o i D=true):∃ed∈o.after,Region.binds .any ed=true∧(ed.on=i∨ed.on∈D):=by
 unfold OJ at h;obtain⟨ed,h1,h2⟩:=Bb.1 h;simp only[Ag,CE]at h2;exact⟨ed,by simpa using h1,h2.1,h2.2.imp AL X3⟩
theorem TV{i:Nat}{D:List Nat}:∀(l:List Oper) (k:Nat),TU i D k l=true→∀j o,l[j]?=some o→k+j∈D→OJ o i D=true
 | [],_,_,_,_,h,_=>by simp at h
 |o::l,k,hs,j,o',h,hm=>by
  simp only[TU,Ag]at hs;cases j with
  |zero =>
   simp only[A8,Bm]at h;subst h;have h1:=hs.1;rw[OR (by simpa using hm)]at h1;simpa using h1
  |succ j=>exact TV l (k+1) hs.2 j o' (by simpa using h) (by rw[Gl,Nat.add_comm 1 j];exact hm)
theorem UD{oi:Oper}{fi:Fq}{D:List Nat}:∀(l:List Oper) (fs:List Fq) (k:Nat),Im ops oi fi D k l fs=true→l.length=fs.length∧∀j o f,l[j]?=some o→fs[j]?=some f→k+j∉D→oi.apart ops o=true∧Sp fi f=true
 | [],[],_,_=>⟨rfl,fun _ _ _ h=>by simp at h⟩
 | [],_::_,_,h=>by simp[Im]at h
 |_::_,[],_,h=>by simp[Im]at h
 |o::l,f::fs,k,h=>by
  simp only[Im,Ag,CE]at h;obtain⟨h1,h2⟩:=UD l fs (k+1) h.2;refine⟨by simp[h1],fun j o' f' q1 q2 hn=>?_⟩;cases j with
  |zero =>
   simp only[A8,Bm]at q1 q2;subst q1;subst q2;rcases h.1 with h3 | h3
   ·exact absurd (X3 h3) hn
   ·exact h3
  |succ j=>exact h2 j o' f' (by simpa using q1) (by simpa using q2) (by simpa[Nat.add_assoc,Nat.add_comm 1 j]using hn)
theorem WX{K:St→Prop}:∀(l:List Oper) (fs:List Fq) (k:Nat) (listed:Array Bool) (st:St),(∀j,l[j]?=ops[k+j]?)→(∀j f,fs[j]?=some f→FT (k+j)=f)→listed.size=ops.size →
  (∀j,j<ops.size→listed.getD j true=decide (j<k))→LZ ops ops.toList k l fs=true→mu cx ops K l fs st→WW cx ops FT K l.length listed st
 | [],[],k,listed,st,hl,_,hs,hL,_,h=>by
  refine⟨?_,h⟩;apply LD.2;intro j hj;obtain⟨h1,o,ho,_⟩:=mem_ready.1 hj;have DI:=(Bx.1 ho).1;rw[hL j DI]at h1;have oZ:k≤j:=by simpa using h1
  have:=hl (j-k)
  rw[show k+(j-k)=j by omega,ho]at this;simp at this
 | [],_::_,_,_,_,_,_,_,_,h,_=>by simp[LZ]at h
 |_::_,[],_,_,_,_,_,_,_,h,_=>by simp[LZ]at h
 |o::l,f::fs,k,listed,st,hl,hF,hs,hL,hg,h=>by
  simp only[LZ,Ag]at hg;obtain⟨⟨⟨⟨g1,g2⟩,g3⟩,g4⟩,g5⟩:=hg;obtain⟨hf,v,e,hy,hp⟩:=h;have h0:ops[k]?=some o:=by simpa using(hl 0).symm
  have hk:=(Bx.1 h0).1;have ug:FT k=f:=by simpa using hF 0 f rfl
  have PO : ∀j,l[j]?=ops[k+1+j]?:=fun j=>by have:=hl (j+1);simpa[Nat.add_assoc,Nat.add_comm 1 j]using this
  have oQ : ∀j f,fs[j]?=some f→FT (k+1+j)=f:=fun j f' hj=>by have:=hF (j+1) f' (by simpa using hj);simpa[Nat.add_assoc,Nat.add_comm 1 j]using this
  obtain⟨CI,qi⟩:=UD l fs (k+1) g4;have ar:∀j,j∈PI k [] 0 ops.toList→k<j∧j<ops.size:=fun j hj=>by
   have:=(Br.1 g3) j hj
   simp only[Ag,Ck,B4]at this;exact this
  refine YG h0 (fun j=>j∈PI k [] 0 ops.toList) (fun j hj=>?_) l.length listed st (fun j oj kd ka kj sE=>?_) ?_ (fun j hj=>?_) (by rw[ug];exact hf) (by rw[ug];exact hy) ?_
  ·have DI:=(ar j hj).2
   have:=TV ops.toList 0 g2 j ops[j] (by simp[DI]) (by simpa using hj)
   obtain⟨ed,e1,e2,e3⟩:=Wb this;exact⟨ops[j],by simp[DI],ed,e1,e2,e3⟩
  ·have DI:=(Bx.1 kd).1;rw[hL j DI]at kj;have oZ:k<j:=by have q:k≤j:=(by simpa using kj);omega
   have e1:l[j-(k+1)]?=some oj:=by rw[PO,show k+1+(j-(k+1))=j by omega];exact kd
   have hfl:j-(k+1)<fs.length:=by rw[←CI];exact(At.1 e1).1
   have e2:fs[j-(k+1)]?=some fs[j-(k+1)]:=Az hfl;have e3:=oQ _ _ e2;rw[show k+1+(j-(k+1))=j by omega]at e3;rw[ug,e3];exact qi _ _ _ e1 e2 (by rw[show k+1+(j-(k+1))=j by omega];exact sE)
  ·refine mem_ready.2 ⟨by rw[hL k hk];simp,o,h0,fun ed he hb=>?_⟩
   have:=(Br.1 g1) ed (by simpa using he)
   simp only[hb,Bool.not_true,LL,Ck]at this;have h1:=hL ed.on (by omega);have DI:ed.on<listed.size:=by omega
   simp[DI]at h1⊢;rw[h1];simpa using this
  ·have:=ar j hj
   rw[hL j this.2];simp;omega
  ·refine WX l fs (k+1) _ _ PO oQ (by simp[hs]) (fun j hj=>?_) g5 hp
   by_cases ka:j=k
   ·subst ka
    have:j<listed.size:=by omega
    simp[this]
   ·rw[getD_set_ne true (Ne.symm ka),hL j hj]
    by_cases h1:j<k
    ·simp[h1];omega
    ·simp[h1];omega
theorem bz{K:St→Prop}{st:St}(h:W0 cx ops ops.toList [] st K):Region.noSelect ops=true∧∃FT,WW cx ops FT K ops.size (Array.replicate ops.size false) st:=by
 obtain⟨fs,h1,h2⟩:=RS _ _ _ h;simp only[Sq,List.reverse_nil,Ef,Ag]at h1;refine⟨h1.1,fun j=>fs.getD j default,?_⟩
 have:=WX (FT:=fun j=>fs.getD j default) ops.toList fs 0 (Array.replicate ops.size false) st (by simp) (fun j f hj=>by simp[hj]) (by simp) (fun j hj=>by simp[hj]) h1.2 h2
 simpa using this
end
end Go.Eng
