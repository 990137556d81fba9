/- Lemmas for the claims of this seat, without a condition: part 11 (EngX, EngY, EngZ). -/
import Derived.Test.YtkmnnpmneamgoaaGreatDoorA10
namespace Go.Eng

section
variable {cx:Cx}{dst:Option Nat}{ty:Nat}{pos:String}{after:Array Edge}{gd:Option (Nat×Bool)}{st:St}{R:List Nat}{w:Option Nat}{K:HK}

theorem Zf{t:Nat}{p:Operand}(hk:F5 cx true ⟨dst,.load t p,ty,pos,after,gd⟩ st K)(hf:Fq cx ⟨dst,.load t p,ty,pos,after,gd⟩ st=some (R,w)):Ei cx ⟨dst,.load t p,ty,pos,after,gd⟩ st R w K:=by
 simp only[F5]at hk;have hn:∀st2,IM ⟨dst,.load t p,ty,pos,after,gd⟩ R st st2→ev st2.t p=ev st.t p:=fun st2 ha=>ha.t p (by simp[Op.operands]);simp only[Fq]at hf;unfold IH at hk;split at hf
 ·rename_i cs hp;cases hf;rw[hp]at hk;simp only at hk;exact .pick (Jk _ _ _) hk fun st2 ha K' h=>by simp only[F5,IH,hn st2 ha,hp];exact h
 ·rename_i r off hp;cases hf;rw[hp]at hk;simp only at hk;split at hk
  ·rename_i cs hr;exact .pick (Jk _ _ _) hk fun st2 ha K' h=>by simp only[F5,IH,hn st2 ha,hp,ha.h r (Ab ..),hr];exact h
  ·rename_i cs hr;exact .pick (Jk _ _ _) hk fun st2 ha K' h=>by simp only[F5,IH,hn st2 ha,hp,ha.h r (Ab ..),hr];exact h
  ·exact hk.elim
 ·rename_i r n sz i off hp;cases hf;rw[hp]at hk;simp only at hk;split at hk
  ·rename_i GW es hr;split at hk
   ·rename_i hs;exact .pick (DH (MU fun _=>DH (Jk _ _ _))) hk fun st2 ha K' h=>by simp only[F5,IH,hn st2 ha,hp,ha.h r (Ab ..),hr,hs];exact h
   ·exact hk.elim
  ·exact hk.elim
 ·cases hf
theorem V9{x:Operand}(hk:F5 cx true ⟨dst,.assign x,ty,pos,after,gd⟩ st K)(hf:Fq cx ⟨dst,.assign x,ty,pos,after,gd⟩ st=some (R,w)):Ei cx ⟨dst,.assign x,ty,pos,after,gd⟩ st R w K:=by
 simp only[F5]at hk;have hn:∀st2,IM ⟨dst,.assign x,ty,pos,after,gd⟩ R st st2→ev st2.t x=ev st.t x:=fun st2 ha=>ha.t x (by simp[Op.operands]);simp only[Fq]at hf;split at hf
 ·cases hf
 ·rename_i hx;cases hf;have same:∃y,∀(h:Nat→HO) (K:HK),Om cx dst h (ev st.t x) K↔K y h:=by
   unfold Om;cases dst with
   |none=>exact⟨_,fun _ _=>Qy⟩
   |some d =>
    simp only;cases Em cx.pl.tok d with
    |some sz =>
     simp only;cases Nat.beq sz 0 with
     |true=>exact⟨_,fun _ _=>Qy⟩
     |false =>
      refine⟨ev st.t x,fun h K=>?_⟩;simp only;split
      ·rename_i e;exact absurd e (hx _ _ _)
      ·exact Qy
    |none =>
     simp only;cases Em cx.pl.arr d with
     |some sz =>
      refine⟨ev st.t x,fun h K=>?_⟩;simp only;split
      ·rename_i e;exact absurd e (hx _ _ _)
      ·exact Qy
     |none=>exact⟨_,fun _ _=>Qy⟩
  obtain⟨y,same⟩:=same;exact .pick (Dv y) ((same _ _).1 hk) fun st2 ha K' h=>by simp only[F5];rw[hn st2 ha];exact(same _ _).2 h
theorem QK{t:Nat}{x:Operand}{lo hi mx:Option Operand}(hp:NC cx.pl.tok dst=none)(hk:F5 cx true ⟨dst,.slice t x lo hi mx,ty,pos,after,gd⟩ st K)(hf:Fq cx ⟨dst,.slice t x lo hi mx,ty,pos,after,gd⟩ st=some (R,w)) :
  Ei cx ⟨dst,.slice t x lo hi mx,ty,pos,after,gd⟩ st R w K:=by
 simp only[F5,hp]at hk;have hn:∀st2,IM ⟨dst,.slice t x lo hi mx,ty,pos,after,gd⟩ R st st2→ev st2.t x=ev st.t x∧Ca st2.t lo=Ca st.t lo∧Ca st2.t hi=Ca st.t hi∧Ca st2.t mx=Ca st.t mx:=by
  intro st2 ha;have xe:∀y:Option Operand,(∀z,y=some z→ev st2.t z=ev st.t z)→Ca st2.t y=Ca st.t y:=by
   intro y hy;cases y with
   |none=>rfl
   |some z=>simp only[Ca];rw[hy z rfl]
  exact⟨ha.t x (by simp[Op.operands]),xe lo (fun z e=>ha.t z (by simp[Op.operands,e])),xe hi (fun z e=>ha.t z (by simp[Op.operands,e])),xe mx (fun z e=>ha.t z (by simp[Op.operands,e]))⟩
 simp only[Fq,hp]at hf;split at hf
 ·cases hf
 ·rename_i hx;cases hf;have e3:Ca st.t none=some none:=rfl
  have Ia:Gm (fun K1=>GD cx dst st.h t (ev st.t x) (Ca st.t lo) (Ca st.t hi) (some none) fun v _=>K1 v) ∧
    ∀(h:Nat→HO) (K:HK),GD cx dst h t (ev st.t x) (Ca st.t lo) (Ca st.t hi) (some none) K↔GD cx dst st.h t (ev st.t x) (Ca st.t lo) (Ca st.t hi) (some none) (fun v _=>K v h):=by
   generalize ev st.t x=X at hx;unfold GD;constructor
   ·repeat' split
    all_goals first | exact CD | exact DH (Dv _) | exact DH (DH (Dv _)) | skip
    all_goals first | (rename_i e;cases e;done) | skip
    all_goals (exfalso;exact hx _ _ rfl)
   ·intro h K
    repeat' split
    all_goals first | exact Qy | skip
    all_goals exfalso
    all_goals first | exact hx _ _ rfl | (rename some none=some (some _)=>e4;cases e4)
  rw[e3]at hk;exact .pick Ia.1 ((Ia.2 _ _).1 hk) fun st2 ha K' h=>by
   obtain⟨n1,n2,n3,n4⟩:=hn st2 ha;simp only[F5,hp];rw[n1,n2,n3,n4,e3];exact(Ia.2 _ _).2 h
 ·rename_i y tk es hx;obtain⟨d,rfl,e0⟩:=Is hf;cases e0;rw[hx]at hk;unfold GD at hk;split at hk
  ·rename_i HG LX mD e1 e2 e3;split at hk
   ·split at hk<;>first | exact hk.elim | (rename_i e;cases e)
   ·rename_i e he;split at hk
    ·exact hk.elim
    ·rename_i k Ed;simp only at hk;split at hk
     ·exfalso
      rename_i e4;simp only[Ca]at e3;split at e3<;>cases e3
     ·rename_i m;split at hk
      ·rename some d=some _=>e5
       cases e5
       split at hk
       ·rename_i nK;refine⟨_,none,hk.2.2,fun r o' e=>(by cases e),fun st2 Hr K' h'=>?_⟩;obtain⟨n1,n2,n3,n4⟩:=hn st2 Hr;simp only[F5,hp];rw[n1,n2,n3,n4,hx,e1,e2,e3];unfold GD;simp only[he];split
        ·rename_i e0;rw[Ed]at e0;cases e0
        ·simp only[nK];exact⟨hk.1,hk.2.1,h'⟩
       rename_i nK;split at hk
       ·rename_i hd;refine⟨_,some (d,_),hk.2.2,fun r o' e=>(by cases e;exact⟨rfl,Ab ..⟩),fun st2 Hr K' h'=>?_⟩;obtain⟨n1,n2,n3,n4⟩:=hn st2 Hr;simp only[F5,hp];rw[n1,n2,n3,n4,hx,e1,e2,e3];unfold GD;simp only[he];split
        ·rename_i e0;rw[Ed]at e0;cases e0
        ·simp only[nK];rw[Hr.h d (Ab ..),hd];exact⟨hk.1,hk.2.1,h'⟩
       ·exact hk.elim
      ·exact hk.elim
   ·exact hk.elim
  ·exact hk.elim
 ·cases hf
theorem cd{t:Nat}{x:Operand}{lo hi mx:Option Operand}{p:Nat}(hp:NC cx.pl.tok dst=some p)(hk:F5 cx true ⟨dst,.slice t x lo hi mx,ty,pos,after,gd⟩ st K)(hf:Fq cx ⟨dst,.slice t x lo hi mx,ty,pos,after,gd⟩ st=some (R,w)) :
  Ru cx ⟨dst,.slice t x lo hi mx,ty,pos,after,gd⟩ st R w K:=by
 simp only[F5,hp]at hk;simp only[Fq,hp]at hf;obtain⟨d',r,n,hd,hx,e0⟩:=Zd hf;cases e0;cases dst with
 |none=>cases hd
 |some d =>
 cases hd
 unfold TJ at hk;split at hk
 ·rw[hx]at hk;unfold iJ at hk;split at hk
  ·rename_i d0 LX e1 e2;cases e1;split at hk
   ·rename_i e he;split at hk
    ·exact hk.elim
    ·rename_i k Ed;simp only at hk;split at hk
     ·rename_i sz es hr;split at hk
      ·rename_i hd;split at hk
       ·rename_i q1 q3;obtain⟨h1,hk⟩:=hk;have hr8:r<10000000∧0<KB cx d:=by simpa using q3
        obtain⟨zl,hz⟩:=hr8;refine⟨_,[(r,.dead),(KB cx d,_)],hk,fun r' o' e=>?_,fun st2 ha K' h'=>?_⟩
        ·rcases AF.1 e with e | e
         ·cases e
          refine⟨.inr (.inl ⟨by omega,.inl ?_⟩),Ab ..⟩;rw[Nat.add_mul_mod_self_left,Nat.mod_eq_of_lt zl]
         ·obtain e:=Au.1 e;cases e;refine⟨.inr (.inl ⟨by omega,.inr ?_⟩),Ai _ (Ab ..)⟩;rw[Nat.add_mul_div_left _ _ (by decide),Nat.div_eq_of_lt zl,Bc]
        ·have o1:Ca st2.t hi=Ca st.t hi:=by
          cases hi with
          |none=>rfl
          |some z=>simp only[Ca];rw[ha.t z (by simp[Op.operands])]
         simp only[F5,hp];unfold TJ;rw[ha.t x (by simp[Op.operands]),o1,hx,e2];unfold iJ;simp only[he];split
         ·rename_i e0;rw[Ed]at e0;cases e0
         ·simp only[ha.h r (Ab ..),hr,ha.h (KB cx d) (Ai _ (Ab ..)),hd,q1,q3];exact⟨h1,h'⟩
       ·exact hk.elim
      ·exact hk.elim
     ·exact hk.elim
   ·exact hk.elim
  ·exact hk.elim
 ·exact hk.elim
theorem V8{s x:Operand}{G4:Array TypeId}(hk:F5 cx true ⟨dst,.call ⟨.builtin .append,#[s,x],G4⟩,ty,pos,after,gd⟩ st K)(hf:Fq cx ⟨dst,.call ⟨.builtin .append,#[s,x],G4⟩,ty,pos,after,gd⟩ st=some (R,w)) :
  Ei cx ⟨dst,.call ⟨.builtin .append,#[s,x],G4⟩,ty,pos,after,gd⟩ st R w K:=by
 have hk:F7 cx dst st.h .append G4.toList [ev st.t s,ev st.t x] K:=hk;have hf:V7 cx dst (ev st.t s) (ev st.t x)=some (R,w):=hf;have hn:∀st2,IM ⟨dst,.call ⟨.builtin .append,#[s,x],G4⟩,ty,pos,after,gd⟩ R st st2→ev st2.t s=ev st.t s∧ev st2.t x=ev st.t x:=fun st2 ha =>
  ⟨ha.t s (by simp[Op.operands,Call.operands]),ha.t x (by simp[Op.operands,Call.operands])⟩
 have GV:∀st2,IM ⟨dst,.call ⟨.builtin .append,#[s,x],G4⟩,ty,pos,after,gd⟩ R st st2→∀K' : HK,F7 cx dst st2.h .append G4.toList [ev st.t s,ev st.t x] K'→F5 cx true ⟨dst,.call ⟨.builtin .append,#[s,x],G4⟩,ty,pos,after,gd⟩ st2 K':=by
  intro st2 ha K' h;rw[←(hn st2 ha).1,←(hn st2 ha).2]at h;exact h
 generalize G4.toList=l at hk GV
 match l,hk,GV with
 | [t,t'],hk,GV =>
  simp only[F7]at hk GV;split at hk
  ·rename_i ht;simp only[ht]at GV;unfold If at hk GV;split at hk
   ·rename_i e he;simp only[he]at GV;split at hk
    ·exact hk.elim
    ·rename_i hz;simp only[hz]at GV;split at hk
     ·exact hk.elim
     ·rename_i k Ed;obtain⟨es2,q1,q2⟩:=Y6 hk;have pK:∀d,R=d::cP (ev st.t x)→∀st2,IM ⟨dst,.call ⟨.builtin .append,#[s,x],G4⟩,ty,pos,after,gd⟩ R st st2→∀r n,ev st.t x=.msl r n→st2.h r=st.h r:=fun d hR st2 ha r n e=>ha.h r (by rw[hR,e];simp[cP]);unfold V7 at hf;split at hf
      ·rename_i hs;obtain⟨d,cl,e0⟩:=Is hf;cases e0;rw[hs]at q1 GV;simp only at q1 GV;obtain⟨d',hd,v,y,q3,q4⟩:=Ih q1.2;rw[cl]at hd;cases hd;refine⟨v,some (d,y),q3,fun r o' e=>(by cases e;exact⟨rfl,Ab ..⟩),fun st2 Hr K' h'=>GV st2 Hr K' ?_⟩;split
       ·rename_i e0;rw[Ed]at e0;cases e0
       ·exact q2 st2.h (pK d rfl st2 Hr) _ ⟨q1.1,q4 st2.h (Hr.h d (Ab ..)) K' h'⟩
      ·rename_i GW es hs;obtain⟨d,cl,e0⟩:=Is hf;cases e0;rw[hs]at q1 GV;simp only at q1 GV;split at q1
       ·rename_i h1;obtain⟨d',hd,v,y,q3,q4⟩:=Ih q1.2;rw[cl]at hd;cases hd;refine⟨v,some (d,y),q3,fun r o' e=>(by cases e;exact⟨rfl,Ab ..⟩),fun st2 Hr K' h'=>GV st2 Hr K' ?_⟩;split
        ·rename_i e0;rw[Ed]at e0;cases e0
        ·refine q2 st2.h (pK d rfl st2 Hr) _ ?_;simp only[h1];exact⟨q1.1,q4 st2.h (Hr.h d (Ab ..)) K' h'⟩
       ·exact q1.elim
      ·rename_i r GW es hs;cases hf;rw[hs]at q1 GV;simp only at q1 GV;split at q1
       ·rename_i sz n hr;split at q1
        ·rename_i h1 h2;refine⟨_,some (r,_),q1.2,fun r o' e=>(by cases e;exact⟨rfl,Ab ..⟩),fun st2 Hr K' h'=>GV st2 Hr K' ?_⟩;split
         ·rename_i e0;rw[Ed]at e0;cases e0
         ·refine q2 st2.h (pK r rfl st2 Hr) _ ?_;simp only[Hr.h r (Ab ..),hr,h1,h2];exact⟨q1.1,h'⟩
        ·exact q1.elim
       ·exact q1.elim
      ·rename_i r n hs;cases hf;rw[hs]at q1 GV;simp only at q1 GV;split at q1
       ·rename_i sz es hr;split at q1
        ·rename_i h1;refine⟨_,some (r,_),q1.2,fun r o' e=>(by cases e;exact⟨rfl,Ab ..⟩),fun st2 Hr K' h'=>GV st2 Hr K' ?_⟩;split
         ·rename_i e0;rw[Ed]at e0;cases e0
         ·refine q2 st2.h (pK r rfl st2 Hr) _ ?_;simp only[Hr.h r (Ab ..),hr,h1];exact⟨q1.1,h'⟩
        ·exact q1.elim
       ·exact q1.elim
      ·cases hf
   ·exact hk.elim
  ·exact hk.elim
 | [],hk,_=>exact hk.elim
 | [_],hk,_=>exact hk.elim
 |_::_::_::_,hk,_=>exact hk.elim
theorem Vm(T:GQ)(t:Nat):Gm (Kl T t):=by
 unfold Kl
 repeat' split
 all_goals first | exact CD | exact Dv _
theorem TG(T:GQ)(ty:Nat)(ok:Bool)(Cb:List (Value×AV))(kx:Value):Gm (Me T ty ok Cb kx):=by
 unfold Me
 repeat' split
 ·refine bc (MU fun a=>DH (Dv _)) (DH ?_);intro K hk;obtain⟨v,h1,h2⟩:=Vm T _ _ hk;exact⟨_,h1,fun K' h=>h2 _ h⟩
 ·exact bc (MU fun a=>DH (Dv _)) (DH (Vm T _))
 ·exact CD
theorem Yu(T:GQ)(ty:Nat)(sh:EL)(k:AV){F:Value→(AV→Prop)→Prop}(h:∀x,Gm (F x)):Gm fun K=>Ke T ty sh k fun kx=>F kx K:=by
 unfold Ke
 repeat' split
 all_goals first | exact CD | exact h _
theorem Wa{t:Nat}{m k:Operand}{ok:Bool}(hk:F5 cx true ⟨dst,.lookup t m k ok,ty,pos,after,gd⟩ st K)(hf:Fq cx ⟨dst,.lookup t m k ok,ty,pos,after,gd⟩ st=some (R,w)) :
  Ei cx ⟨dst,.lookup t m k ok,ty,pos,after,gd⟩ st R w K:=by
 simp only[F5]at hk;have hn:∀st2,IM ⟨dst,.lookup t m k ok,ty,pos,after,gd⟩ R st st2→ev st2.t m=ev st.t m∧ev st2.t k=ev st.t k:=fun st2 ha=>⟨ha.t m (by simp[Op.operands]),ha.t k (by simp[Op.operands])⟩;simp only[Fq]at hf;unfold MP at hk;split at hf
 ·rename_i sh Cb hm;cases hf;rw[hm]at hk;simp only at hk;exact .pick (Yu _ _ _ _ fun _=>TG _ _ _ _ _) hk fun st2 ha K' h=>by simp only[F5,MP,hn st2 ha,hm];exact h
 ·rename_i r hm;cases hf;rw[hm]at hk;simp only at hk;split at hk
  all_goals first | exact hk.elim | (rename_i e;exact .pick (Yu _ _ _ _ fun _=>TG _ _ _ _ _) hk fun st2 ha K' h=>by simp only[F5,MP,hn st2 ha,hm,ha.h r (Ab ..),e];exact h)
 ·cases hf
theorem iH(T:GQ)(t:Nat)(h:Nat→HO)(x:AV):Gm (QR T t h x):=by
 unfold QR
 repeat' split
 all_goals first | exact CD | exact Dv _
theorem oC{T:GQ}{t:Nat}{h h2:Nat→HO}{x:AV}(e:∀r,x=.mref r→h2 r=h r){K:AV→Prop}:QR T t h2 x K=QR T t h x K:=by
 cases x<;>first | rfl | skip
 rename_i r;unfold QR;simp only[e r rfl]
theorem cc{x:Operand}{G4:Array TypeId}(hk:F5 cx true ⟨dst,.call ⟨.builtin .len,#[x],G4⟩,ty,pos,after,gd⟩ st K)(hf:Fq cx ⟨dst,.call ⟨.builtin .len,#[x],G4⟩,ty,pos,after,gd⟩ st=some (R,w)) :
  Ei cx ⟨dst,.call ⟨.builtin .len,#[x],G4⟩,ty,pos,after,gd⟩ st R w K:=by
 have hk:F7 cx dst st.h .len G4.toList [ev st.t x] K:=hk;have hf:G0 cx dst (.builtin .len) st.t [ev st.t x]=some (R,w):=hf;have hn:∀st2,IM ⟨dst,.call ⟨.builtin .len,#[x],G4⟩,ty,pos,after,gd⟩ R st st2→ev st2.t x=ev st.t x:=fun st2 ha=>ha.t x (by simp[Op.operands,Call.operands]);have GV:∀st2,IM ⟨dst,.call ⟨.builtin .len,#[x],G4⟩,ty,pos,after,gd⟩ R st st2→∀K' : HK,F7 cx dst st2.h .len G4.toList [ev st.t x] K'→F5 cx true ⟨dst,.call ⟨.builtin .len,#[x],G4⟩,ty,pos,after,gd⟩ st2 K':=by
  intro st2 ha K' h;rw[←hn st2 ha]at h;exact h
 generalize G4.toList=l at hk GV
 match l,hk,GV with
 | [t],hk,GV =>
  have hR:∀r,ev st.t x=.mref r→r∈R:=fun r e=>by
   rw[e]at hf;cases hf;exact Ab ..
  have hw:w=none:=by
   unfold G0 at hf;split at hf<;>first | (cases hf;rfl) | (rename_i e;cases e) | (rename_i e _;cases e) | skip
   all_goals (cases hf)
  subst hw;exact .pick (iH _ _ _ _) hk fun st2 ha K' h=>GV st2 ha K' (by
   simp only[F7];rw[oC fun r e=>ha.h r (hR r e)];exact h)
 | [],hk,_=>exact hk.elim
 |_::_::_,hk,_=>exact hk.elim
end
end Go.Eng

namespace Go.Eng

theorem lf{l:List Nat}{n:Nat}(h:II l n=true):n∈l:=by
 induction l with
 |nil=>cases h
 |cons a l ih =>
  unfold II at h
  by_cases e:a=n
  ·exact e▸Ab ..
  ·rw[Ci e]at h;exact Ai _ (ih h)
theorem Xd(G:Nat→HO):∀(σ:Hq) (h:Nat→HO),D4 σ=true→(fun i=>match Cn σ i with | some j=>G j | none=>h i)=H9 h (σ.map fun p=>(p.1,G p.2))
 | [],h,_=>rfl
 |(i,j)::r,h,hσ=>by
  unfold D4 at hσ;simp only[Ag]at hσ;have ih:=Xd G r (AW h i (G j)) hσ.2;show _=H9 (AW h i (G j)) (r.map fun p=>(p.1,G p.2));rw[←ih]
  funext i'
  have hn:Cn r i=none:=by
   have:=hσ.1.1.1
   cases e:Cn r i with
   |none=>rfl
   |some k=>rw[e]at this;simp at this
  by_cases e:i'=i
  ·subst e;have e1:Cn ((i',j)::r) i'=some j:=by unfold Cn;rw[Dc];rfl
   rw[e1,hn];show G j=AW h i' (G j) i';unfold AW;rw[Dc];rfl
  ·have e1:Cn ((i,j)::r) i'=Cn r i':=by
    show(bif Nat.beq i i' then some j else Cn r i')=_;rw[Ci (Ne.symm e)];rfl
   rw[e1];cases Cn r i' with
   |some k=>rfl
   |none=>show h i'=AW h i (G j) i';unfold AW;rw[Ci e];rfl
theorem UJ{σ:Hq}{d:Nat}(hσ:D4 σ=true){h h' : Nat→HO}:Ea σ d 0 h h'=H9 h (σ.map fun p=>(p.1,(h' p.2).ren (Fg σ d 0) h')):=by
 rw[←Xd (fun j=>(h' j).ren (Fg σ d 0) h') σ h hσ]
 funext i
 unfold Ea;cases Cn σ i with
 |some j=>rfl
 |none =>
  have:(Nat.ble (BA d 0) i&&Nat.blt i (BA d 0))=false:=by
   rw[AH];simp only[Vf,Ag,Dn,Ck];omega
  simp only[this]
section
variable {cx:Cx}{op:Op}{dst:Option Nat}{ty:Nat}{pos:String}{after:Array Edge}{gd:Option (Nat×Bool)}{st:St}{R:List Nat}{w:Option Nat}{K:HK}

theorem Ei.toL(h:Ei cx ⟨dst,op,ty,pos,after,gd⟩ st R w K):Ru cx ⟨dst,op,ty,pos,after,gd⟩ st R w K:=by
 obtain⟨v,e,h1,h2,h3⟩:=h;cases e with
 |none=>exact⟨v,[],h1,fun r o' e=>(by cases e),h3⟩
 |some p=>exact⟨v,[p],h1,fun r o' e=>by
   obtain rfl:=Au.1 e;obtain⟨a,b⟩:=h2 r o' rfl;exact⟨by rw[a];exact .inl rfl,b⟩,h3⟩
theorem Ze{c:Call}(hk:F5 cx true ⟨dst,.call c,ty,pos,after,gd⟩ st K)(hf:Fq cx ⟨dst,.call c,ty,pos,after,gd⟩ st=some (R,w)):Ru cx ⟨dst,.call c,ty,pos,after,gd⟩ st R w K:=by
 obtain⟨pk,args,G4⟩:=c;have Jq:∀st2,IM ⟨dst,.call ⟨pk,args,G4⟩,ty,pos,after,gd⟩ R st st2→args.toList.map (ev st2.t)=args.toList.map (ev st.t):=fun st2 ha =>
  Ba fun x hx=>ha.t x (by simp only[Op.operands,Call.operands,RQ];exact .inr (by simpa using hx))
 cases pk with
 |invoke r m=>exact hk.elim
 |value f =>
  have hk:Gu cx true dst st (ev st.t f) (args.toList.map (ev st.t)) K:=hk;have hf:G0 cx dst (.value f) st.t (args.toList.map (ev st.t))=some (R,w):=hf;unfold G0 at hf;unfold Gu at hk;simp only at hf hk;have hn:=Jq;split at hf
  ·rename_i aM;rw[aM]at hk;cases hf;obtain⟨res,h1,h2⟩:=hk;refine Ei.toL ⟨res,none,h2,fun r o' e=>(by cases e),fun st2 ha K' h'=>?_⟩;show Gu cx true dst st2 (ev st2.t f) (args.toList.map (ev st2.t)) K';rw[Jq st2 ha,ha.t f (by simp[Op.operands,Call.operands])];unfold Gu;simp only[aM];refine⟨res,?_,h'⟩;rw[KX (h:=st.h) (fun r hr=>ha.h r (Bz _ hr)),Qo (h:=st.h) (fun r hr=>ha.h r (Bp _ hr))];exact h1
  ·rename_i aM;rw[aM]at hk;simp only at hk;cases dst with
   |none=>exact hk.elim
   |some d =>
    obtain⟨n,sz,es,h1,h2,h3⟩:=hk;have hf:some (BA d 0::(WR (ev st.t f)++SX (args.toList.map (ev st.t))),some (BA d 0))=some (R,w):=hf;cases hf;refine Ei.toL ⟨_,some (BA d 0,_),h3,fun r o' e=>(by cases e;exact⟨rfl,Ab ..⟩),fun st2 ha K' h'=>?_⟩;show Gu cx true (some d) st2 (ev st2.t f) (args.toList.map (ev st2.t)) K';rw[Jq st2 ha,ha.t f (by simp[Op.operands,Call.operands])];unfold Gu;simp only[aM];refine⟨n,sz,es,?_,?_,h'⟩
    ·have:DA st2.h d 1=DA st.h d 1:=by simp only[DA,ha.h (BA d 0) (Ab ..)]
     rw[this];exact h1
    ·rw[KX (h:=st.h) (fun r hr=>ha.h r (Ai _ (Bz _ hr))),Qo (h:=st.h) (fun r hr=>ha.h r (Ai _ (Bp _ hr)))];exact h2
  ·rename_i aM;rw[aM]at hk;have hk:Rf cx 0 dst st.h (ev st.t f) (args.toList.map (ev st.t)) K:=hk;split at hf
   ·rename_i r n l hl;cases hf;have Ia:=hk;unfold Rf at Ia;rw[hl]at Ia;split at Ia
    ·rename_i d0 f0 r0 n0 l0 e1 e2 z1 z2;cases e2;split at Ia
     ·rename_i vs jD;split at Ia
      ·rename_i sz es hr;obtain⟨n',EM,h1,h2⟩:=Ia;refine Ei.toL ⟨_,some (r,_),h2,fun r o' e=>(by cases e;exact⟨rfl,Ab ..⟩),fun st2 ha K' h'=>?_⟩;show Gu cx true _ st2 (ev st2.t f) (args.toList.map (ev st2.t)) K';rw[Jq st2 ha,ha.t f (by simp[Op.operands,Call.operands]),hl,e1];unfold Gu;simp only[aM];unfold O9;simp only;unfold Rf;simp only[jD,ha.h r (Ab ..),hr];exact⟨n',EM,h1,h'⟩
      ·exact Ia.elim
     ·exact Ia.elim
    ·exact Ia.elim
   ·cases hf
  ·rename_i k aM;rw[aM]at hk;cases hb:Nat.beq k 1 with
   |true =>
    have Uj:Nat.beq (k+1) 2=true:=hb;have hk:T1 cx dst st (ev st.t f) (args.toList.map (ev st.t)) K:=by
     have Ia:(match Nat.beq (k+1) 2 with | true=>T1 cx dst st (ev st.t f) (args.toList.map (ev st.t)) K | false=>match Nat.beq (k+1) 3 with | true=>Qw cx dst st (ev st.t f) (args.toList.map (ev st.t)) K | false=>O9 cx (k+1) dst st (ev st.t f) (args.toList.map (ev st.t)) K):=hk;rw[Uj]at Ia;exact Ia
    rw[hb]at hf;cases dst with
    |none=>exact hk.elim
    |some d =>
     obtain⟨sz,es,h1,h2,h3⟩:=hk;have hf:some (BA d 0::(WR (ev st.t f)++SX (args.toList.map (ev st.t))),some (BA d 0))=some (R,w):=hf;cases hf;refine Ei.toL ⟨_,some (BA d 0,_),h3,fun r o' e=>(by cases e;exact⟨rfl,Ab ..⟩),fun st2 ha K' h'=>?_⟩;show Gu cx true (some d) st2 (ev st2.t f) (args.toList.map (ev st2.t)) K';rw[Jq st2 ha,ha.t f (by simp[Op.operands,Call.operands])];unfold Gu;simp only[aM,Uj];refine⟨sz,es,?_,?_,h'⟩
     ·have:DA st2.h d 1=DA st.h d 1:=by simp only[DA,ha.h (BA d 0) (Ab ..)]
      rw[this];exact h1
     ·rw[KX (h:=st.h) (fun r hr=>ha.h r (Ai _ (Bz _ hr))),Qo (h:=st.h) (fun r hr=>ha.h r (Ai _ (Bp _ hr)))];exact h2
   |false =>
    have Uj:Nat.beq (k+1) 2=false:=hb;rw[hb]at hf;have Ia:(match Nat.beq (k+1) 2 with | true=>T1 cx dst st (ev st.t f) (args.toList.map (ev st.t)) K | false=>match Nat.beq (k+1) 3 with | true=>Qw cx dst st (ev st.t f) (args.toList.map (ev st.t)) K | false=>O9 cx (k+1) dst st (ev st.t f) (args.toList.map (ev st.t)) K):=hk;rw[Uj]at Ia;cases hc:Nat.beq k 2 with
    |true =>
     have N6:Nat.beq (k+1) 3=true:=hc;rw[hc]at hf;simp only[N6]at Ia;have hf:fK (args.toList.map (ev st.t))=some (R,w):=hf;unfold fK at hf;unfold Qw at Ia;split at hf
     ·rename_i vs jD;cases hf;split at Ia
      ·rename_i l js e1 e2 z1 z2;rw[jD]at e2;cases e2;split at Ia
       ·rename_i r sz es lR n e3 e4;obtain⟨⟨rfl,rfl⟩,v,EM,n',h1,h2⟩:=Ia;refine⟨_,[(1001,_),(1000,_)],h2,fun r' o' e=>?_,fun st2 ha K' h'=>?_⟩
        ·rcases AF.1 e with e | e
         ·cases e
          exact⟨.inr (.inl ⟨by decide,.inr (by decide)⟩),by simp⟩
         ·obtain e:=Au.1 e;cases e;exact⟨.inr (.inl ⟨by decide,.inl (by decide)⟩),by simp⟩
        show Gu cx true _ st2 (ev st2.t f) (args.toList.map (ev st2.t)) K';rw[Jq st2 ha,ha.t f (by simp[Op.operands,Call.operands]),e1];unfold Gu;simp only[aM,Uj,N6];unfold Qw;simp only[jD,ha.h 1000 (by simp),ha.h 1001 (by simp),e3,e4];exact⟨⟨trivial,trivial⟩,v,EM,n',h1,h'⟩
       ·exact Ia.elim
      ·exact Ia.elim
     ·cases hf
    |false =>
    have N6:Nat.beq (k+1) 3=false:=hc;rw[hc]at hf;have Zm:O9 cx (k+1) dst st (ev st.t f) (args.toList.map (ev st.t)) K:=by
     simp only[N6]at Ia;exact Ia
    have nP:fI k dst (args.toList.map (ev st.t))=some (R,w):=hf;unfold fI at nP;unfold O9 at Zm;cases he:Nat.beq k 3 with
    |true =>
     have d4:Nat.beq (k+1) 4=true:=he;rw[he]at nP;rw[d4]at Zm;have nP:some (kj,some VU)=some (R,w):=nP;have Zm:Xr cx dst st (ev st.t f) (args.toList.map (ev st.t)) K:=Zm;cases nP;unfold Xr at Zm;split at Zm
     ·rename_i d f' e2 _ _ _;obtain⟨σ,H0,Hn,args',res,g1,g2,g3,g4⟩:=Zm;simp only[Ag]at g2;refine⟨_,σ.map fun p=>(p.1,(Af Hn Aa p.2).ren (Fg σ d 0) (Af Hn Aa)),(UJ (h:=st.h) (h':=Af Hn Aa) (d:=d) g2.1.1)▸g4,fun r' o' e=>?_,fun st2 ha K' h'=>?_⟩
      ·obtain⟨p,hp,e⟩:=Aq.1 e;cases e;exact⟨.inr (.inr rfl),lf (AX.1 g2.2 p hp)⟩
      ·show Gu cx true _ st2 (ev st2.t f) (args.toList.map (ev st2.t)) K';rw[Jq st2 ha,ha.t f (by simp[Op.operands,Call.operands])];unfold Gu;simp only[aM,Uj,N6];unfold O9;simp only[d4];unfold Xr;rw[e2];refine⟨σ,H0,Hn,args',res,fun h2 hh=>g1 h2 fun r hr=>(hh r hr).trans (ha.h r hr),by simp only[Ag];exact g2,g3,?_⟩;rw[UJ (h:=st2.h) (h':=Af Hn Aa) (d:=d) g2.1.1];exact h'
     ·exact Zm.elim
    |false =>
    have d4:Nat.beq (k+1) 4=false:=he;rw[he]at nP;rw[d4]at Zm;have hf:aD dst (args.toList.map (ev st.t))=some (R,w):=nP;have hk:Rf cx (k+1) dst st.h (ev st.t f) (args.toList.map (ev st.t)) K:=Zm;obtain⟨d,r,n,l,rfl,hl,e0⟩:=Zc hf;cases e0;unfold Rf at hk;rw[hl]at hk;split at hk
    ·rename_i d0 f0 r0 n0 l0 e9 e1 e2;cases e9;cases e2;split at hk
     ·rename_i vs jD;split at hk
      ·rename_i sz es hr;obtain⟨n',EM,h0,h1,h2⟩:=hk;have vu:=h0;simp only[Ag,Ck]at vu;refine⟨_,[(r,.dead),(BA d 0,_)],h2,fun r' o' e=>?_,fun st2 ha K' h'=>?_⟩
       ·rcases AF.1 e with e | e
        ·cases e
         refine⟨.inr (.inl ⟨by unfold BA;omega,.inl ?_⟩),Ab ..⟩;rw[Nat.add_mul_mod_self_left,Nat.mod_eq_of_lt vu.1.2]
        ·obtain e:=Au.1 e;cases e;refine⟨.inr (.inl ⟨by unfold BA;omega,.inr ?_⟩),Ai _ (Ab ..)⟩;rw[Nat.add_mul_div_left _ _ (by decide),Nat.div_eq_of_lt vu.1.2,Bc]
       show Gu cx true _ st2 (ev st2.t f) (args.toList.map (ev st2.t)) K';rw[Jq st2 ha,ha.t f (by simp[Op.operands,Call.operands]),hl,e1];unfold Gu;simp only[aM,Uj,N6];unfold O9;simp only[d4];unfold Rf;simp only[jD,ha.h r (Ab ..),hr]
       have:DA st2.h d 1=DA st.h d 1:=by simp only[DA,ha.h (BA d 0) (Ai _ (Ab ..))]
       exact⟨n',EM,by rw[this];exact h0,h1,h'⟩
      ·exact hk.elim
     ·exact hk.elim
    ·exact hk.elim
 |builtin b =>
  refine Ei.toL ?_;have mm:∀f:Int→Int→Int,(∀(d:Option Nat) (h:Nat→HO) (G4:List Nat) (args:List AV) (K:HK),F7 cx d h b G4 args K=(match args with | [x,y]=>lh f x y fun v=>K v h | _=>False))→R=[]∧w=none→Ei cx ⟨dst,.call ⟨.builtin b,args,G4⟩,ty,pos,after,gd⟩ st R w K:=by
   rintro f hb ⟨rfl,rfl⟩
   have hk:F7 cx dst st.h b G4.toList (args.toList.map (ev st.t)) K:=hk;rw[hb]at hk;split at hk
   ·rename_i x y e;refine .pick (lA f x y) hk fun st2 ha K' h=>?_;show F7 cx dst st2.h b G4.toList (args.toList.map (ev st2.t)) K';rw[hb,Jq st2 ha,e];exact h
   ·exact hk.elim
  cases b
  case max=>exact mm max (fun d h G4 args K=>by cases args with | nil=>rfl | cons x l=>cases l with | nil=>rfl | cons y l=>cases l<;>rfl) (by
   have hf:G0 cx dst (.builtin .max) st.t (args.toList.map (ev st.t))=some (R,w):=hf;simp only[G0]at hf;cases hf;exact⟨rfl,rfl⟩)
  case min=>exact mm min (fun d h G4 args K=>by cases args with | nil=>rfl | cons x l=>cases l with | nil=>rfl | cons y l=>cases l<;>rfl) (by
   have hf:G0 cx dst (.builtin .min) st.t (args.toList.map (ev st.t))=some (R,w):=hf;simp only[G0]at hf;cases hf;exact⟨rfl,rfl⟩)
  case append =>
   obtain⟨l⟩:=args
   match l,hk,hf with
   | [s,x],hk,hf=>exact V8 hk hf
   | [],hk,hf=>cases G4;exact hk.elim
   | [_],hk,hf=>exact hk.elim
   |_::_::_::_,hk,hf=>exact hk.elim
  case len =>
   obtain⟨l⟩:=args
   match l,hk,hf with
   | [x],hk,hf=>exact cc hk hf
   | [],hk,hf=>exact hk.elim
   |_::_::_,hk,hf=>exact hk.elim
  all_goals exact hk.elim
theorem YQ{o:Oper}(hc:∀c,o.op≠.call c)(hs:(∃t x lo hi mx,o.op=.slice t x lo hi mx)→NC cx.pl.tok o.dst=none)(hk:F5 cx true o st K)(hf:Fq cx o st=some (R,w)):Ei cx o st R w K:=by
 obtain⟨dst,op,ty,pos,after,gd⟩:=o;cases op with
 |call c=>exact absurd rfl (hc c)
 |alloc e=>exact Xp hk hf
 |box e x=>exact cb hk hf
 |buildSlice t n ps=>exact PI hk hf
 |makeSlice t n c=>exact Rh hk hf
 |makeMap t r=>exact Uh hk hf
 |store t p x=>exact Xq hk hf
 |mapUpdate t m k x=>exact Ri hk hf
 |makeFunc fn first cap=>exact SI hk hf
 |load t p=>exact Zf hk hf
 |assign x=>exact V9 hk hf
 |slice t x lo hi mx=>exact QK (hs ⟨t,x,lo,hi,mx,rfl⟩) hk hf
 |lookup t x i ok=>exact Wa hk hf
 |move x =>
  cases hf
  exact .pick (Dv _) hk fun st2 ha K' h=>by simp only[F5,ha.t x (by simp[Op.operands])];exact h
 |pick c a b =>
  cases hf
  exact .pick (dA _ _ _) hk fun st2 ha K' h=>by simp only[F5,ha.t c (by simp[Op.operands]),ha.t a (by simp[Op.operands]),ha.t b (by simp[Op.operands])];exact h
 |nilCheck x =>
  cases hf
  exact .pick (iI _) hk fun st2 ha K' h=>by simp only[F5,ha.t x (by simp[Op.operands])];exact h
 |binOp op t x y u =>
  simp only[Fq]at hf;split at hf
  ·cases hf
  ·rename_i hx;cases hf;exact .pick (dy _ _ _ _ _ _ hx) hk fun st2 ha K' h=>by simp only[F5,ha.t x (by simp[Op.operands]),ha.t y (by simp[Op.operands])];exact h
 |unOp op t x =>
  cases hf
  exact .pick (dB _ _) hk fun st2 ha K' h=>by simp only[F5,ha.t x (by simp[Op.operands])];exact h
 |convert s t x =>
  cases hf
  exact .pick (dz _ _ _ _) hk fun st2 ha K' h=>by simp only[F5,ha.t x (by simp[Op.operands])];exact h
 |fieldAddr s x f =>
  cases hf
  exact .pick (ZR _ _ _ _) hk fun st2 ha K' h=>by simp only[F5,ha.t x (by simp[Op.operands])];exact h
 |field s x f =>
  cases hf
  exact .pick (Yt _ _ _ _) hk fun st2 ha K' h=>by simp only[F5,ha.t x (by simp[Op.operands])];exact h
 |indexAddr t x i =>
  cases hf
  exact .pick (TH _ _ _ _) hk fun st2 ha K' h=>by simp only[F5,ha.t x (by simp[Op.operands]),ha.t i (by simp[Op.operands])];exact h
 |index t x i =>
  cases hf
  exact .pick (ZS _ _ _ _) hk fun st2 ha K' h=>by simp only[F5,ha.t x (by simp[Op.operands]),ha.t i (by simp[Op.operands])];exact h
 |extract x i =>
  cases hf
  exact .pick (WA _ _) hk fun st2 ha K' h=>by simp only[F5,ha.t x (by simp[Op.operands])];exact h
 |build t ps =>
  cases hf
  refine .pick (ZQ _ _ _ _) hk fun st2 ha K' h=>?_;have hx:∀p∈ps.toList,ev st2.t p.2=ev st.t p.2:=fun p hp=>ha.t p.2 (by
   simp only[Op.operands,List.mem_toArray];exact Aq.2 ⟨p,hp,rfl⟩)
  simp only[F5];have fill:∀(pl:Nat→Option (Nat×Nat)) (l:List (Nat×Operand)) (cs:List AV) (K:List AV→Prop),(∀p∈l,ev st2.t p.2=ev st.t p.2)→KD pl cs st2.t l K=KD pl cs st.t l K:=by
   intro pl l
   induction l with
   |nil=>intro cs K _;rfl
   |cons p l ih =>
    intro cs K hp;obtain⟨i,x⟩:=p;have h1:ev st2.t x=ev st.t x:=hp (i,x) (Ab ..);have h2:∀cs,KD pl cs st2.t l K=KD pl cs st.t l K:=fun cs=>ih cs K (fun p n9=>hp p (Ai _ n9));simp only[KD,h1,h2]
  unfold Pw at h⊢;simp only[fill _ _ _ _ hx];exact h
 |_=>cases hf
theorem bF{o:Oper}(hk:F5 cx true o st K)(hf:Fq cx o st=some (R,w)):Ru cx o st R w K:=by
 obtain⟨dst,op,ty,pos,after,gd⟩:=o
 by_cases h:∃c,op=.call c
 ·obtain⟨c,rfl⟩:=h;exact Ze hk hf
 ·by_cases h2:∃t x lo hi mx,op=.slice t x lo hi mx
  ·obtain⟨t,x,lo,hi,mx,rfl⟩:=h2;cases hp:NC cx.pl.tok dst with
   |none=>exact Ei.toL (QK hp hk hf)
   |some p=>exact cd hp hk hf
  ·exact Ei.toL (YQ (fun c e=>h ⟨c,e⟩) (fun e=>absurd e h2) hk hf)
end
end Go.Eng

namespace Go.Eng

theorem UW{cx:Cx}{o:Oper}{st st2:St}(h:∀x∈o.op.operands,ev st2.t x=ev st.t x):Fq cx o st2=Fq cx o st:=by
 obtain⟨dst,op,ty,pos,after,gd⟩:=o;cases op with
 |call c =>
  obtain⟨pk,args,G4⟩:=c;have ha:args.toList.map (ev st2.t)=args.toList.map (ev st.t):=Ba fun x hx=>h x (by simp only[Op.operands,Call.operands,RQ];exact .inr (by simpa using hx));simp only[Fq];rw[ha];cases pk with
  |value f =>
   have hf:ev st2.t f=ev st.t f:=h f (by simp[Op.operands,Call.operands]);simp only[G0,hf]
  |builtin b =>
   generalize args.toList.map (ev st.t)=l
   match l with
   | []=>cases b<;>rfl
   | [x]=>cases b<;>cases x<;>rfl
   | [x,y]=>cases b<;>cases x<;>rfl
   |x::_::_::_=>cases b<;>cases x<;>rfl
  |invoke r m=>rfl
 |box e x=>simp only[Fq,h x (by simp[Op.operands])]
 |buildSlice t n ps =>
  have hx:ps.toList.map (fun p=>ev st2.t p.2)=ps.toList.map (fun p=>ev st.t p.2):=Ba fun p hp=>h p.2 (by
   simp only[Op.operands,List.mem_toArray];exact Aq.2 ⟨p,hp,rfl⟩)
  simp only[Fq,hx]
 |store t p x=>simp only[Fq,h p (by simp[Op.operands]),h x (by simp[Op.operands])]
 |mapUpdate t m k x=>simp only[Fq,h m (by simp[Op.operands]),h x (by simp[Op.operands])]
 |makeFunc fn first cap =>
  have hx:cap.toList.map (ev st2.t)=cap.toList.map (ev st.t):=Ba fun x hx=>h x (by simp only[Op.operands,RQ];exact .inr (by simpa using hx));simp only[Fq,hx]
 |load t p=>simp only[Fq,h p (by simp[Op.operands])]
 |assign x=>simp only[Fq,h x (by simp[Op.operands])]
 |binOp op t x y u=>simp only[Fq,h x (by simp[Op.operands])]
 |slice t x lo hi mx=>simp only[Fq,h x (by simp[Op.operands])]
 |lookup t x i ok=>simp only[Fq,h x (by simp[Op.operands])]
 |_=>rfl

def Kr(ops:Array Oper)(o:Oper)(st st2:St):Prop:=∀d∈o.looksAt ops,st2.t d=st.t d
theorem Kr.operands{ops:Array Oper}{o:Oper}{st st2:St}(h:Kr ops o st st2):∀x∈o.op.operands,ev st2.t x=ev st.t x:=fun x hx=>by
 cases x with
 |tmp t=>exact h t (Bz _ (List.mem_filterMap.2 ⟨.tmp t,by simpa using hx,rfl⟩))
 |_=>rfl
theorem Vj(ops:Array Oper)(j:Nat):Kg ops.toList j=(ops[j]?).bind (·.dst):=by
 have:∀(l:List Oper) (j:Nat),Kg l j=(l[j]?).bind (·.dst):=by
  intro l
  induction l with
  |nil=>intro j;simp[Kg]
  |cons o l ih =>
   intro j;cases j with
   |zero=>simp[Kg]
   |succ j=>simp[Kg,ih]
 rw[this];simp
theorem Kr.guard{ops:Array Oper}{o:Oper}{st st2:St}(h:Kr ops o st st2){j:Nat}{b:Bool}(hg:o.guard=some (j,b)){d:Nat}(hd:Kg ops.toList j=some d):st2.t d=st.t d :=
 h d (Bp _ (by rw[hg];simp only;rw[←Vj,hd];simp))

def St.after(st:St)(o:Oper)(v:AV)(e:List (Nat×HO)):St:=st.put o.dst v (H9 st.h e)

def Pr(cx:Cx)(ops:Array Oper)(o:Oper)(st:St)(f:FE)(v:AV)(e:List (Nat×HO)):Prop :=
 (∀r o',(r,o')∈e→RS f.2 r∧r∈f.1)∧∀st2,Kr ops o st st2→(∀r∈f.1,st2.h r=st.h r)→∀K:St→Prop,K (st2.after o v e)→IP cx true ops.toList o st2 K

theorem SH{cx:Cx}{ops:Array Oper}{o:Oper}{st st2:St}(h:Kr ops o st st2):Nm cx ops.toList o st2=Nm cx ops.toList o st:=by
 unfold Nm;split
 ·exact UW h.operands
 ·rename_i j want hg;split
  ·rfl
  ·rename_i d hd;simp only[h.guard hg hd];split<;>first | exact UW h.operands | rfl

theorem Ol{cx:Cx}{ops:Array Oper}{o:Oper}{st:St}{f:FE}{K:St→Prop}(hk:IP cx true ops.toList o st K)(hf:Nm cx ops.toList o st=some f) :
  ∃v e,Pr cx ops o st f v e∧K (st.after o v e):=by
 obtain⟨R,w⟩:=f;have skip:R=[]∧w=none→K (st.put o.dst (.v undef) st.h)→(∀st2,Kr ops o st st2→∀K:St→Prop,K (st2.put o.dst (.v undef) st2.h)→IP cx true ops.toList o st2 K)→∃v e,Pr cx ops o st (R,w) v e∧K (st.after o v e):=by
  rintro⟨rfl,rfl⟩ h1 h2
  exact⟨.v undef,[],⟨fun r o' e=>(by cases e),fun st2 hl _ K h=>h2 st2 hl K h⟩,h1⟩
 have run:Fq cx o st=some (R,w)→F5 cx true o st (fun v h=>K (st.put o.dst v h))→(∀st2,Kr ops o st st2→∀K:St→Prop,F5 cx true o st2 (fun v h=>K (st2.put o.dst v h))→IP cx true ops.toList o st2 K)→∃v e,Pr cx ops o st (R,w) v e∧K (st.after o v e):=by
  intro hf hk h2;obtain⟨v,e,q1,q2,q3⟩:=bF hk hf;exact⟨v,e,⟨q2,fun st2 hl hh K h=>h2 st2 hl K (q3 st2 ⟨hl.operands,hh⟩ _ h)⟩,q1⟩
 unfold IP at hk;unfold Nm at hf;cases hg:o.guard with
 |none =>
  rw[hg]at hk hf;exact run hf hk (fun st2 hl K h=>by unfold IP;rw[hg];exact h)
 |some p =>
  obtain⟨j,want⟩:=p;rw[hg]at hk hf;simp only at hk hf;cases hd:Kg ops.toList j with
  |none=>rw[hd]at hk;exact hk.elim
  |some d =>
   rw[hd]at hk hf;simp only at hk hf;have he:∀st2,Kr ops o st st2→st2.t d=st.t d:=fun st2 hl=>hl.guard hg hd;generalize hx:st.t d=x at hk hf he;split at hk
   ·exact run hf hk (fun st2 hl K h=>by unfold IP;simp only[hg,hd,he st2 hl];exact h)
   ·exact run hf hk (fun st2 hl K h=>by unfold IP;simp only[hg,hd,he st2 hl];exact h)
   ·exact skip (by cases hf;exact⟨rfl,rfl⟩) hk (fun st2 hl K h=>by unfold IP;simp only[hg,hd,he st2 hl];exact h)
   ·exact skip (by cases hf;exact⟨rfl,rfl⟩) hk (fun st2 hl K h=>by unfold IP;simp only[hg,hd,he st2 hl];exact h)
   ·exact skip (by cases hf;exact⟨rfl,rfl⟩) hk (fun st2 hl K h=>by unfold IP;simp only[hg,hd,he st2 hl];exact h)
   ·exact hk.elim

def p5(cx:Cx)(ops:Array Oper)(FT:Nat→FE)(i:Nat)(K:St→Prop)(st:St):Prop :=
 match ops[i]? with
 |none=>K st
 |some o=>Nm cx ops.toList o st=some (FT i)∧IP cx true ops.toList o st K
def WW(cx:Cx)(ops:Array Oper)(FT:Nat→FE)(K:St→Prop):Nat→Array Bool→St→Prop
 |0,listed,st=>Region.ready .any ops listed=[]∧K st
 |fuel+1,listed,st =>
  (Region.ready .any ops listed=[]→K st)∧∀i∈Region.ready .any ops listed,p5 cx ops FT i (WW cx ops FT K fuel (listed.setIfInBounds i true)) st

theorem dQ(t:Nat→AV){d d' : Nat}(h:d'≠d)(v v' : AV):HS (HS t d v) d' v'=HS (HS t d' v') d v:=by
 funext i
 unfold HS
 by_cases h1:i=d<;>by_cases h2:i=d'
 ·exact absurd (h2.symm.trans h1) h
 ·subst h1;simp[Ci h2]
 ·subst h2;simp[Ci h1]
 ·simp[Ci h1,Ci h2]
theorem co(t:Nat→HO){d d' : Nat}(h:d'≠d)(v v' : HO):AW (AW t d v) d' v'=AW (AW t d' v') d v:=by
 funext i
 unfold AW
 by_cases h1:i=d<;>by_cases h2:i=d'
 ·exact absurd (h2.symm.trans h1) h
 ·subst h1;simp[Ci h2]
 ·subst h2;simp[Ci h1]
 ·simp[Ci h1,Ci h2]
theorem OW{l:List Nat}{n:Nat}(h:n∈l):II l n=true:=by
 induction l with
 |nil=>cases h
 |cons a l ih =>
  unfold II
  by_cases e:a=n
  ·subst e;simp
  ·rw[Ci e];exact ih ((AF.1 h).resolve_left (fun q=>e q.symm))
theorem X9{l:List Nat}{n:Nat}(h:II l n=true):n∈l:=by
 induction l with
 |nil=>cases h
 |cons a l ih =>
  unfold II at h
  by_cases e:a=n
  ·exact e▸Ab ..
  ·rw[Ci e]at h;exact Ai _ (ih h)
theorem Ym{l:List Nat}{x:Nat}(h:Yk l x=true):∀r,RS (some x) r→r∉l:=by
 intro r hc hr;unfold Yk at h
 by_cases hx:x=VU
 ·subst hx;rw[Dc,JP]at h;cases l with
  |nil=>cases hr
  |cons a l=>cases h
 rw[Ci hx,D7]at h;simp only[Ag,CQ,CX,Ck]at h;rcases hc with rfl | ⟨h1,h2⟩ | hc
 ·rw[OW hr]at h;cases h.1
 ·rcases h.2 with h3 | h3
  ·omega
  ·rcases h2 with rfl | rfl
   ·rw[OW hr]at h3;cases h3.1
   ·rw[OW hr]at h3;cases h3.2
 ·exact hx hc
theorem bR{a b:FE}(h:Sr a b=true):(∀r,RS a.2 r→r∉b.1)∧∀r,RS b.2 r→r∉a.1:=by
 obtain⟨a1,a2⟩:=a;obtain⟨b1,b2⟩:=b;simp only[Sr,Ag]at h;refine⟨fun r e=>?_,fun r e=>?_⟩
 ·cases a2 with
  |none=>exact e.elim
  |some x=>exact Ym h.1 r e
 ·cases b2 with
  |none=>exact e.elim
  |some x=>exact Ym h.2 r e

section
variable {cx:Cx}{ops:Array Oper}{FT:Nat→FE}
theorem QT{oi oj:Oper}(h:∀d,oi.dst=some d→d∉oj.looksAt ops)(st:St)(v:AV)(e:List (Nat×HO)):Kr ops oj st (st.after oi v e):=by
 intro d hd;cases hdst:oi.dst with
 |none=>simp[St.after,St.put,hdst]
 |some d' =>
  have:d≠d':=fun q=>h d' hdst (q▸hd)
  simp[St.after,St.put,hdst,HS,Ci this]
theorem Kr.symm{o:Oper}{st st2:St}(h:Kr ops o st st2):Kr ops o st2 st:=fun d hd=>(h d hd).symm
theorem aJ{o:Oper}{st:St}{v:AV}{e:List (Nat×HO)}:(st.after o v e).h=H9 st.h e:=by
 unfold St.after St.put;cases o.dst<;>rfl
theorem PE{r:Nat}:∀{e:List (Nat×HO)} {h:Nat→HO},(∀o',(r,o')∉e)→H9 h e r=h r
 | [],_,_=>rfl
 |p::e,h,hr=>by
  have:r≠p.1:=fun q=>hr p.2 (by rw[q];exact Ab ..)
  show H9 (AW h p.1 p.2) e r=h r;rw[PE fun o' ho=>hr o' (Ai _ ho),B9 _ _ _ _ this]
theorem Xe{r:Nat}{o:HO}:∀{e:List (Nat×HO)} {h:Nat→HO},(∀r' o',(r',o')∈e→r'≠r)→H9 (AW h r o) e=AW (H9 h e) r o
 | [],_,_=>rfl
 |p::e,h,hr=>by
  show H9 (AW (AW h r o) p.1 p.2) e=AW (H9 (AW h p.1 p.2) e) r o;rw[co h (hr p.1 p.2 (Ab ..)),Xe fun r' o' ho=>hr r' o' (Ai _ ho)]
theorem UU:∀{e e' : List (Nat×HO)} {h:Nat→HO},(∀r o r' o',(r,o)∈e→(r',o')∈e'→r'≠r)→H9 (H9 h e) e'=H9 (H9 h e') e
 | [],_,_,_=>rfl
 |p::e,e',h,hd=>by
  show H9 (H9 (AW h p.1 p.2) e) e'=H9 (AW (H9 h e') p.1 p.2) e;rw[←Xe fun r' o' ho=>hd p.1 p.2 r' o' (Ab ..) ho,UU fun r o r' o' h1 h2=>hd r o r' o' (Ai _ h1) h2]
theorem YP{oi oj:Oper}{st:St}{v v' : AV}{e e' : List (Nat×HO)}(h1:∀d,oi.dst=some d→oj.dst≠some d)(h2:∀r o r' o',(r,o)∈e→(r',o')∈e'→r'≠r) :
  (st.after oi v e).after oj v' e'=(st.after oj v' e').after oi v e:=by
 have hh:H9 (H9 st.h e) e'=H9 (H9 st.h e') e:=UU h2;have key:∀o:Oper,∀v e,∀st:St,st.after o v e=⟨match o.dst with | none=>st.t | some d=>HS st.t d v,H9 st.h e⟩:=fun o v e st=>by
  unfold St.after St.put;cases o.dst<;>rfl
 rw[key,key,key,key];simp only[hh];cases hi:oi.dst with
 |none=>rfl
 |some d =>
  cases hj:oj.dst with
  |none=>rfl
  |some d' =>
   have Dy:d'≠d:=fun q=>h1 d hi (by rw[hj,q]);simp only[dQ st.t Dy v v']


theorem YN{K:St→Prop}{i:Nat}{oi:Oper}{v:AV}{e:List (Nat×HO)}(hi:ops[i]?=some oi)(D:Nat→Prop)
  (hD:∀j,D j→∃oj,ops[j]?=some oj∧∃ed∈oj.after,Region.binds .any ed=true∧(ed.on=i∨D ed.on)) :
  ∀(fuel:Nat) (listed:Array Bool) (st:St),
   (∀j oj,ops[j]?=some oj→j≠i→listed.getD j true=false→¬D j→oi.apart ops oj=true∧Sr (FT i) (FT j)=true) →
   i∈Region.ready .any ops listed→(∀j,D j→listed.getD j true=false)→Nm cx ops.toList oi st=some (FT i)→Pr cx ops oi st (FT i) v e →
   WW cx ops FT K fuel (listed.setIfInBounds i true) (st.after oi v e)→WW cx ops FT K (fuel+1) listed st:=by
 have here:∀(fuel:Nat) (listed:Array Bool) (st:St),Nm cx ops.toList oi st=some (FT i)→Pr cx ops oi st (FT i) v e →
   WW cx ops FT K fuel (listed.setIfInBounds i true) (st.after oi v e)→p5 cx ops FT i (WW cx ops FT K fuel (listed.setIfInBounds i true)) st:=by
  intro fuel listed st hf hy H;unfold p5;rw[hi];exact⟨hf,hy.2 st (fun _ _=>rfl) (fun _ _=>rfl) _ H⟩
 intro fuel
 induction fuel with
 |zero =>
  intro listed st _ hr _ hf hy H;refine⟨fun h=>(by rw[h]at hr;cases hr),fun j hj=>?_⟩
  by_cases IA:j=i
  ·subst IA;exact here 0 listed st hf hy H
  ·have:=ready_mono hj IA
   rw[H.1]at this;cases this
 |succ fuel ih =>
  intro listed st Aa hr yP hf hy H;refine⟨fun h=>(by rw[h]at hr;cases hr),fun j hj=>?_⟩
  by_cases IA:j=i
  ·subst IA;exact here (fuel+1) listed st hf hy H
  ·have h1:=H.2 j (ready_mono hj IA);obtain⟨ry,oj,kH,GJ⟩:=mem_ready.1 hj;have qF:∀k,listed.getD k true=false→listed.getD k false=true→False:=fun k h0 h1=>by
    rcases BV k listed.size with h' | h'
    ·simp[h']at h0 h1;rw[h0]at h1;cases h1
    ·simp[Array.getElem?_eq_none h']at h1
   have tu:¬D j:=fun tj=>by
    obtain⟨oj',mn,ed,he,hb,hon⟩:=hD j tj;rw[kH]at mn;cases mn;have hl:=GJ ed he hb;rcases hon with h2 | h2
    ·exact qF _ (by rw[h2];exact(mem_ready.1 hr).1) hl
    ·exact qF _ (yP _ h2) hl
   obtain⟨qP,tj⟩:=Aa j oj kH IA ry tu;obtain⟨a1,a2,a3⟩:=Oper.apart_spec qP;obtain⟨d1,d2⟩:=bR tj;unfold p5 at h1⊢;rw[kH]at h1⊢;obtain⟨y6,hkj⟩:=h1;have zg:=QT (ops:=ops) a1 st v e;obtain⟨vj,ej,zw,hK⟩:=Ol hkj y6;have rl:∀r o',(r,o')∈e→r∉(FT j).1:=fun r o' q=>d1 r (hy.1 r o' q).1;have d4:∀r o',(r,o')∈ej→r∉(FT i).1:=fun r o' q=>d2 r (zw.1 r o' q).1;refine⟨by rw[←SH zg];exact y6,zw.2 st zg.symm (fun r gE=>?_) _ ?_⟩
   ·rw[aJ,PE (fun o' q=>rl r o' q gE)]
   ·have zf:=QT (ops:=ops) a3 st vj ej;refine ih (listed.setIfInBounds j true) (st.after oj vj ej) (fun k ok hk ze kN NK=>?_) (ready_mono hr (Ne.symm IA)) (fun k hk=>?_) (by rw[SH zf];exact hf) ⟨hy.1,fun st2 hl hh K' h'=>?_⟩ ?_
    ·by_cases kD:j=k
     ·subst kD;exact Aa _ ok hk ze ry NK
     ·rw[getD_set_ne true kD]at kN;exact Aa k ok hk ze kN NK
    ·by_cases kD:j=k
     ·subst kD;exact absurd hk tu
     ·rw[getD_set_ne true kD];exact yP k hk
    ·refine hy.2 st2 (fun d hd=>(hl d hd).trans (zf d hd)) (fun r gE=>?_) K' h';rw[hh r gE,aJ,PE (fun o' q=>d4 r o' q gE)]
    ·rw[Array.setIfInBounds_comm _ _ (Ne.symm IA)]at hK;rw[←YP a2 (fun r o r' o' q q' e2=>d4 r' o' q' (by rw[e2];exact(hy.1 r o q).2))];exact hK

def mM(cx:Cx)(ops:Array Oper)(K:St→Prop):List Oper→List FE→St→Prop
 | [],[],st=>K st
 |o::r,f::fs,st=>Nm cx ops.toList o st=some f∧∃v e,Pr cx ops o st f v e∧mM cx ops K r fs (st.after o v e)
 |_,_,_=>False
theorem RW{K:St→Prop}:∀(l:List Oper) (acc:List FE) (st:St),W0 cx ops l acc st K→∃fs,Ss ops (acc.reverse++fs)=true∧mM cx ops K l fs st
 | [],acc,st,h=>⟨[],by simpa using h.1,h.2⟩
 |o::r,acc,st,h=>by
  unfold W0 at h;split at h
  ·rename_i f hf;obtain⟨v,e,h1,h2⟩:=Ol h hf;obtain⟨fs,q1,q2⟩:=RW r _ _ h2;exact⟨f::fs,by simpa using q1,hf,v,e,h1,q2⟩
  ·exact h.elim

theorem Wd{o:Oper}{i:Nat}{D:List Nat}(h:OL o i D=true):∃ed∈o.after,Region.binds .any ed=true∧(ed.on=i∨ed.on∈D):=by
 unfold OL at h;obtain⟨ed,h1,h2⟩:=A3.1 h;simp only[Ag,CQ]at h2;exact⟨ed,by simpa using h1,h2.1,h2.2.imp AU X9⟩
theorem TX{i:Nat}{D:List Nat}:∀(l:List Oper) (k:Nat),TW i D k l=true→∀j o,l[j]?=some o→k+j∈D→OL o i D=true
 | [],_,_,_,_,h,_=>by simp at h
 |o::l,k,hs,j,o',h,hm=>by
  simp only[TW,Ag]at hs;cases j with
  |zero =>
   simp only[Bj,Br]at h;subst h;have h1:=hs.1;rw[OW (by simpa using hm)]at h1;simpa using h1
  |succ j=>exact TX l (k+1) hs.2 j o' (by simpa using h) (by rw[GG,Nat.add_comm 1 j];exact hm)
theorem UF{oi:Oper}{fi:FE}{D:List Nat}:∀(l:List Oper) (fs:List FE) (k:Nat),Io ops oi fi D k l fs=true→l.length=fs.length∧∀j o f,l[j]?=some o→fs[j]?=some f→k+j∉D→oi.apart ops o=true∧Sr fi f=true
 | [],[],_,_=>⟨rfl,fun _ _ _ h=>by simp at h⟩
 | [],_::_,_,h=>by simp[Io]at h
 |_::_,[],_,h=>by simp[Io]at h
 |o::l,f::fs,k,h=>by
  simp only[Io,Ag,CQ]at h;obtain⟨h1,h2⟩:=UF l fs (k+1) h.2;refine⟨by simp[h1],fun j o' f' q1 q2 hn=>?_⟩;cases j with
  |zero =>
   simp only[Bj,Br]at q1 q2;subst q1;subst q2;rcases h.1 with h3 | h3
   ·exact absurd (X9 h3) hn
   ·exact h3
  |succ j=>exact h2 j o' f' (by simpa using q1) (by simpa using q2) (by simpa[Nat.add_assoc,Nat.add_comm 1 j]using hn)

theorem WX{K:St→Prop}:∀(l:List Oper) (fs:List FE) (k:Nat) (listed:Array Bool) (st:St),(∀j,l[j]?=ops[k+j]?)→(∀j f,fs[j]?=some f→FT (k+j)=f)→listed.size=ops.size →
  (∀j,j<ops.size→listed.getD j true=decide (j<k))→L9 ops ops.toList k l fs=true→mM cx ops K l fs st→WW cx ops FT K l.length listed st
 | [],[],k,listed,st,hl,_,hs,hL,_,h=>by
  refine⟨?_,h⟩;apply LL.2;intro j hj;obtain⟨h1,o,ho,_⟩:=mem_ready.1 hj;have Dz:=(Bn.1 ho).1;rw[hL j Dz]at h1;have py:k≤j:=by simpa using h1
  have:=hl (j-k)
  rw[show k+(j-k)=j by omega,ho]at this;simp at this
 | [],_::_,_,_,_,_,_,_,_,h,_=>by simp[L9]at h
 |_::_,[],_,_,_,_,_,_,_,h,_=>by simp[L9]at h
 |o::l,f::fs,k,listed,st,hl,hF,hs,hL,hg,h=>by
  simp only[L9,Ag]at hg;obtain⟨⟨⟨⟨g1,g2⟩,g3⟩,g4⟩,g5⟩:=hg;obtain⟨hf,v,e,hy,hp⟩:=h;have h0:ops[k]?=some o:=by simpa using(hl 0).symm
  have hk:=(Bn.1 h0).1;have vD:FT k=f:=by simpa using hF 0 f rfl
  have PK : ∀j,l[j]?=ops[k+1+j]?:=fun j=>by have:=hl (j+1);simpa[Nat.add_assoc,Nat.add_comm 1 j]using this
  have me : ∀j f,fs[j]?=some f→FT (k+1+j)=f:=fun j f' hj=>by have:=hF (j+1) f' (by simpa using hj);simpa[Nat.add_assoc,Nat.add_comm 1 j]using this
  obtain⟨CW,qP⟩:=UF l fs (k+1) g4;have aH:∀j,j∈PD k [] 0 ops.toList→k<j∧j<ops.size:=fun j hj=>by
   have:=(AX.1 g3) j hj
   simp only[Ag,Ck,CB]at this;exact this
  refine YN h0 (fun j=>j∈PD k [] 0 ops.toList) (fun j hj=>?_) l.length listed st (fun j oj kH kD kN tu=>?_) ?_ (fun j hj=>?_) (by rw[vD];exact hf) (by rw[vD];exact hy) ?_
  ·have Dz:=(aH j hj).2
   have:=TX ops.toList 0 g2 j ops[j] (by simp[Dz]) (by simpa using hj)
   obtain⟨ed,e1,e2,e3⟩:=Wd this;exact⟨ops[j],by simp[Dz],ed,e1,e2,e3⟩
  ·have Dz:=(Bn.1 kH).1;rw[hL j Dz]at kN;have py:k<j:=by have q:k≤j:=(by simpa using kN);omega
   have e1:l[j-(k+1)]?=some oj:=by rw[PK,show k+1+(j-(k+1))=j by omega];exact kH
   have hfl:j-(k+1)<fs.length:=by rw[←CW];exact(Aw.1 e1).1
   have e2:fs[j-(k+1)]?=some fs[j-(k+1)]:=AD hfl;have e3:=me _ _ e2;rw[show k+1+(j-(k+1))=j by omega]at e3;rw[vD,e3];exact qP _ _ _ e1 e2 (by rw[show k+1+(j-(k+1))=j by omega];exact tu)
  ·refine mem_ready.2 ⟨by rw[hL k hk];simp,o,h0,fun ed he hb=>?_⟩
   have:=(AX.1 g1) ed (by simpa using he)
   simp only[hb,Bool.not_true,Jl,Ck]at this;have h1:=hL ed.on (by omega);have Dz:ed.on<listed.size:=by omega
   simp[Dz]at h1⊢;rw[h1];simpa using this
  ·have:=aH j hj
   rw[hL j this.2];simp;omega
  ·refine WX l fs (k+1) _ _ PK me (by simp[hs]) (fun j hj=>?_) g5 hp
   by_cases kD:j=k
   ·subst kD
    have:j<listed.size:=by omega
    simp[this]
   ·rw[getD_set_ne true (Ne.symm kD),hL j hj]
    by_cases h1:j<k
    ·simp[h1];omega
    ·simp[h1];omega

theorem bC{K:St→Prop}{st:St}(h:W0 cx ops ops.toList [] st K):Region.noSelect ops=true∧∃FT,WW cx ops FT K ops.size (Array.replicate ops.size false) st:=by
 obtain⟨fs,h1,h2⟩:=RW _ _ _ h;simp only[Ss,List.reverse_nil,EU,Ag]at h1;refine⟨h1.1,fun j=>fs.getD j default,?_⟩
 have:=WX (FT:=fun j=>fs.getD j default) ops.toList fs 0 (Array.replicate ops.size false) st (by simp) (fun j f hj=>by simp[hj]) (by simp) (fun j hj=>by simp[hj]) h1.2 h2
 simpa using this
end
end Go.Eng
