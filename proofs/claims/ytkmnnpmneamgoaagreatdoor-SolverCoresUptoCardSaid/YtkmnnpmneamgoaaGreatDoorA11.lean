/- Lemmas for the claims of this seat, without a condition: part 11 (EngX, EngY, EngZ). -/
import Derived.Test.YtkmnnpmneamgoaaGreatDoorA10
namespace Go.Eng

section
variable {cx:Cx}{dst:Option Nat}{ty:Nat}{pos:String}{after:Array Edge}{gd:Option (Nat×Bool)}{st:St}{R:List Nat}{w:Option Nat}{K:HK}

theorem ZG{t:Nat}{p:Operand}(hk:F8 cx true ⟨dst,.load t p,ty,pos,after,gd⟩ st K)(hf:Fw cx ⟨dst,.load t p,ty,pos,after,gd⟩ st=some (R,w)):Eo cx ⟨dst,.load t p,ty,pos,after,gd⟩ st R w K:=by
 simp only[F8]at hk;have hn:∀st2,IY ⟨dst,.load t p,ty,pos,after,gd⟩ R st st2→ev st2.t p=ev st.t p:=fun st2 ha=>ha.t p (by simp[Op.operands]);simp only[Fw]at hf;unfold IT at hk;split at hf
 ·rename_i cs hp;cases hf;rw[hp]at hk;simp only at hk;exact .pick (Jr _ _ _) hk fun st2 ha K' h=>by simp only[F8,IT,hn st2 ha,hp];exact h
 ·rename_i r off hp;cases hf;rw[hp]at hk;simp only at hk;split at hk
  ·rename_i cs hr;exact .pick (Jr _ _ _) hk fun st2 ha K' h=>by simp only[F8,IT,hn st2 ha,hp,ha.h r (Ab ..),hr];exact h
  ·rename_i cs hr;exact .pick (Jr _ _ _) hk fun st2 ha K' h=>by simp only[F8,IT,hn st2 ha,hp,ha.h r (Ab ..),hr];exact h
  ·exact hk.elim
 ·rename_i r n sz i off hp;cases hf;rw[hp]at hk;simp only at hk;split at hk
  ·rename_i GZ es hr;split at hk
   ·rename_i hs;exact .pick (DM (M2 fun _=>DM (Jr _ _ _))) hk fun st2 ha K' h=>by simp only[F8,IT,hn st2 ha,hp,ha.h r (Ab ..),hr,hs];exact h
   ·exact hk.elim
  ·exact hk.elim
 ·cases hf
theorem Wt{x:Operand}(hk:F8 cx true ⟨dst,.assign x,ty,pos,after,gd⟩ st K)(hf:Fw cx ⟨dst,.assign x,ty,pos,after,gd⟩ st=some (R,w)):Eo cx ⟨dst,.assign x,ty,pos,after,gd⟩ st R w K:=by
 simp only[F8]at hk;have hn:∀st2,IY ⟨dst,.assign x,ty,pos,after,gd⟩ R st st2→ev st2.t x=ev st.t x:=fun st2 ha=>ha.t x (by simp[Op.operands]);simp only[Fw]at hf;split at hf
 ·cases hf
 ·rename_i hx;cases hf;have same:∃y,∀(h:Nat→HO) (K:HK),OA cx dst h (ev st.t x) K↔K y h:=by
   unfold OA;cases dst with
   |none=>exact⟨_,fun _ _=>QM⟩
   |some d =>
    simp only;cases EA cx.pl.tok d with
    |some sz =>
     simp only;cases Nat.beq sz 0 with
     |true=>exact⟨_,fun _ _=>QM⟩
     |false =>
      refine⟨ev st.t x,fun h K=>?_⟩;simp only;split
      ·rename_i e;exact absurd e (hx _ _ _)
      ·exact QM
    |none =>
     simp only;cases EA cx.pl.arr d with
     |some sz =>
      refine⟨ev st.t x,fun h K=>?_⟩;simp only;split
      ·rename_i e;exact absurd e (hx _ _ _)
      ·exact QM
     |none=>exact⟨_,fun _ _=>QM⟩
  obtain⟨y,same⟩:=same;exact .pick (Dz y) ((same _ _).1 hk) fun st2 ha K' h=>by simp only[F8];rw[hn st2 ha];exact(same _ _).2 h
theorem QX{t:Nat}{x:Operand}{lo hi mx:Option Operand}(hp:NN cx.pl.tok dst=none)(hk:F8 cx true ⟨dst,.slice t x lo hi mx,ty,pos,after,gd⟩ st K)(hf:Fw cx ⟨dst,.slice t x lo hi mx,ty,pos,after,gd⟩ st=some (R,w)) :
  Eo cx ⟨dst,.slice t x lo hi mx,ty,pos,after,gd⟩ st R w K:=by
 simp only[F8,hp]at hk;have hn:∀st2,IY ⟨dst,.slice t x lo hi mx,ty,pos,after,gd⟩ R st st2→ev st2.t x=ev st.t x∧Ca st2.t lo=Ca st.t lo∧Ca st2.t hi=Ca st.t hi∧Ca st2.t mx=Ca st.t mx:=by
  intro st2 ha;have xN:∀y:Option Operand,(∀z,y=some z→ev st2.t z=ev st.t z)→Ca st2.t y=Ca st.t y:=by
   intro y hy;cases y with
   |none=>rfl
   |some z=>simp only[Ca];rw[hy z rfl]
  exact⟨ha.t x (by simp[Op.operands]),xN lo (fun z e=>ha.t z (by simp[Op.operands,e])),xN hi (fun z e=>ha.t z (by simp[Op.operands,e])),xN mx (fun z e=>ha.t z (by simp[Op.operands,e]))⟩
 simp only[Fw,hp]at hf;split at hf
 ·cases hf
 ·rename_i hx;cases hf;have e3:Ca st.t none=some none:=rfl
  have Ik:Gr (fun K1=>GH cx dst st.h t (ev st.t x) (Ca st.t lo) (Ca st.t hi) (some none) fun v _=>K1 v) ∧
    ∀(h:Nat→HO) (K:HK),GH cx dst h t (ev st.t x) (Ca st.t lo) (Ca st.t hi) (some none) K↔GH cx dst st.h t (ev st.t x) (Ca st.t lo) (Ca st.t hi) (some none) (fun v _=>K v h):=by
   generalize ev st.t x=X at hx;unfold GH;constructor
   ·repeat' split
    all_goals first | exact CF | exact DM (Dz _) | exact DM (DM (Dz _)) | skip
    all_goals first | (rename_i e;cases e;done) | skip
    all_goals (exfalso;exact hx _ _ rfl)
   ·intro h K
    repeat' split
    all_goals first | exact QM | skip
    all_goals exfalso
    all_goals first | exact hx _ _ rfl | (rename some none=some (some _)=>e4;cases e4)
  rw[e3]at hk;exact .pick Ik.1 ((Ik.2 _ _).1 hk) fun st2 ha K' h=>by
   obtain⟨n1,n2,n3,n4⟩:=hn st2 ha;simp only[F8,hp];rw[n1,n2,n3,n4,e3];exact(Ik.2 _ _).2 h
 ·rename_i y tk es hx;obtain⟨d,rfl,e0⟩:=IC hf;cases e0;rw[hx]at hk;unfold GH at hk;split at hk
  ·rename_i HQ L4 np e1 e2 e3;split at hk
   ·split at hk<;>first | exact hk.elim | (rename_i e;cases e)
   ·rename_i e he;split at hk
    ·exact hk.elim
    ·rename_i k En;simp only at hk;split at hk
     ·exfalso
      rename_i e4;simp only[Ca]at e3;split at e3<;>cases e3
     ·rename_i m;split at hk
      ·rename some d=some _=>e5
       cases e5
       split at hk
       ·rename_i oE;refine⟨_,none,hk.2.2,fun r o' e=>(by cases e),fun st2 Hz K' h'=>?_⟩;obtain⟨n1,n2,n3,n4⟩:=hn st2 Hz;simp only[F8,hp];rw[n1,n2,n3,n4,hx,e1,e2,e3];unfold GH;simp only[he];split
        ·rename_i e0;rw[En]at e0;cases e0
        ·simp only[oE];exact⟨hk.1,hk.2.1,h'⟩
       rename_i oE;split at hk
       ·rename_i hd;refine⟨_,some (d,_),hk.2.2,fun r o' e=>(by cases e;exact⟨rfl,Ab ..⟩),fun st2 Hz K' h'=>?_⟩;obtain⟨n1,n2,n3,n4⟩:=hn st2 Hz;simp only[F8,hp];rw[n1,n2,n3,n4,hx,e1,e2,e3];unfold GH;simp only[he];split
        ·rename_i e0;rw[En]at e0;cases e0
        ·simp only[oE];rw[Hz.h d (Ab ..),hd];exact⟨hk.1,hk.2.1,h'⟩
       ·exact hk.elim
      ·exact hk.elim
   ·exact hk.elim
  ·exact hk.elim
 ·cases hf
theorem cN{t:Nat}{x:Operand}{lo hi mx:Option Operand}{p:Nat}(hp:NN cx.pl.tok dst=some p)(hk:F8 cx true ⟨dst,.slice t x lo hi mx,ty,pos,after,gd⟩ st K)(hf:Fw cx ⟨dst,.slice t x lo hi mx,ty,pos,after,gd⟩ st=some (R,w)) :
  RJ cx ⟨dst,.slice t x lo hi mx,ty,pos,after,gd⟩ st R w K:=by
 simp only[F8,hp]at hk;simp only[Fw,hp]at hf;obtain⟨d',r,n,hd,hx,e0⟩:=ZE hf;cases e0;cases dst with
 |none=>cases hd
 |some d =>
 cases hd
 unfold T0 at hk;split at hk
 ·rw[hx]at hk;unfold jg at hk;split at hk
  ·rename_i d0 L4 e1 e2;cases e1;split at hk
   ·rename_i e he;split at hk
    ·exact hk.elim
    ·rename_i k En;simp only at hk;split at hk
     ·rename_i sz es hr;split at hk
      ·rename_i hd;split at hk
       ·rename_i q1 q3;obtain⟨h1,hk⟩:=hk;have hr8:r<10000000∧0<KJ cx d:=by simpa using q3
        obtain⟨zZ,hz⟩:=hr8;refine⟨_,[(r,.dead),(KJ cx d,_)],hk,fun r' o' e=>?_,fun st2 ha K' h'=>?_⟩
        ·rcases AF.1 e with e | e
         ·cases e
          refine⟨.inr (.inl ⟨by omega,.inl ?_⟩),Ab ..⟩;rw[Nat.add_mul_mod_self_left,Nat.mod_eq_of_lt zZ]
         ·obtain e:=As.1 e;cases e;refine⟨.inr (.inl ⟨by omega,.inr ?_⟩),Ai _ (Ab ..)⟩;rw[Nat.add_mul_div_left _ _ (by decide),Nat.div_eq_of_lt zZ,Be]
        ·have o1:Ca st2.t hi=Ca st.t hi:=by
          cases hi with
          |none=>rfl
          |some z=>simp only[Ca];rw[ha.t z (by simp[Op.operands])]
         simp only[F8,hp];unfold T0;rw[ha.t x (by simp[Op.operands]),o1,hx,e2];unfold jg;simp only[he];split
         ·rename_i e0;rw[En]at e0;cases e0
         ·simp only[ha.h r (Ab ..),hr,ha.h (KJ cx d) (Ai _ (Ab ..)),hd,q1,q3];exact⟨h1,h'⟩
       ·exact hk.elim
      ·exact hk.elim
     ·exact hk.elim
   ·exact hk.elim
  ·exact hk.elim
 ·exact hk.elim
theorem Ws{s x:Operand}{Ha:Array TypeId}(hk:F8 cx true ⟨dst,.call ⟨.builtin .append,#[s,x],Ha⟩,ty,pos,after,gd⟩ st K)(hf:Fw cx ⟨dst,.call ⟨.builtin .append,#[s,x],Ha⟩,ty,pos,after,gd⟩ st=some (R,w)) :
  Eo cx ⟨dst,.call ⟨.builtin .append,#[s,x],Ha⟩,ty,pos,after,gd⟩ st R w K:=by
 have hk:Ga cx dst st.h .append Ha.toList [ev st.t s,ev st.t x] K:=hk;have hf:Wr cx dst (ev st.t s) (ev st.t x)=some (R,w):=hf;have hn:∀st2,IY ⟨dst,.call ⟨.builtin .append,#[s,x],Ha⟩,ty,pos,after,gd⟩ R st st2→ev st2.t s=ev st.t s∧ev st2.t x=ev st.t x:=fun st2 ha =>
  ⟨ha.t s (by simp[Op.operands,Call.operands]),ha.t x (by simp[Op.operands,Call.operands])⟩
 have GY:∀st2,IY ⟨dst,.call ⟨.builtin .append,#[s,x],Ha⟩,ty,pos,after,gd⟩ R st st2→∀K' : HK,Ga cx dst st2.h .append Ha.toList [ev st.t s,ev st.t x] K'→F8 cx true ⟨dst,.call ⟨.builtin .append,#[s,x],Ha⟩,ty,pos,after,gd⟩ st2 K':=by
  intro st2 ha K' h;rw[←(hn st2 ha).1,←(hn st2 ha).2]at h;exact h
 generalize Ha.toList=l at hk GY
 match l,hk,GY with
 | [t,t'],hk,GY =>
  simp only[Ga]at hk GY;split at hk
  ·rename_i ht;simp only[ht]at GY;unfold Io at hk GY;split at hk
   ·rename_i e he;simp only[he]at GY;split at hk
    ·exact hk.elim
    ·rename_i hz;simp only[hz]at GY;split at hk
     ·exact hk.elim
     ·rename_i k En;obtain⟨es2,q1,q2⟩:=Zx hk;have qo:∀d,R=d::dz (ev st.t x)→∀st2,IY ⟨dst,.call ⟨.builtin .append,#[s,x],Ha⟩,ty,pos,after,gd⟩ R st st2→∀r n,ev st.t x=.msl r n→st2.h r=st.h r:=fun d hR st2 ha r n e=>ha.h r (by rw[hR,e];simp[dz]);unfold Wr at hf;split at hf
      ·rename_i hs;obtain⟨d,cU,e0⟩:=IC hf;cases e0;rw[hs]at q1 GY;simp only at q1 GY;obtain⟨d',hd,v,y,q3,q4⟩:=Iq q1.2;rw[cU]at hd;cases hd;refine⟨v,some (d,y),q3,fun r o' e=>(by cases e;exact⟨rfl,Ab ..⟩),fun st2 Hz K' h'=>GY st2 Hz K' ?_⟩;split
       ·rename_i e0;rw[En]at e0;cases e0
       ·exact q2 st2.h (qo d rfl st2 Hz) _ ⟨q1.1,q4 st2.h (Hz.h d (Ab ..)) K' h'⟩
      ·rename_i GZ es hs;obtain⟨d,cU,e0⟩:=IC hf;cases e0;rw[hs]at q1 GY;simp only at q1 GY;split at q1
       ·rename_i h1;obtain⟨d',hd,v,y,q3,q4⟩:=Iq q1.2;rw[cU]at hd;cases hd;refine⟨v,some (d,y),q3,fun r o' e=>(by cases e;exact⟨rfl,Ab ..⟩),fun st2 Hz K' h'=>GY st2 Hz K' ?_⟩;split
        ·rename_i e0;rw[En]at e0;cases e0
        ·refine q2 st2.h (qo d rfl st2 Hz) _ ?_;simp only[h1];exact⟨q1.1,q4 st2.h (Hz.h d (Ab ..)) K' h'⟩
       ·exact q1.elim
      ·rename_i r GZ es hs;cases hf;rw[hs]at q1 GY;simp only at q1 GY;split at q1
       ·rename_i sz n hr;split at q1
        ·rename_i h1 h2;refine⟨_,some (r,_),q1.2,fun r o' e=>(by cases e;exact⟨rfl,Ab ..⟩),fun st2 Hz K' h'=>GY st2 Hz K' ?_⟩;split
         ·rename_i e0;rw[En]at e0;cases e0
         ·refine q2 st2.h (qo r rfl st2 Hz) _ ?_;simp only[Hz.h r (Ab ..),hr,h1,h2];exact⟨q1.1,h'⟩
        ·exact q1.elim
       ·exact q1.elim
      ·rename_i r n hs;cases hf;rw[hs]at q1 GY;simp only at q1 GY;split at q1
       ·rename_i sz es hr;split at q1
        ·rename_i h1;refine⟨_,some (r,_),q1.2,fun r o' e=>(by cases e;exact⟨rfl,Ab ..⟩),fun st2 Hz K' h'=>GY st2 Hz K' ?_⟩;split
         ·rename_i e0;rw[En]at e0;cases e0
         ·refine q2 st2.h (qo r rfl st2 Hz) _ ?_;simp only[Hz.h r (Ab ..),hr,h1];exact⟨q1.1,h'⟩
        ·exact q1.elim
       ·exact q1.elim
      ·cases hf
   ·exact hk.elim
  ·exact hk.elim
 | [],hk,_=>exact hk.elim
 | [_],hk,_=>exact hk.elim
 |_::_::_::_,hk,_=>exact hk.elim
theorem VG(T:GT)(t:Nat):Gr (Kt T t):=by
 unfold Kt
 repeat' split
 all_goals first | exact CF | exact Dz _
theorem TY(T:GT)(ty:Nat)(ok:Bool)(Cb:List (Value×AV))(kx:Value):Gr (Mm T ty ok Cb kx):=by
 unfold Mm
 repeat' split
 ·refine bH (M2 fun a=>DM (Dz _)) (DM ?_);intro K hk;obtain⟨v,h1,h2⟩:=VG T _ _ hk;exact⟨_,h1,fun K' h=>h2 _ h⟩
 ·exact bH (M2 fun a=>DM (Dz _)) (DM (VG T _))
 ·exact CF
theorem YR(T:GT)(ty:Nat)(sh:ES)(k:AV){F:Value→(AV→Prop)→Prop}(h:∀x,Gr (F x)):Gr fun K=>Kk T ty sh k fun kx=>F kx K:=by
 unfold Kk
 repeat' split
 all_goals first | exact CF | exact h _
theorem Wu{t:Nat}{m k:Operand}{ok:Bool}(hk:F8 cx true ⟨dst,.lookup t m k ok,ty,pos,after,gd⟩ st K)(hf:Fw cx ⟨dst,.lookup t m k ok,ty,pos,after,gd⟩ st=some (R,w)) :
  Eo cx ⟨dst,.lookup t m k ok,ty,pos,after,gd⟩ st R w K:=by
 simp only[F8]at hk;have hn:∀st2,IY ⟨dst,.lookup t m k ok,ty,pos,after,gd⟩ R st st2→ev st2.t m=ev st.t m∧ev st2.t k=ev st.t k:=fun st2 ha=>⟨ha.t m (by simp[Op.operands]),ha.t k (by simp[Op.operands])⟩;simp only[Fw]at hf;unfold MX at hk;split at hf
 ·rename_i sh Cb hm;cases hf;rw[hm]at hk;simp only at hk;exact .pick (YR _ _ _ _ fun _=>TY _ _ _ _ _) hk fun st2 ha K' h=>by simp only[F8,MX,hn st2 ha,hm];exact h
 ·rename_i r hm;cases hf;rw[hm]at hk;simp only at hk;split at hk
  all_goals first | exact hk.elim | (rename_i e;exact .pick (YR _ _ _ _ fun _=>TY _ _ _ _ _) hk fun st2 ha K' h=>by simp only[F8,MX,hn st2 ha,hm,ha.h r (Ab ..),e];exact h)
 ·cases hf
theorem jd(T:GT)(t:Nat)(h:Nat→HO)(x:AV):Gr (Rc T t h x):=by
 unfold Rc
 repeat' split
 all_goals first | exact CF | exact Dz _
theorem pj{T:GT}{t:Nat}{h h2:Nat→HO}{x:AV}(e:∀r,x=.mref r→h2 r=h r){K:AV→Prop}:Rc T t h2 x K=Rc T t h x K:=by
 cases x<;>first | rfl | skip
 rename_i r;unfold Rc;simp only[e r rfl]
theorem cM{x:Operand}{Ha:Array TypeId}(hk:F8 cx true ⟨dst,.call ⟨.builtin .len,#[x],Ha⟩,ty,pos,after,gd⟩ st K)(hf:Fw cx ⟨dst,.call ⟨.builtin .len,#[x],Ha⟩,ty,pos,after,gd⟩ st=some (R,w)) :
  Eo cx ⟨dst,.call ⟨.builtin .len,#[x],Ha⟩,ty,pos,after,gd⟩ st R w K:=by
 have hk:Ga cx dst st.h .len Ha.toList [ev st.t x] K:=hk;have hf:G6 cx dst (.builtin .len) st.t [ev st.t x]=some (R,w):=hf;have hn:∀st2,IY ⟨dst,.call ⟨.builtin .len,#[x],Ha⟩,ty,pos,after,gd⟩ R st st2→ev st2.t x=ev st.t x:=fun st2 ha=>ha.t x (by simp[Op.operands,Call.operands]);have GY:∀st2,IY ⟨dst,.call ⟨.builtin .len,#[x],Ha⟩,ty,pos,after,gd⟩ R st st2→∀K' : HK,Ga cx dst st2.h .len Ha.toList [ev st.t x] K'→F8 cx true ⟨dst,.call ⟨.builtin .len,#[x],Ha⟩,ty,pos,after,gd⟩ st2 K':=by
  intro st2 ha K' h;rw[←hn st2 ha]at h;exact h
 generalize Ha.toList=l at hk GY
 match l,hk,GY with
 | [t],hk,GY =>
  have hR:∀r,ev st.t x=.mref r→r∈R:=fun r e=>by
   rw[e]at hf;cases hf;exact Ab ..
  have hw:w=none:=by
   unfold G6 at hf;split at hf<;>first | (cases hf;rfl) | (rename_i e;cases e) | (rename_i e _;cases e) | skip
   all_goals (cases hf)
  subst hw;exact .pick (jd _ _ _ _) hk fun st2 ha K' h=>GY st2 ha K' (by
   simp only[Ga];rw[pj fun r e=>ha.h r (hR r e)];exact h)
 | [],hk,_=>exact hk.elim
 |_::_::_,hk,_=>exact hk.elim
end
end Go.Eng

namespace Go.Eng

theorem lP{l:List Nat}{n:Nat}(h:IU l n=true):n∈l:=by
 induction l with
 |nil=>cases h
 |cons a l ih =>
  unfold IU at h
  by_cases e:a=n
  ·exact e▸Ab ..
  ·rw[Cn e]at h;exact Ai _ (ih h)
theorem XA(G:Nat→HO):∀(σ:Hy) (h:Nat→HO),Ec σ=true→(fun i=>match Cr σ i with | some j=>G j | none=>h i)=Ij h (σ.map fun p=>(p.1,G p.2))
 | [],h,_=>rfl
 |(i,j)::r,h,hσ=>by
  unfold Ec at hσ;simp only[Af]at hσ;have ih:=XA G r (AZ h i (G j)) hσ.2;show _=Ij (AZ h i (G j)) (r.map fun p=>(p.1,G p.2));rw[←ih]
  funext i'
  have hn:Cr r i=none:=by
   have:=hσ.1.1.1
   cases e:Cr r i with
   |none=>rfl
   |some k=>rw[e]at this;simp at this
  by_cases e:i'=i
  ·subst e;have e1:Cr ((i',j)::r) i'=some j:=by unfold Cr;rw[Ds];rfl
   rw[e1,hn];show G j=AZ h i' (G j) i';unfold AZ;rw[Ds];rfl
  ·have e1:Cr ((i,j)::r) i'=Cr r i':=by
    show(bif Nat.beq i i' then some j else Cr r i')=_;rw[Cn (Uq e)];rfl
   rw[e1];cases Cr r i' with
   |some k=>rfl
   |none=>show h i'=AZ h i (G j) i';unfold AZ;rw[Cn e];rfl
theorem U2{σ:Hy}{d:Nat}(hσ:Ec σ=true){h h' : Nat→HO}:Eh σ d 0 h h'=Ij h (σ.map fun p=>(p.1,(h' p.2).ren (Fl σ d 0) h')):=by
 rw[←XA (fun j=>(h' j).ren (Fl σ d 0) h') σ h hσ]
 funext i
 unfold Eh;cases Cr σ i with
 |some j=>rfl
 |none =>
  have:(Nat.ble (BB d 0) i&&Nat.blt i (BB d 0))=false:=by
   rw[AI];simp only[Ri,Af,Dn,Cp];omega
  simp only[this]
section
variable {cx:Cx}{op:Op}{dst:Option Nat}{ty:Nat}{pos:String}{after:Array Edge}{gd:Option (Nat×Bool)}{st:St}{R:List Nat}{w:Option Nat}{K:HK}

theorem Eo.toL(h:Eo cx ⟨dst,op,ty,pos,after,gd⟩ st R w K):RJ cx ⟨dst,op,ty,pos,after,gd⟩ st R w K:=by
 obtain⟨v,e,h1,h2,h3⟩:=h;cases e with
 |none=>exact⟨v,[],h1,fun r o' e=>(by cases e),h3⟩
 |some p=>exact⟨v,[p],h1,fun r o' e=>by
   obtain rfl:=As.1 e;obtain⟨a,b⟩:=h2 r o' rfl;exact⟨by rw[a];exact .inl rfl,b⟩,h3⟩
theorem ZF{c:Call}(hk:F8 cx true ⟨dst,.call c,ty,pos,after,gd⟩ st K)(hf:Fw cx ⟨dst,.call c,ty,pos,after,gd⟩ st=some (R,w)):RJ cx ⟨dst,.call c,ty,pos,after,gd⟩ st R w K:=by
 obtain⟨pX,args,Ha⟩:=c;have Jy:∀st2,IY ⟨dst,.call ⟨pX,args,Ha⟩,ty,pos,after,gd⟩ R st st2→args.toList.map (ev st2.t)=args.toList.map (ev st.t):=fun st2 ha =>
  A8 fun x hx=>ha.t x (by simp only[Op.operands,Call.operands,Sg];exact .inr (by simpa using hx))
 cases pX with
 |invoke r m=>exact hk.elim
 |value f =>
  have hk:GA cx true dst st (ev st.t f) (args.toList.map (ev st.t)) K:=hk;have hf:G6 cx dst (.value f) st.t (args.toList.map (ev st.t))=some (R,w):=hf;unfold G6 at hf;unfold GA at hk;simp only at hf hk;have hn:=Jy;split at hf
  ·rename_i bq;rw[bq]at hk;cases hf;obtain⟨res,h1,h2⟩:=hk;refine Eo.toL ⟨res,none,h2,fun r o' e=>(by cases e),fun st2 ha K' h'=>?_⟩;show GA cx true dst st2 (ev st2.t f) (args.toList.map (ev st2.t)) K';rw[Jy st2 ha,ha.t f (by simp[Op.operands,Call.operands])];unfold GA;simp only[bq];refine⟨res,?_,h'⟩;rw[K5 (h:=st.h) (fun r hr=>ha.h r (Bz _ hr)),QD (h:=st.h) (fun r hr=>ha.h r (Bq _ hr))];exact h1
  ·rename_i bq;rw[bq]at hk;simp only at hk;cases dst with
   |none=>exact hk.elim
   |some d =>
    obtain⟨n,sz,es,h1,h2,h3⟩:=hk;have hf:some (BB d 0::(Xc (ev st.t f)++To (args.toList.map (ev st.t))),some (BB d 0))=some (R,w):=hf;cases hf;refine Eo.toL ⟨_,some (BB d 0,_),h3,fun r o' e=>(by cases e;exact⟨rfl,Ab ..⟩),fun st2 ha K' h'=>?_⟩;show GA cx true (some d) st2 (ev st2.t f) (args.toList.map (ev st2.t)) K';rw[Jy st2 ha,ha.t f (by simp[Op.operands,Call.operands])];unfold GA;simp only[bq];refine⟨n,sz,es,?_,?_,h'⟩
    ·have:DE st2.h d 1=DE st.h d 1:=by simp only[DE,ha.h (BB d 0) (Ab ..)]
     rw[this];exact h1
    ·rw[K5 (h:=st.h) (fun r hr=>ha.h r (Ai _ (Bz _ hr))),QD (h:=st.h) (fun r hr=>ha.h r (Ai _ (Bq _ hr)))];exact h2
  ·rename_i bq;rw[bq]at hk;have hk:Rv cx 0 dst st.h (ev st.t f) (args.toList.map (ev st.t)) K:=hk;split at hf
   ·rename_i r n l hl;cases hf;have Ik:=hk;unfold Rv at Ik;rw[hl]at Ik;split at Ik
    ·rename_i d0 f0 r0 n0 l0 e1 e2 z1 z2;cases e2;split at Ik
     ·rename_i vs j7;split at Ik
      ·rename_i sz es hr;obtain⟨n',ET,h1,h2⟩:=Ik;refine Eo.toL ⟨_,some (r,_),h2,fun r o' e=>(by cases e;exact⟨rfl,Ab ..⟩),fun st2 ha K' h'=>?_⟩;show GA cx true _ st2 (ev st2.t f) (args.toList.map (ev st2.t)) K';rw[Jy st2 ha,ha.t f (by simp[Op.operands,Call.operands]),hl,e1];unfold GA;simp only[bq];unfold Pk;simp only;unfold Rv;simp only[j7,ha.h r (Ab ..),hr];exact⟨n',ET,h1,h'⟩
      ·exact Ik.elim
     ·exact Ik.elim
    ·exact Ik.elim
   ·cases hf
  ·rename_i k bq;rw[bq]at hk;cases hb:Nat.beq k 1 with
   |true =>
    have UA:Nat.beq (k+1) 2=true:=hb;have hk:Uh cx dst st (ev st.t f) (args.toList.map (ev st.t)) K:=by
     have Ik:(match Nat.beq (k+1) 2 with | true=>Uh cx dst st (ev st.t f) (args.toList.map (ev st.t)) K | false=>match Nat.beq (k+1) 3 with | true=>QK cx dst st (ev st.t f) (args.toList.map (ev st.t)) K | false=>Pk cx (k+1) dst st (ev st.t f) (args.toList.map (ev st.t)) K):=hk;rw[UA]at Ik;exact Ik
    rw[hb]at hf;cases dst with
    |none=>exact hk.elim
    |some d =>
     obtain⟨sz,es,h1,h2,h3⟩:=hk;have hf:some (BB d 0::(Xc (ev st.t f)++To (args.toList.map (ev st.t))),some (BB d 0))=some (R,w):=hf;cases hf;refine Eo.toL ⟨_,some (BB d 0,_),h3,fun r o' e=>(by cases e;exact⟨rfl,Ab ..⟩),fun st2 ha K' h'=>?_⟩;show GA cx true (some d) st2 (ev st2.t f) (args.toList.map (ev st2.t)) K';rw[Jy st2 ha,ha.t f (by simp[Op.operands,Call.operands])];unfold GA;simp only[bq,UA];refine⟨sz,es,?_,?_,h'⟩
     ·have:DE st2.h d 1=DE st.h d 1:=by simp only[DE,ha.h (BB d 0) (Ab ..)]
      rw[this];exact h1
     ·rw[K5 (h:=st.h) (fun r hr=>ha.h r (Ai _ (Bz _ hr))),QD (h:=st.h) (fun r hr=>ha.h r (Ai _ (Bq _ hr)))];exact h2
   |false =>
    have UA:Nat.beq (k+1) 2=false:=hb;rw[hb]at hf;have Ik:(match Nat.beq (k+1) 2 with | true=>Uh cx dst st (ev st.t f) (args.toList.map (ev st.t)) K | false=>match Nat.beq (k+1) 3 with | true=>QK cx dst st (ev st.t f) (args.toList.map (ev st.t)) K | false=>Pk cx (k+1) dst st (ev st.t f) (args.toList.map (ev st.t)) K):=hk;rw[UA]at Ik;cases hc:Nat.beq k 2 with
    |true =>
     have PT:Nat.beq (k+1) 3=true:=hc;rw[hc]at hf;simp only[PT]at Ik;have hf:gi (args.toList.map (ev st.t))=some (R,w):=hf;unfold gi at hf;unfold QK at Ik;split at hf
     ·rename_i vs j7;cases hf;split at Ik
      ·rename_i l jO e1 e2 z1 z2;rw[j7]at e2;cases e2;split at Ik
       ·rename_i r sz es mF n e3 e4;obtain⟨⟨rfl,rfl⟩,v,ET,n',h1,h2⟩:=Ik;refine⟨_,[(1001,_),(1000,_)],h2,fun r' o' e=>?_,fun st2 ha K' h'=>?_⟩
        ·rcases AF.1 e with e | e
         ·cases e
          exact⟨.inr (.inl ⟨by decide,.inr (by decide)⟩),by simp⟩
         ·obtain e:=As.1 e;cases e;exact⟨.inr (.inl ⟨by decide,.inl (by decide)⟩),by simp⟩
        show GA cx true _ st2 (ev st2.t f) (args.toList.map (ev st2.t)) K';rw[Jy st2 ha,ha.t f (by simp[Op.operands,Call.operands]),e1];unfold GA;simp only[bq,UA,PT];unfold QK;simp only[j7,ha.h 1000 (by simp),ha.h 1001 (by simp),e3,e4];exact⟨⟨trivial,trivial⟩,v,ET,n',h1,h'⟩
       ·exact Ik.elim
      ·exact Ik.elim
     ·cases hf
    |false =>
    have PT:Nat.beq (k+1) 3=false:=hc;rw[hc]at hf;have ZM:Pk cx (k+1) dst st (ev st.t f) (args.toList.map (ev st.t)) K:=by
     simp only[PT]at Ik;exact Ik
    have oJ:ge k dst (args.toList.map (ev st.t))=some (R,w):=hf;unfold ge at oJ;unfold Pk at ZM;cases he:Nat.beq k 3 with
    |true =>
     have eY:Nat.beq (k+1) 4=true:=he;rw[he]at oJ;rw[eY]at ZM;have oJ:some (kP,some Wd)=some (R,w):=oJ;have ZM:XP cx dst st (ev st.t f) (args.toList.map (ev st.t)) K:=ZM;cases oJ;unfold XP at ZM;split at ZM
     ·rename_i d f' e2 _ _ _;obtain⟨σ,H0,Hn,args',res,g1,g2,g3,g4⟩:=ZM;simp only[Af]at g2;refine⟨_,σ.map fun p=>(p.1,(Ag Hn Aa p.2).ren (Fl σ d 0) (Ag Hn Aa)),(U2 (h:=st.h) (h':=Ag Hn Aa) (d:=d) g2.1.1)▸g4,fun r' o' e=>?_,fun st2 ha K' h'=>?_⟩
      ·obtain⟨p,hp,e⟩:=Ar.1 e;cases e;exact⟨.inr (.inr rfl),lP (AW.1 g2.2 p hp)⟩
      ·show GA cx true _ st2 (ev st2.t f) (args.toList.map (ev st2.t)) K';rw[Jy st2 ha,ha.t f (by simp[Op.operands,Call.operands])];unfold GA;simp only[bq,UA,PT];unfold Pk;simp only[eY];unfold XP;rw[e2];refine⟨σ,H0,Hn,args',res,fun h2 hh=>g1 h2 fun r hr=>(hh r hr).trans (ha.h r hr),by simp only[Af];exact g2,g3,?_⟩;rw[U2 (h:=st2.h) (h':=Ag Hn Aa) (d:=d) g2.1.1];exact h'
     ·exact ZM.elim
    |false =>
    have eY:Nat.beq (k+1) 4=false:=he;rw[he]at oJ;rw[eY]at ZM;have hf:be dst (args.toList.map (ev st.t))=some (R,w):=oJ;have hk:Rv cx (k+1) dst st.h (ev st.t f) (args.toList.map (ev st.t)) K:=ZM;obtain⟨d,r,n,l,rfl,hl,e0⟩:=ZD hf;cases e0;unfold Rv at hk;rw[hl]at hk;split at hk
    ·rename_i d0 f0 r0 n0 l0 e9 e1 e2;cases e9;cases e2;split at hk
     ·rename_i vs j7;split at hk
      ·rename_i sz es hr;obtain⟨n',ET,h0,h1,h2⟩:=hk;have wh:=h0;simp only[Af,Cp]at wh;refine⟨_,[(r,.dead),(BB d 0,_)],h2,fun r' o' e=>?_,fun st2 ha K' h'=>?_⟩
       ·rcases AF.1 e with e | e
        ·cases e
         refine⟨.inr (.inl ⟨by unfold BB;omega,.inl ?_⟩),Ab ..⟩;rw[Nat.add_mul_mod_self_left,Nat.mod_eq_of_lt wh.1.2]
        ·obtain e:=As.1 e;cases e;refine⟨.inr (.inl ⟨by unfold BB;omega,.inr ?_⟩),Ai _ (Ab ..)⟩;rw[Nat.add_mul_div_left _ _ (by decide),Nat.div_eq_of_lt wh.1.2,Be]
       show GA cx true _ st2 (ev st2.t f) (args.toList.map (ev st2.t)) K';rw[Jy st2 ha,ha.t f (by simp[Op.operands,Call.operands]),hl,e1];unfold GA;simp only[bq,UA,PT];unfold Pk;simp only[eY];unfold Rv;simp only[j7,ha.h r (Ab ..),hr]
       have:DE st2.h d 1=DE st.h d 1:=by simp only[DE,ha.h (BB d 0) (Ai _ (Ab ..))]
       exact⟨n',ET,by rw[this];exact h0,h1,h'⟩
      ·exact hk.elim
     ·exact hk.elim
    ·exact hk.elim
 |builtin b =>
  refine Eo.toL ?_;have mm:∀f:Int→Int→Int,(∀(d:Option Nat) (h:Nat→HO) (Ha:List Nat) (args:List AV) (K:HK),Ga cx d h b Ha args K=(match args with | [x,y]=>lR f x y fun v=>K v h | _=>False))→R=[]∧w=none→Eo cx ⟨dst,.call ⟨.builtin b,args,Ha⟩,ty,pos,after,gd⟩ st R w K:=by
   rintro f hb ⟨rfl,rfl⟩
   have hk:Ga cx dst st.h b Ha.toList (args.toList.map (ev st.t)) K:=hk;rw[hb]at hk;split at hk
   ·rename_i x y e;refine .pick (md f x y) hk fun st2 ha K' h=>?_;show Ga cx dst st2.h b Ha.toList (args.toList.map (ev st2.t)) K';rw[hb,Jy st2 ha,e];exact h
   ·exact hk.elim
  cases b
  case max=>exact mm max (fun d h Ha args K=>by cases args with | nil=>rfl | cons x l=>cases l with | nil=>rfl | cons y l=>cases l<;>rfl) (by
   have hf:G6 cx dst (.builtin .max) st.t (args.toList.map (ev st.t))=some (R,w):=hf;simp only[G6]at hf;cases hf;exact⟨rfl,rfl⟩)
  case min=>exact mm min (fun d h Ha args K=>by cases args with | nil=>rfl | cons x l=>cases l with | nil=>rfl | cons y l=>cases l<;>rfl) (by
   have hf:G6 cx dst (.builtin .min) st.t (args.toList.map (ev st.t))=some (R,w):=hf;simp only[G6]at hf;cases hf;exact⟨rfl,rfl⟩)
  case append =>
   obtain⟨l⟩:=args
   match l,hk,hf with
   | [s,x],hk,hf=>exact Ws hk hf
   | [],hk,hf=>cases Ha;exact hk.elim
   | [_],hk,hf=>exact hk.elim
   |_::_::_::_,hk,hf=>exact hk.elim
  case len =>
   obtain⟨l⟩:=args
   match l,hk,hf with
   | [x],hk,hf=>exact cM hk hf
   | [],hk,hf=>exact hk.elim
   |_::_::_,hk,hf=>exact hk.elim
  all_goals exact hk.elim
theorem Zf{o:Oper}(hc:∀c,o.op≠.call c)(hs:(∃t x lo hi mx,o.op=.slice t x lo hi mx)→NN cx.pl.tok o.dst=none)(hk:F8 cx true o st K)(hf:Fw cx o st=some (R,w)):Eo cx o st R w K:=by
 obtain⟨dst,op,ty,pos,after,gd⟩:=o;cases op with
 |call c=>exact absurd rfl (hc c)
 |alloc e=>exact XL hk hf
 |box e x=>exact cL hk hf
 |buildSlice t n ps=>exact PS hk hf
 |makeSlice t n c=>exact Ry hk hf
 |makeMap t r=>exact Ux hk hf
 |store t p x=>exact XM hk hf
 |mapUpdate t m k x=>exact Rz hk hf
 |makeFunc fn first cap=>exact Tb hk hf
 |load t p=>exact ZG hk hf
 |assign x=>exact Wt hk hf
 |slice t x lo hi mx=>exact QX (hs ⟨t,x,lo,hi,mx,rfl⟩) hk hf
 |lookup t x i ok=>exact Wu hk hf
 |move x =>
  cases hf
  exact .pick (Dz _) hk fun st2 ha K' h=>by simp only[F8,ha.t x (by simp[Op.operands])];exact h
 |pick c a b =>
  cases hf
  exact .pick (d5 _ _ _) hk fun st2 ha K' h=>by simp only[F8,ha.t c (by simp[Op.operands]),ha.t a (by simp[Op.operands]),ha.t b (by simp[Op.operands])];exact h
 |nilCheck x =>
  cases hf
  exact .pick (je _) hk fun st2 ha K' h=>by simp only[F8,ha.t x (by simp[Op.operands])];exact h
 |binOp op t x y u =>
  simp only[Fw]at hf;split at hf
  ·cases hf
  ·rename_i hx;cases hf;exact .pick (dZ _ _ _ _ _ _ hx) hk fun st2 ha K' h=>by simp only[F8,ha.t x (by simp[Op.operands]),ha.t y (by simp[Op.operands])];exact h
 |unOp op t x =>
  cases hf
  exact .pick (d6 _ _) hk fun st2 ha K' h=>by simp only[F8,ha.t x (by simp[Op.operands])];exact h
 |convert s t x =>
  cases hf
  exact .pick (d4 _ _ _ _) hk fun st2 ha K' h=>by simp only[F8,ha.t x (by simp[Op.operands])];exact h
 |fieldAddr s x f =>
  cases hf
  exact .pick (aw _ _ _ _) hk fun st2 ha K' h=>by simp only[F8,ha.t x (by simp[Op.operands])];exact h
 |field s x f =>
  cases hf
  exact .pick (YQ _ _ _ _) hk fun st2 ha K' h=>by simp only[F8,ha.t x (by simp[Op.operands])];exact h
 |indexAddr t x i =>
  cases hf
  exact .pick (TZ _ _ _ _) hk fun st2 ha K' h=>by simp only[F8,ha.t x (by simp[Op.operands]),ha.t i (by simp[Op.operands])];exact h
 |index t x i =>
  cases hf
  exact .pick (ax _ _ _ _) hk fun st2 ha K' h=>by simp only[F8,ha.t x (by simp[Op.operands]),ha.t i (by simp[Op.operands])];exact h
 |extract x i =>
  cases hf
  exact .pick (WV _ _) hk fun st2 ha K' h=>by simp only[F8,ha.t x (by simp[Op.operands])];exact h
 |build t ps =>
  cases hf
  refine .pick (au _ _ _ _) hk fun st2 ha K' h=>?_;have hx:∀p∈ps.toList,ev st2.t p.2=ev st.t p.2:=fun p hp=>ha.t p.2 (by
   simp only[Op.operands,List.mem_toArray];exact Ar.2 ⟨p,hp,rfl⟩)
  simp only[F8];have fill:∀(pl:Nat→Option (Nat×Nat)) (l:List (Nat×Operand)) (cs:List AV) (K:List AV→Prop),(∀p∈l,ev st2.t p.2=ev st.t p.2)→KL pl cs st2.t l K=KL pl cs st.t l K:=by
   intro pl l
   induction l with
   |nil=>intro cs K _;rfl
   |cons p l ih =>
    intro cs K hp;obtain⟨i,x⟩:=p;have h1:ev st2.t x=ev st.t x:=hp (i,x) (Ab ..);have h2:∀cs,KL pl cs st2.t l K=KL pl cs st.t l K:=fun cs=>ih cs K (fun p oZ=>hp p (Ai _ oZ));simp only[KL,h1,h2]
  unfold PH at h⊢;simp only[fill _ _ _ _ hx];exact h
 |_=>cases hf
theorem cf{o:Oper}(hk:F8 cx true o st K)(hf:Fw cx o st=some (R,w)):RJ cx o st R w K:=by
 obtain⟨dst,op,ty,pos,after,gd⟩:=o
 by_cases h:∃c,op=.call c
 ·obtain⟨c,rfl⟩:=h;exact ZF hk hf
 ·by_cases h2:∃t x lo hi mx,op=.slice t x lo hi mx
  ·obtain⟨t,x,lo,hi,mx,rfl⟩:=h2;cases hp:NN cx.pl.tok dst with
   |none=>exact Eo.toL (QX hp hk hf)
   |some p=>exact cN hp hk hf
  ·exact Eo.toL (Zf (fun c e=>h ⟨c,e⟩) (fun e=>absurd e h2) hk hf)
end
end Go.Eng

namespace Go.Eng

theorem Ve{cx:Cx}{o:Oper}{st st2:St}(h:∀x∈o.op.operands,ev st2.t x=ev st.t x):Fw cx o st2=Fw cx o st:=by
 obtain⟨dst,op,ty,pos,after,gd⟩:=o;cases op with
 |call c =>
  obtain⟨pX,args,Ha⟩:=c;have ha:args.toList.map (ev st2.t)=args.toList.map (ev st.t):=A8 fun x hx=>h x (by simp only[Op.operands,Call.operands,Sg];exact .inr (by simpa using hx));simp only[Fw];rw[ha];cases pX with
  |value f =>
   have hf:ev st2.t f=ev st.t f:=h f (by simp[Op.operands,Call.operands]);simp only[G6,hf]
  |builtin b =>
   generalize args.toList.map (ev st.t)=l
   match l with
   | []=>cases b<;>rfl
   | [x]=>cases b<;>cases x<;>rfl
   | [x,y]=>cases b<;>cases x<;>rfl
   |x::_::_::_=>cases b<;>cases x<;>rfl
  |invoke r m=>rfl
 |box e x=>simp only[Fw,h x (by simp[Op.operands])]
 |buildSlice t n ps =>
  have hx:ps.toList.map (fun p=>ev st2.t p.2)=ps.toList.map (fun p=>ev st.t p.2):=A8 fun p hp=>h p.2 (by
   simp only[Op.operands,List.mem_toArray];exact Ar.2 ⟨p,hp,rfl⟩)
  simp only[Fw,hx]
 |store t p x=>simp only[Fw,h p (by simp[Op.operands]),h x (by simp[Op.operands])]
 |mapUpdate t m k x=>simp only[Fw,h m (by simp[Op.operands]),h x (by simp[Op.operands])]
 |makeFunc fn first cap =>
  have hx:cap.toList.map (ev st2.t)=cap.toList.map (ev st.t):=A8 fun x hx=>h x (by simp only[Op.operands,Sg];exact .inr (by simpa using hx));simp only[Fw,hx]
 |load t p=>simp only[Fw,h p (by simp[Op.operands])]
 |assign x=>simp only[Fw,h x (by simp[Op.operands])]
 |binOp op t x y u=>simp only[Fw,h x (by simp[Op.operands])]
 |slice t x lo hi mx=>simp only[Fw,h x (by simp[Op.operands])]
 |lookup t x i ok=>simp only[Fw,h x (by simp[Op.operands])]
 |_=>rfl

def KB(ops:Array Oper)(o:Oper)(st st2:St):Prop:=∀d∈o.looksAt ops,st2.t d=st.t d
theorem KB.operands{ops:Array Oper}{o:Oper}{st st2:St}(h:KB ops o st st2):∀x∈o.op.operands,ev st2.t x=ev st.t x:=fun x hx=>by
 cases x with
 |tmp t=>exact h t (Bz _ (List.mem_filterMap.2 ⟨.tmp t,by simpa using hx,rfl⟩))
 |_=>rfl
theorem VB(ops:Array Oper)(j:Nat):Km ops.toList j=(ops[j]?).bind (·.dst):=by
 have:∀(l:List Oper) (j:Nat),Km l j=(l[j]?).bind (·.dst):=by
  intro l
  induction l with
  |nil=>intro j;simp[Km]
  |cons o l ih =>
   intro j;cases j with
   |zero=>simp[Km]
   |succ j=>simp[Km,ih]
 rw[this];simp
theorem KB.guard{ops:Array Oper}{o:Oper}{st st2:St}(h:KB ops o st st2){j:Nat}{b:Bool}(hg:o.guard=some (j,b)){d:Nat}(hd:Km ops.toList j=some d):st2.t d=st.t d :=
 h d (Bq _ (by rw[hg];simp only;rw[←VB,hd];simp))

def St.after(st:St)(o:Oper)(v:AV)(e:List (Nat×HO)):St:=st.put o.dst v (Ij st.h e)

def PD(cx:Cx)(ops:Array Oper)(o:Oper)(st:St)(f:FK)(v:AV)(e:List (Nat×HO)):Prop :=
 (∀r o',(r,o')∈e→Si f.2 r∧r∈f.1)∧∀st2,KB ops o st st2→(∀r∈f.1,st2.h r=st.h r)→∀K:St→Prop,K (st2.after o v e)→I0 cx true ops.toList o st2 K

theorem Ta{cx:Cx}{ops:Array Oper}{o:Oper}{st st2:St}(h:KB ops o st st2):Ny cx ops.toList o st2=Ny cx ops.toList o st:=by
 unfold Ny;split
 ·exact Ve h.operands
 ·rename_i j want hg;split
  ·rfl
  ·rename_i d hd;simp only[h.guard hg hd];split<;>first | exact Ve h.operands | rfl

theorem Oz{cx:Cx}{ops:Array Oper}{o:Oper}{st:St}{f:FK}{K:St→Prop}(hk:I0 cx true ops.toList o st K)(hf:Ny cx ops.toList o st=some f) :
  ∃v e,PD cx ops o st f v e∧K (st.after o v e):=by
 obtain⟨R,w⟩:=f;have skip:R=[]∧w=none→K (st.put o.dst (.v undef) st.h)→(∀st2,KB ops o st st2→∀K:St→Prop,K (st2.put o.dst (.v undef) st2.h)→I0 cx true ops.toList o st2 K)→∃v e,PD cx ops o st (R,w) v e∧K (st.after o v e):=by
  rintro⟨rfl,rfl⟩ h1 h2
  exact⟨.v undef,[],⟨fun r o' e=>(by cases e),fun st2 hl _ K h=>h2 st2 hl K h⟩,h1⟩
 have run:Fw cx o st=some (R,w)→F8 cx true o st (fun v h=>K (st.put o.dst v h))→(∀st2,KB ops o st st2→∀K:St→Prop,F8 cx true o st2 (fun v h=>K (st2.put o.dst v h))→I0 cx true ops.toList o st2 K)→∃v e,PD cx ops o st (R,w) v e∧K (st.after o v e):=by
  intro hf hk h2;obtain⟨v,e,q1,q2,q3⟩:=cf hk hf;exact⟨v,e,⟨q2,fun st2 hl hh K h=>h2 st2 hl K (q3 st2 ⟨hl.operands,hh⟩ _ h)⟩,q1⟩
 unfold I0 at hk;unfold Ny at hf;cases hg:o.guard with
 |none =>
  rw[hg]at hk hf;exact run hf hk (fun st2 hl K h=>by unfold I0;rw[hg];exact h)
 |some p =>
  obtain⟨j,want⟩:=p;rw[hg]at hk hf;simp only at hk hf;cases hd:Km ops.toList j with
  |none=>rw[hd]at hk;exact hk.elim
  |some d =>
   rw[hd]at hk hf;simp only at hk hf;have he:∀st2,KB ops o st st2→st2.t d=st.t d:=fun st2 hl=>hl.guard hg hd;generalize hx:st.t d=x at hk hf he;split at hk
   ·exact run hf hk (fun st2 hl K h=>by unfold I0;simp only[hg,hd,he st2 hl];exact h)
   ·exact run hf hk (fun st2 hl K h=>by unfold I0;simp only[hg,hd,he st2 hl];exact h)
   ·exact skip (by cases hf;exact⟨rfl,rfl⟩) hk (fun st2 hl K h=>by unfold I0;simp only[hg,hd,he st2 hl];exact h)
   ·exact skip (by cases hf;exact⟨rfl,rfl⟩) hk (fun st2 hl K h=>by unfold I0;simp only[hg,hd,he st2 hl];exact h)
   ·exact skip (by cases hf;exact⟨rfl,rfl⟩) hk (fun st2 hl K h=>by unfold I0;simp only[hg,hd,he st2 hl];exact h)
   ·exact hk.elim

def qD(cx:Cx)(ops:Array Oper)(FT:Nat→FK)(i:Nat)(K:St→Prop)(st:St):Prop :=
 match ops[i]? with
 |none=>K st
 |some o=>Ny cx ops.toList o st=some (FT i)∧I0 cx true ops.toList o st K
def Xh(cx:Cx)(ops:Array Oper)(FT:Nat→FK)(K:St→Prop):Nat→Array Bool→St→Prop
 |0,listed,st=>Region.ready .any ops listed=[]∧K st
 |fuel+1,listed,st =>
  (Region.ready .any ops listed=[]→K st)∧∀i∈Region.ready .any ops listed,qD cx ops FT i (Xh cx ops FT K fuel (listed.setIfInBounds i true)) st

theorem eK(t:Nat→AV){d d' : Nat}(h:d'≠d)(v v' : AV):H3 (H3 t d v) d' v'=H3 (H3 t d' v') d v:=by
 funext i
 unfold H3
 by_cases h1:i=d<;>by_cases h2:i=d'
 ·exact absurd (h2.symm.trans h1) h
 ·subst h1;simp[Cn h2]
 ·subst h2;simp[Cn h1]
 ·simp[Cn h1,Cn h2]
theorem cW(t:Nat→HO){d d' : Nat}(h:d'≠d)(v v' : HO):AZ (AZ t d v) d' v'=AZ (AZ t d' v') d v:=by
 funext i
 unfold AZ
 by_cases h1:i=d<;>by_cases h2:i=d'
 ·exact absurd (h2.symm.trans h1) h
 ·subst h1;simp[Cn h2]
 ·subst h2;simp[Cn h1]
 ·simp[Cn h1,Cn h2]
theorem O7{l:List Nat}{n:Nat}(h:n∈l):IU l n=true:=by
 induction l with
 |nil=>cases h
 |cons a l ih =>
  unfold IU
  by_cases e:a=n
  ·subst e;simp
  ·rw[Cn e];exact ih ((AF.1 h).resolve_left (fun q=>e q.symm))
theorem Yy{l:List Nat}{n:Nat}(h:IU l n=true):n∈l:=by
 induction l with
 |nil=>cases h
 |cons a l ih =>
  unfold IU at h
  by_cases e:a=n
  ·exact e▸Ab ..
  ·rw[Cn e]at h;exact Ai _ (ih h)
theorem YK{l:List Nat}{x:Nat}(h:YI l x=true):∀r,Si (some x) r→r∉l:=by
 intro r hc hr;unfold YI at h
 by_cases hx:x=Wd
 ·subst hx;rw[Ds,JY]at h;cases l with
  |nil=>cases hr
  |cons a l=>cases h
 rw[Cn hx,Ef]at h;simp only[Af,CU,Cy,Cp]at h;rcases hc with rfl | ⟨h1,h2⟩ | hc
 ·rw[O7 hr]at h;cases h.1
 ·rcases h.2 with h3 | h3
  ·omega
  ·rcases h2 with rfl | rfl
   ·rw[O7 hr]at h3;cases h3.1
   ·rw[O7 hr]at h3;cases h3.2
 ·exact hx hc
theorem cz{a b:FK}(h:SL a b=true):(∀r,Si a.2 r→r∉b.1)∧∀r,Si b.2 r→r∉a.1:=by
 obtain⟨a1,a2⟩:=a;obtain⟨b1,b2⟩:=b;simp only[SL,Af]at h;refine⟨fun r e=>?_,fun r e=>?_⟩
 ·cases a2 with
  |none=>exact e.elim
  |some x=>exact YK h.1 r e
 ·cases b2 with
  |none=>exact e.elim
  |some x=>exact YK h.2 r e

section
variable {cx:Cx}{ops:Array Oper}{FT:Nat→FK}
theorem Re{oi oj:Oper}(h:∀d,oi.dst=some d→d∉oj.looksAt ops)(st:St)(v:AV)(e:List (Nat×HO)):KB ops oj st (st.after oi v e):=by
 intro d hd;cases hdst:oi.dst with
 |none=>simp[St.after,St.put,hdst]
 |some d' =>
  have:d≠d':=fun q=>h d' hdst (q▸hd)
  simp[St.after,St.put,hdst,H3,Cn this]
theorem KB.symm{o:Oper}{st st2:St}(h:KB ops o st st2):KB ops o st2 st:=fun d hd=>(h d hd).symm
theorem bn{o:Oper}{st:St}{v:AV}{e:List (Nat×HO)}:(st.after o v e).h=Ij st.h e:=by
 unfold St.after St.put;cases o.dst<;>rfl
theorem PO{r:Nat}:∀{e:List (Nat×HO)} {h:Nat→HO},(∀o',(r,o')∉e)→Ij h e r=h r
 | [],_,_=>rfl
 |p::e,h,hr=>by
  have:r≠p.1:=fun q=>hr p.2 (by rw[q];exact Ab ..)
  show Ij (AZ h p.1 p.2) e r=h r;rw[PO fun o' ho=>hr o' (Ai _ ho),B9 _ _ _ _ this]
theorem XB{r:Nat}{o:HO}:∀{e:List (Nat×HO)} {h:Nat→HO},(∀r' o',(r',o')∈e→r'≠r)→Ij (AZ h r o) e=AZ (Ij h e) r o
 | [],_,_=>rfl
 |p::e,h,hr=>by
  show Ij (AZ (AZ h r o) p.1 p.2) e=AZ (Ij (AZ h p.1 p.2) e) r o;rw[cW h (hr p.1 p.2 (Ab ..)),XB fun r' o' ho=>hr r' o' (Ai _ ho)]
theorem Vc:∀{e e' : List (Nat×HO)} {h:Nat→HO},(∀r o r' o',(r,o)∈e→(r',o')∈e'→r'≠r)→Ij (Ij h e) e'=Ij (Ij h e') e
 | [],_,_,_=>rfl
 |p::e,e',h,hd=>by
  show Ij (Ij (AZ h p.1 p.2) e) e'=Ij (AZ (Ij h e') p.1 p.2) e;rw[←XB fun r' o' ho=>hd p.1 p.2 r' o' (Ab ..) ho,Vc fun r o r' o' h1 h2=>hd r o r' o' (Ai _ h1) h2]
theorem Ze{oi oj:Oper}{st:St}{v v' : AV}{e e' : List (Nat×HO)}(h1:∀d,oi.dst=some d→oj.dst≠some d)(h2:∀r o r' o',(r,o)∈e→(r',o')∈e'→r'≠r) :
  (st.after oi v e).after oj v' e'=(st.after oj v' e').after oi v e:=by
 have hh:Ij (Ij st.h e) e'=Ij (Ij st.h e') e:=Vc h2;have key:∀o:Oper,∀v e,∀st:St,st.after o v e=⟨match o.dst with | none=>st.t | some d=>H3 st.t d v,Ij st.h e⟩:=fun o v e st=>by
  unfold St.after St.put;cases o.dst<;>rfl
 rw[key,key,key,key];simp only[hh];cases hi:oi.dst with
 |none=>rfl
 |some d =>
  cases hj:oj.dst with
  |none=>rfl
  |some d' =>
   have DB:d'≠d:=fun q=>h1 d hi (by rw[hj,q]);simp only[eK st.t DB v v']


theorem Zb{K:St→Prop}{i:Nat}{oi:Oper}{v:AV}{e:List (Nat×HO)}(hi:ops[i]?=some oi)(D:Nat→Prop)
  (hD:∀j,D j→∃oj,ops[j]?=some oj∧∃ed∈oj.after,Region.binds .any ed=true∧(ed.on=i∨D ed.on)) :
  ∀(fuel:Nat) (listed:Array Bool) (st:St),
   (∀j oj,ops[j]?=some oj→j≠i→listed.getD j true=false→¬D j→oi.apart ops oj=true∧SL (FT i) (FT j)=true) →
   i∈Region.ready .any ops listed→(∀j,D j→listed.getD j true=false)→Ny cx ops.toList oi st=some (FT i)→PD cx ops oi st (FT i) v e →
   Xh cx ops FT K fuel (listed.setIfInBounds i true) (st.after oi v e)→Xh cx ops FT K (fuel+1) listed st:=by
 have here:∀(fuel:Nat) (listed:Array Bool) (st:St),Ny cx ops.toList oi st=some (FT i)→PD cx ops oi st (FT i) v e →
   Xh cx ops FT K fuel (listed.setIfInBounds i true) (st.after oi v e)→qD cx ops FT i (Xh cx ops FT K fuel (listed.setIfInBounds i true)) st:=by
  intro fuel listed st hf hy H;unfold qD;rw[hi];exact⟨hf,hy.2 st (fun _ _=>rfl) (fun _ _=>rfl) _ H⟩
 intro fuel
 induction fuel with
 |zero =>
  intro listed st _ hr _ hf hy H;refine⟨fun h=>(by rw[h]at hr;cases hr),fun j hj=>?_⟩
  by_cases IL:j=i
  ·subst IL;exact here 0 listed st hf hy H
  ·have:=ready_mono hj IL
   rw[H.1]at this;cases this
 |succ fuel ih =>
  intro listed st Aa hr zw hf hy H;refine⟨fun h=>(by rw[h]at hr;cases hr),fun j hj=>?_⟩
  by_cases IL:j=i
  ·subst IL;exact here (fuel+1) listed st hf hy H
  ·have h1:=H.2 j (ready_mono hj IL);obtain⟨r8,oj,lq,GM⟩:=mem_ready.1 hj;have rk:∀k,listed.getD k true=false→listed.getD k false=true→False:=fun k h0 h1=>by
    rcases BZ k listed.size with h' | h'
    ·simp[h']at h0 h1;rw[h0]at h1;cases h1
    ·simp[Array.getElem?_eq_none h']at h1
   have ud:¬D j:=fun t7=>by
    obtain⟨oj',m6,ed,he,hb,hon⟩:=hD j t7;rw[lq]at m6;cases m6;have hl:=GM ed he hb;rcases hon with h2 | h2
    ·exact rk _ (by rw[h2];exact(mem_ready.1 hr).1) hl
    ·exact rk _ (zw _ h2) hl
   obtain⟨rz,t7⟩:=Aa j oj lq IL r8 ud;obtain⟨a1,a2,a3⟩:=Oper.apart_spec rz;obtain⟨d1,d2⟩:=cz t7;unfold qD at h1⊢;rw[lq]at h1⊢;obtain⟨zK,hkj⟩:=h1;have zU:=Re (ops:=ops) a1 st v e;obtain⟨vj,ej,hyj,hK⟩:=Oz hkj zK;have rV:∀r o',(r,o')∈e→r∉(FT j).1:=fun r o' q=>d1 r (hy.1 r o' q).1;have eY:∀r o',(r,o')∈ej→r∉(FT i).1:=fun r o' q=>d2 r (hyj.1 r o' q).1;refine⟨by rw[←Ta zU];exact zK,hyj.2 st zU.symm (fun r gX=>?_) _ ?_⟩
   ·rw[bn,PO (fun o' q=>rV r o' q gX)]
   ·have zS:=Re (ops:=ops) a3 st vj ej;refine ih (listed.setIfInBounds j true) (st.after oj vj ej) (fun k ok hk zR lx LN=>?_) (ready_mono hr (Uq IL)) (fun k hk=>?_) (by rw[Ta zS];exact hf) ⟨hy.1,fun st2 hl hh K' h'=>?_⟩ ?_
    ·by_cases li:j=k
     ·subst li;exact Aa _ ok hk zR r8 LN
     ·rw[getD_set_ne true li]at lx;exact Aa k ok hk zR lx LN
    ·by_cases li:j=k
     ·subst li;exact absurd hk ud
     ·rw[getD_set_ne true li];exact zw k hk
    ·refine hy.2 st2 (fun d hd=>(hl d hd).trans (zS d hd)) (fun r gX=>?_) K' h';rw[hh r gX,bn,PO (fun o' q=>eY r o' q gX)]
    ·rw[Array.setIfInBounds_comm _ _ (Uq IL)]at hK;rw[←Ze a2 (fun r o r' o' q q' e2=>eY r' o' q' (by rw[e2];exact(hy.1 r o q).2))];exact hK

def nB(cx:Cx)(ops:Array Oper)(K:St→Prop):List Oper→List FK→St→Prop
 | [],[],st=>K st
 |o::r,f::fs,st=>Ny cx ops.toList o st=some f∧∃v e,PD cx ops o st f v e∧nB cx ops K r fs (st.after o v e)
 |_,_,_=>False
theorem Sp{K:St→Prop}:∀(l:List Oper) (acc:List FK) (st:St),Xn cx ops l acc st K→∃fs,SM ops (acc.reverse++fs)=true∧nB cx ops K l fs st
 | [],acc,st,h=>⟨[],by simpa using h.1,h.2⟩
 |o::r,acc,st,h=>by
  unfold Xn at h;split at h
  ·rename_i f hf;obtain⟨v,e,h1,h2⟩:=Oz h hf;obtain⟨fs,q1,q2⟩:=Sp r _ _ h2;exact⟨f::fs,by simpa using q1,hf,v,e,h1,q2⟩
  ·exact h.elim

theorem Ww{o:Oper}{i:Nat}{D:List Nat}(h:OW o i D=true):∃ed∈o.after,Region.binds .any ed=true∧(ed.on=i∨ed.on∈D):=by
 unfold OW at h;obtain⟨ed,h1,h2⟩:=A5.1 h;simp only[Af,CU]at h2;exact⟨ed,by simpa using h1,h2.1,h2.2.imp AU Yy⟩
theorem Ud{i:Nat}{D:List Nat}:∀(l:List Oper) (k:Nat),Uc i D k l=true→∀j o,l[j]?=some o→k+j∈D→OW o i D=true
 | [],_,_,_,_,h,_=>by simp at h
 |o::l,k,hs,j,o',h,hm=>by
  simp only[Uc,Af]at hs;cases j with
  |zero =>
   simp only[Bk,Bv]at h;subst h;have h1:=hs.1;rw[O7 (by simpa using hm)]at h1;simpa using h1
  |succ j=>exact Ud l (k+1) hs.2 j o' (by simpa using h) (by rw[GJ,Nat.add_comm 1 j];exact hm)
theorem UX{oi:Oper}{fi:FK}{D:List Nat}:∀(l:List Oper) (fs:List FK) (k:Nat),Iy ops oi fi D k l fs=true→l.length=fs.length∧∀j o f,l[j]?=some o→fs[j]?=some f→k+j∉D→oi.apart ops o=true∧SL fi f=true
 | [],[],_,_=>⟨rfl,fun _ _ _ h=>by simp at h⟩
 | [],_::_,_,h=>by simp[Iy]at h
 |_::_,[],_,h=>by simp[Iy]at h
 |o::l,f::fs,k,h=>by
  simp only[Iy,Af,CU]at h;obtain⟨h1,h2⟩:=UX l fs (k+1) h.2;refine⟨by simp[h1],fun j o' f' q1 q2 hn=>?_⟩;cases j with
  |zero =>
   simp only[Bk,Bv]at q1 q2;subst q1;subst q2;rcases h.1 with h3 | h3
   ·exact absurd (Yy h3) hn
   ·exact h3
  |succ j=>exact h2 j o' f' (by simpa using q1) (by simpa using q2) (by simpa[Nat.add_assoc,Nat.add_comm 1 j]using hn)

theorem Xj{K:St→Prop}:∀(l:List Oper) (fs:List FK) (k:Nat) (listed:Array Bool) (st:St),(∀j,l[j]?=ops[k+j]?)→(∀j f,fs[j]?=some f→FT (k+j)=f)→listed.size=ops.size →
  (∀j,j<ops.size→listed.getD j true=decide (j<k))→Mh ops ops.toList k l fs=true→nB cx ops K l fs st→Xh cx ops FT K l.length listed st
 | [],[],k,listed,st,hl,_,hs,hL,_,h=>by
  refine⟨?_,h⟩;apply LU.2;intro j hj;obtain⟨h1,o,ho,_⟩:=mem_ready.1 hj;have Dy:=(A7.1 ho).1;rw[hL j Dy]at h1;have qb:k≤j:=by simpa using h1
  have:=hl (j-k)
  rw[show k+(j-k)=j by omega,ho]at this;simp at this
 | [],_::_,_,_,_,_,_,_,_,h,_=>by simp[Mh]at h
 |_::_,[],_,_,_,_,_,_,_,h,_=>by simp[Mh]at h
 |o::l,f::fs,k,listed,st,hl,hF,hs,hL,hg,h=>by
  simp only[Mh,Af]at hg;obtain⟨⟨⟨⟨g1,g2⟩,g3⟩,g4⟩,g5⟩:=hg;obtain⟨hf,v,e,hy,hp⟩:=h;have h0:ops[k]?=some o:=by simpa using(hl 0).symm
  have hk:=(A7.1 h0).1;have wt:FT k=f:=by simpa using hF 0 f rfl
  have PV : ∀j,l[j]?=ops[k+1+j]?:=fun j=>by have:=hl (j+1);simpa[Nat.add_assoc,Nat.add_comm 1 j]using this
  have mV : ∀j f,fs[j]?=some f→FT (k+1+j)=f:=fun j f' hj=>by have:=hF (j+1) f' (by simpa using hj);simpa[Nat.add_assoc,Nat.add_comm 1 j]using this
  obtain⟨CW,rz⟩:=UX l fs (k+1) g4;have bl:∀j,j∈PN k [] 0 ops.toList→k<j∧j<ops.size:=fun j hj=>by
   have:=(AW.1 g3) j hj
   simp only[Af,Cp,CD]at this;exact this
  refine Zb h0 (fun j=>j∈PN k [] 0 ops.toList) (fun j hj=>?_) l.length listed st (fun j oj lq li lx ud=>?_) ?_ (fun j hj=>?_) (by rw[wt];exact hf) (by rw[wt];exact hy) ?_
  ·have Dy:=(bl j hj).2
   have:=Ud ops.toList 0 g2 j ops[j] (by simp[Dy]) (by simpa using hj)
   obtain⟨ed,e1,e2,e3⟩:=Ww this;exact⟨ops[j],by simp[Dy],ed,e1,e2,e3⟩
  ·have Dy:=(A7.1 lq).1;rw[hL j Dy]at lx;have qb:k<j:=by have q:k≤j:=(by simpa using lx);omega
   have e1:l[j-(k+1)]?=some oj:=by rw[PV,show k+1+(j-(k+1))=j by omega];exact lq
   have hfl:j-(k+1)<fs.length:=by rw[←CW];exact(Aw.1 e1).1
   have e2:fs[j-(k+1)]?=some fs[j-(k+1)]:=AE hfl;have e3:=mV _ _ e2;rw[show k+1+(j-(k+1))=j by omega]at e3;rw[wt,e3];exact rz _ _ _ e1 e2 (by rw[show k+1+(j-(k+1))=j by omega];exact ud)
  ·refine mem_ready.2 ⟨by rw[hL k hk];simp,o,h0,fun ed he hb=>?_⟩
   have:=(AW.1 g1) ed (by simpa using he)
   simp only[hb,Bool.not_true,Js,Cp]at this;have h1:=hL ed.on (by omega);have Dy:ed.on<listed.size:=by omega
   simp[Dy]at h1⊢;rw[h1];simpa using this
  ·have:=bl j hj
   rw[hL j this.2];simp;omega
  ·refine Xj l fs (k+1) _ _ PV mV (by simp[hs]) (fun j hj=>?_) g5 hp
   by_cases li:j=k
   ·subst li
    have:j<listed.size:=by omega
    simp[this]
   ·rw[getD_set_ne true (Uq li),hL j hj]
    by_cases h1:j<k
    ·simp[h1];omega
    ·simp[h1];omega

theorem cb{K:St→Prop}{st:St}(h:Xn cx ops ops.toList [] st K):Region.noSelect ops=true∧∃FT,Xh cx ops FT K ops.size (Array.replicate ops.size false) st:=by
 obtain⟨fs,h1,h2⟩:=Sp _ _ _ h;simp only[SM,List.reverse_nil,DL,Af]at h1;refine⟨h1.1,fun j=>fs.getD j default,?_⟩
 have:=Xj (FT:=fun j=>fs.getD j default) ops.toList fs 0 (Array.replicate ops.size false) st (by simp) (fun j f hj=>by simp[hj]) (by simp) (fun j hj=>by simp[hj]) h1.2 h2
 simpa using this
end
end Go.Eng
