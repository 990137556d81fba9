/- Lemmas for the claims of this seat, without a condition: part 11 (EngX, EngY, EngZ). -/
import Derived.Test.YtmcbkdbfaneofaaGreatDoorBA10
namespace Go.Eng
section
variable {cx:Cx}{dst:Option Nat}{ty:Nat}{pos:String}{after:Array Edge}{gd:Option (Nat×Bool)}{st:St}{R:List Nat}{w:Option Nat}{K:HK}
theorem ZN{t:Nat}{p:Operand}(hk:F5 cx true ⟨dst,.load t p,ty,pos,after,gd⟩ st K)(hf:Fv cx ⟨dst,.load t p,ty,pos,after,gd⟩ st=some (R,w)):Eo cx ⟨dst,.load t p,ty,pos,after,gd⟩ st R w K:=by
 simp only[F5]at hk;have hn:∀st2,I8 ⟨dst,.load t p,ty,pos,after,gd⟩ R st st2→ev st2.t p=ev st.t p:=fun st2 ha=>ha.t p (by simp[Op.operands]);simp only[Fv]at hf;unfold Iz at hk;split at hf
 ·rename_i cs hp;cases hf;rw[hp]at hk;simp only at hk;exact .pick (ID _ _ _) hk fun st2 ha K' h=>by simp only[F5,Iz,hn st2 ha,hp];exact h
 ·rename_i r off hp;cases hf;rw[hp]at hk;simp only at hk;split at hk
  ·rename_i cs hr;exact .pick (ID _ _ _) hk fun st2 ha K' h=>by simp only[F5,Iz,hn st2 ha,hp,ha.h r (Ac ..),hr];exact h
  ·rename_i cs hr;exact .pick (ID _ _ _) hk fun st2 ha K' h=>by simp only[F5,Iz,hn st2 ha,hp,ha.h r (Ac ..),hr];exact h
  ·exact hk.elim
 ·rename_i r n sz i off hp;cases hf;rw[hp]at hk;simp only at hk;split at hk
  ·rename_i GL es hr;split at hk
   ·rename_i hs;exact .pick (DI (Nq fun _=>DI (ID _ _ _))) hk fun st2 ha K' h=>by simp only[F5,Iz,hn st2 ha,hp,ha.h r (Ac ..),hr,hs];exact h
   ·exact hk.elim
  ·rename_i GL es i' c av hr;split at hk
   ·rename_i hs;exact .pick (DI (ID _ _ _)) hk fun st2 ha K' h=>by simp only[F5,Iz,hn st2 ha,hp,ha.h r (Ac ..),hr,hs];exact h
   ·exact hk.elim
  ·exact hk.elim
 ·cases hf
theorem WJ{x:Operand}(hk:F5 cx true ⟨dst,.assign x,ty,pos,after,gd⟩ st K)(hf:Fv cx ⟨dst,.assign x,ty,pos,after,gd⟩ st=some (R,w)):Eo cx ⟨dst,.assign x,ty,pos,after,gd⟩ st R w K:=by
 simp only[F5]at hk;have hn:∀st2,I8 ⟨dst,.assign x,ty,pos,after,gd⟩ R st st2→ev st2.t x=ev st.t x:=fun st2 ha=>ha.t x (by simp[Op.operands]);simp only[Fv]at hf;split at hf
 ·cases hf
 ·rename_i hx;cases hf;have same:∃y,∀(h:Nat→HO) (K:HK),OV cx dst h (ev st.t x) K↔K y h:=by
   unfold OV;cases dst with
   |none=>exact⟨_,fun _ _=>Ri⟩
   |some d =>
    simp only;cases GU cx.pl.tok d with
    |some sz =>
     simp only;cases Nat.beq sz 0 with
     |true=>exact⟨_,fun _ _=>Ri⟩
     |false =>
      refine⟨ev st.t x,fun h K=>?_⟩;simp only;split
      ·rename_i e;exact absurd e (hx _ _ _)
      ·exact Ri
    |none =>
     simp only;cases GU cx.pl.arr d with
     |some sz =>
      refine⟨ev st.t x,fun h K=>?_⟩;simp only;split
      ·rename_i e;exact absurd e (hx _ _ _)
      ·exact Ri
     |none=>exact⟨_,fun _ _=>Ri⟩
  obtain⟨y,same⟩:=same;exact .pick (DC y) ((same _ _).1 hk) fun st2 ha K' h=>by simp only[F5];rw[hn st2 ha];exact(same _ _).2 h
theorem Ry{t:Nat}{x:Operand}{lo hi mx:Option Operand}(hp:N2 cx.pl.tok dst=none)(hk:F5 cx true ⟨dst,.slice t x lo hi mx,ty,pos,after,gd⟩ st K)(hf:Fv cx ⟨dst,.slice t x lo hi mx,ty,pos,after,gd⟩ st=some (R,w)) :
  Eo cx ⟨dst,.slice t x lo hi mx,ty,pos,after,gd⟩ st R w K:=by
 simp only[F5,hp]at hk;have hn:∀st2,I8 ⟨dst,.slice t x lo hi mx,ty,pos,after,gd⟩ R st st2→ev st2.t x=ev st.t x∧Cb st2.t lo=Cb st.t lo∧Cb st2.t hi=Cb st.t hi∧Cb st2.t mx=Cb st.t mx:=by
  intro st2 ha;have xU:∀y:Option Operand,(∀z,y=some z→ev st2.t z=ev st.t z)→Cb st2.t y=Cb st.t y:=by
   intro y hy;cases y with
   |none=>rfl
   |some z=>simp only[Cb];rw[hy z rfl]
  exact⟨ha.t x (by simp[Op.operands]),xU lo (fun z e=>ha.t z (by simp[Op.operands,e])),xU hi (fun z e=>ha.t z (by simp[Op.operands,e])),xU mx (fun z e=>ha.t z (by simp[Op.operands,e]))⟩
 simp only[Fv,hp]at hf;split at hf
 ·cases hf
 ·rename_i hx;cases hf;have e3:Cb st.t none=some none:=rfl
  have Ij:Gu (fun K1=>GK cx dst st.h t (ev st.t x) (Cb st.t lo) (Cb st.t hi) (some none) fun v _=>K1 v) ∧
    ∀(h:Nat→HO) (K:HK),GK cx dst h t (ev st.t x) (Cb st.t lo) (Cb st.t hi) (some none) K↔GK cx dst st.h t (ev st.t x) (Cb st.t lo) (Cb st.t hi) (some none) (fun v _=>K v h):=by
   generalize ev st.t x=X at hx;unfold GK;constructor
   ·repeat' split
    all_goals first | exact CL | exact DI (DC _) | exact DI (DI (DC _)) | skip
    all_goals first | (rename_i e;cases e;done) | skip
    all_goals (exfalso;exact hx _ _ rfl)
   ·intro h K
    repeat' split
    all_goals first | exact Ri | skip
    all_goals exfalso
    all_goals first | exact hx _ _ rfl | (rename some none=some (some _)=>e4;cases e4)
  rw[e3]at hk;exact .pick Ij.1 ((Ij.2 _ _).1 hk) fun st2 ha K' h=>by
   obtain⟨n1,n2,n3,n4⟩:=hn st2 ha;simp only[F5,hp];rw[n1,n2,n3,n4,e3];exact(Ij.2 _ _).2 h
 ·rename_i y tk es hx;obtain⟨d,rfl,e0⟩:=IT hf;cases e0;rw[hx]at hk;unfold GK at hk;split at hk
  ·rename_i H1 Ma nD e1 e2 e3;split at hk
   ·split at hk<;>first | exact hk.elim | (rename_i e;cases e)
   ·rename_i e he;split at hk
    ·exact hk.elim
    ·rename_i k El;simp only at hk;split at hk
     ·exfalso
      rename_i e4;simp only[Cb]at e3;split at e3<;>cases e3
     ·rename_i m;split at hk
      ·rename some d=some _=>e5
       cases e5
       split at hk
       ·rename_i oT;refine⟨_,none,hk.2.2,fun r o' e=>(by cases e),fun st2 Hf K' h'=>?_⟩;obtain⟨n1,n2,n3,n4⟩:=hn st2 Hf;simp only[F5,hp];rw[n1,n2,n3,n4,hx,e1,e2,e3];unfold GK;simp only[he];split
        ·rename_i e0;rw[El]at e0;cases e0
        ·simp only[oT];exact⟨hk.1,hk.2.1,h'⟩
       rename_i oT;split at hk
       ·rename_i hd;refine⟨_,some (d,_),hk.2.2,fun r o' e=>(by cases e;exact⟨rfl,Ac ..⟩),fun st2 Hf K' h'=>?_⟩;obtain⟨n1,n2,n3,n4⟩:=hn st2 Hf;simp only[F5,hp];rw[n1,n2,n3,n4,hx,e1,e2,e3];unfold GK;simp only[he];split
        ·rename_i e0;rw[El]at e0;cases e0
        ·simp only[oT];rw[Hf.h d (Ac ..),hd];exact⟨hk.1,hk.2.1,h'⟩
       ·exact hk.elim
      ·exact hk.elim
   ·exact hk.elim
  ·exact hk.elim
 ·cases hf
theorem cV{t:Nat}{x:Operand}{lo hi mx:Option Operand}{p:Nat}(hp:N2 cx.pl.tok dst=some p)(hk:F5 cx true ⟨dst,.slice t x lo hi mx,ty,pos,after,gd⟩ st K)(hf:Fv cx ⟨dst,.slice t x lo hi mx,ty,pos,after,gd⟩ st=some (R,w)) :
  Sh cx ⟨dst,.slice t x lo hi mx,ty,pos,after,gd⟩ st R w K:=by
 simp only[F5,hp]at hk;simp only[Fv,hp]at hf;obtain⟨d',r,n,hd,hx,e0⟩:=ZL hf;cases e0;cases dst with
 |none=>cases hd
 |some d =>
 cases hd
 unfold NV at hk;split at hk
 ·rw[hx]at hk;unfold jv at hk;split at hk
  ·rename_i d0 Ma e1 e2;cases e1;split at hk
   ·rename_i e he;split at hk
    ·exact hk.elim
    ·rename_i k El;simp only at hk;split at hk
     ·rename_i sz es hr;split at hk
      ·rename_i hd;split at hk
       ·rename_i q1 q3;obtain⟨h1,hk⟩:=hk;have hr8:r<10000000∧0<KQ cx d:=by simpa using q3
        obtain⟨zS,hz⟩:=hr8;refine⟨_,[(r,.dead),(KQ cx d,_)],hk,fun r' o' e=>?_,fun st2 ha K' h'=>?_⟩
        ·rcases AC.1 e with e | e
         ·cases e
          refine⟨.inr (.inl ⟨by omega,.inl ?_⟩),Ac ..⟩;rw[Nat.add_mul_mod_self_left,Nat.mod_eq_of_lt zS]
         ·obtain e:=As.1 e;cases e;refine⟨.inr (.inl ⟨by omega,.inr ?_⟩),Ah _ (Ac ..)⟩;rw[Nat.add_mul_div_left _ _ (by decide),Nat.div_eq_of_lt zS,Bo]
        ·have o1:Cb st2.t hi=Cb st.t hi:=by
          cases hi with
          |none=>rfl
          |some z=>simp only[Cb];rw[ha.t z (by simp[Op.operands])]
         simp only[F5,hp];unfold NV;rw[ha.t x (by simp[Op.operands]),o1,hx,e2];unfold jv;simp only[he];split
         ·rename_i e0;rw[El]at e0;cases e0
         ·simp only[ha.h r (Ac ..),hr,ha.h (KQ cx d) (Ah _ (Ac ..)),hd,q1,q3];exact⟨h1,h'⟩
       ·exact hk.elim
      ·exact hk.elim
     ·exact hk.elim
   ·exact hk.elim
  ·exact hk.elim
 ·exact hk.elim
theorem WI{s x:Operand}{G3:Array TypeId}(hk:F5 cx true ⟨dst,.call ⟨.builtin .append,#[s,x],G3⟩,ty,pos,after,gd⟩ st K)(hf:Fv cx ⟨dst,.call ⟨.builtin .append,#[s,x],G3⟩,ty,pos,after,gd⟩ st=some (R,w)) :
  Eo cx ⟨dst,.call ⟨.builtin .append,#[s,x],G3⟩,ty,pos,after,gd⟩ st R w K:=by
 have hk:Gc cx dst st.h .append G3.toList [ev st.t s,ev st.t x] K:=hk;have hf:WH cx dst (ev st.t s) (ev st.t x)=some (R,w):=hf;have hn:∀st2,I8 ⟨dst,.call ⟨.builtin .append,#[s,x],G3⟩,ty,pos,after,gd⟩ R st st2→ev st2.t s=ev st.t s∧ev st2.t x=ev st.t x:=fun st2 ha =>
  ⟨ha.t s (by simp[Op.operands,Call.operands]),ha.t x (by simp[Op.operands,Call.operands])⟩
 have HH:∀st2,I8 ⟨dst,.call ⟨.builtin .append,#[s,x],G3⟩,ty,pos,after,gd⟩ R st st2→∀K' : HK,Gc cx dst st2.h .append G3.toList [ev st.t s,ev st.t x] K'→F5 cx true ⟨dst,.call ⟨.builtin .append,#[s,x],G3⟩,ty,pos,after,gd⟩ st2 K':=by
  intro st2 ha K' h;rw[←(hn st2 ha).1,←(hn st2 ha).2]at h;exact h
 generalize G3.toList=l at hk HH
 match l,hk,HH with
 | [t,t'],hk,HH =>
  simp only[Gc]at hk HH;split at hk
  ·rename_i ht;simp only[ht]at HH;unfold IF at hk HH;split at hk
   ·rename_i e he;simp only[he]at HH;split at hk
    ·exact hk.elim
    ·rename_i hz;simp only[hz]at HH;split at hk
     ·exact hk.elim
     ·rename_i k El;obtain⟨es2,q1,q2⟩:=ZF hk;have kq:∀d,R=d::dz (ev st.t x)→∀st2,I8 ⟨dst,.call ⟨.builtin .append,#[s,x],G3⟩,ty,pos,after,gd⟩ R st st2→∀r n,ev st.t x=.msl r n→st2.h r=st.h r:=fun d hR st2 ha r n e=>ha.h r (by rw[hR,e];simp[dz]);unfold WH at hf;split at hf
      ·rename_i hs;obtain⟨d,cZ,e0⟩:=IT hf;cases e0;rw[hs]at q1 HH;simp only at q1 HH;obtain⟨d',hd,v,y,q3,q4⟩:=II q1.2;rw[cZ]at hd;cases hd;refine⟨v,some (d,y),q3,fun r o' e=>(by cases e;exact⟨rfl,Ac ..⟩),fun st2 Hf K' h'=>HH st2 Hf K' ?_⟩;split
       ·rename_i e0;rw[El]at e0;cases e0
       ·exact q2 st2.h (kq d rfl st2 Hf) _ ⟨q1.1,q4 st2.h (Hf.h d (Ac ..)) K' h'⟩
      ·rename_i GL es hs;obtain⟨d,cZ,e0⟩:=IT hf;cases e0;rw[hs]at q1 HH;simp only at q1 HH;split at q1
       ·rename_i h1;obtain⟨d',hd,v,y,q3,q4⟩:=II q1.2;rw[cZ]at hd;cases hd;refine⟨v,some (d,y),q3,fun r o' e=>(by cases e;exact⟨rfl,Ac ..⟩),fun st2 Hf K' h'=>HH st2 Hf K' ?_⟩;split
        ·rename_i e0;rw[El]at e0;cases e0
        ·refine q2 st2.h (kq d rfl st2 Hf) _ ?_;simp only[h1];exact⟨q1.1,q4 st2.h (Hf.h d (Ac ..)) K' h'⟩
       ·exact q1.elim
      ·rename_i r GL es hs;cases hf;rw[hs]at q1 HH;simp only at q1 HH;split at q1
       ·rename_i sz n hr;split at q1
        ·rename_i h1 h2;refine⟨_,some (r,_),q1.2,fun r o' e=>(by cases e;exact⟨rfl,Ac ..⟩),fun st2 Hf K' h'=>HH st2 Hf K' ?_⟩;split
         ·rename_i e0;rw[El]at e0;cases e0
         ·refine q2 st2.h (kq r rfl st2 Hf) _ ?_;simp only[Hf.h r (Ac ..),hr,h1,h2];exact⟨q1.1,h'⟩
        ·exact q1.elim
       ·exact q1.elim
      ·rename_i r n hs;cases hf;rw[hs]at q1 HH;simp only at q1 HH;split at q1
       ·rename_i sz es hr;split at q1
        ·rename_i h1;refine⟨_,some (r,_),q1.2,fun r o' e=>(by cases e;exact⟨rfl,Ac ..⟩),fun st2 Hf K' h'=>HH st2 Hf K' ?_⟩;split
         ·rename_i e0;rw[El]at e0;cases e0
         ·refine q2 st2.h (kq r rfl st2 Hf) _ ?_;simp only[Hf.h r (Ac ..),hr,h1];exact⟨q1.1,h'⟩
        ·exact q1.elim
       ·exact q1.elim
      ·cases hf
   ·exact hk.elim
  ·exact hk.elim
 | [],hk,_=>exact hk.elim
 | [_],hk,_=>exact hk.elim
 |_::_::_::_,hk,_=>exact hk.elim
theorem VV(T:GN)(t:Nat):Gu (KB T t):=by
 unfold KB
 repeat' split
 all_goals first | exact CL | exact DC _
theorem Uj(T:GN)(ty:Nat)(ok:Bool)(B7:List (Value×AV))(kx:Value):Gu (Mr T ty ok B7 kx):=by
 unfold Mr
 repeat' split
 ·refine bK (Nq fun a=>DI (DC _)) (DI ?_);intro K hk;obtain⟨v,h1,h2⟩:=VV T _ _ hk;exact⟨_,h1,fun K' h=>h2 _ h⟩
 ·exact bK (Nq fun a=>DI (DC _)) (DI (VV T _))
 ·exact CL
theorem YZ(T:GN)(ty:Nat)(sh:EU)(k:AV){F:Value→(AV→Prop)→Prop}(h:∀x,Gu (F x)):Gu fun K=>Kv T ty sh k fun kx=>F kx K:=by
 unfold Kv
 repeat' split
 all_goals first | exact CL | exact h _
theorem WK{t:Nat}{m k:Operand}{ok:Bool}(hk:F5 cx true ⟨dst,.lookup t m k ok,ty,pos,after,gd⟩ st K)(hf:Fv cx ⟨dst,.lookup t m k ok,ty,pos,after,gd⟩ st=some (R,w)) :
  Eo cx ⟨dst,.lookup t m k ok,ty,pos,after,gd⟩ st R w K:=by
 simp only[F5]at hk;have hn:∀st2,I8 ⟨dst,.lookup t m k ok,ty,pos,after,gd⟩ R st st2→ev st2.t m=ev st.t m∧ev st2.t k=ev st.t k:=fun st2 ha=>⟨ha.t m (by simp[Op.operands]),ha.t k (by simp[Op.operands])⟩;simp only[Fv]at hf;unfold Ng at hk;split at hf
 ·rename_i sh B7 hm;cases hf;rw[hm]at hk;simp only at hk;exact .pick (YZ _ _ _ _ fun _=>Uj _ _ _ _ _) hk fun st2 ha K' h=>by simp only[F5,Ng,hn st2 ha,hm];exact h
 ·rename_i r hm;cases hf;rw[hm]at hk;simp only at hk;split at hk
  all_goals first | exact hk.elim | (rename_i e;exact .pick (YZ _ _ _ _ fun _=>Uj _ _ _ _ _) hk fun st2 ha K' h=>by simp only[F5,Ng,hn st2 ha,hm,ha.h r (Ac ..),e];exact h)
 ·cases hf
theorem jm(T:GN)(t:Nat)(h:Nat→HO)(x:AV):Gu (RF T t h x):=by
 unfold RF
 repeat' split
 all_goals first | exact CL | exact DC _
theorem pE{T:GN}{t:Nat}{h h2:Nat→HO}{x:AV}(e:∀r,x=.mref r→h2 r=h r){K:AV→Prop}:RF T t h2 x K=RF T t h x K:=by
 cases x<;>first | rfl | skip
 rename_i r;unfold RF;simp only[e r rfl]
theorem cU{x:Operand}{G3:Array TypeId}(hk:F5 cx true ⟨dst,.call ⟨.builtin .len,#[x],G3⟩,ty,pos,after,gd⟩ st K)(hf:Fv cx ⟨dst,.call ⟨.builtin .len,#[x],G3⟩,ty,pos,after,gd⟩ st=some (R,w)) :
  Eo cx ⟨dst,.call ⟨.builtin .len,#[x],G3⟩,ty,pos,after,gd⟩ st R w K:=by
 have hk:Gc cx dst st.h .len G3.toList [ev st.t x] K:=hk;have hf:G9 cx dst (.builtin .len) st.t [ev st.t x]=some (R,w):=hf;have hn:∀st2,I8 ⟨dst,.call ⟨.builtin .len,#[x],G3⟩,ty,pos,after,gd⟩ R st st2→ev st2.t x=ev st.t x:=fun st2 ha=>ha.t x (by simp[Op.operands,Call.operands]);have HH:∀st2,I8 ⟨dst,.call ⟨.builtin .len,#[x],G3⟩,ty,pos,after,gd⟩ R st st2→∀K' : HK,Gc cx dst st2.h .len G3.toList [ev st.t x] K'→F5 cx true ⟨dst,.call ⟨.builtin .len,#[x],G3⟩,ty,pos,after,gd⟩ st2 K':=by
  intro st2 ha K' h;rw[←hn st2 ha]at h;exact h
 generalize G3.toList=l at hk HH
 match l,hk,HH with
 | [t],hk,HH =>
  have hR:∀r,ev st.t x=.mref r→r∈R:=fun r e=>by
   rw[e]at hf;cases hf;exact Ac ..
  have hw:w=none:=by
   unfold G9 at hf;split at hf<;>first | (cases hf;rfl) | (rename_i e;cases e) | (rename_i e _;cases e) | skip
   all_goals (cases hf)
  subst hw;exact .pick (jm _ _ _ _) hk fun st2 ha K' h=>HH st2 ha K' (by
   simp only[Gc];rw[pE fun r e=>ha.h r (hR r e)];exact h)
 | [],hk,_=>exact hk.elim
 |_::_::_,hk,_=>exact hk.elim
end
theorem lX{l:List Nat}{n:Nat}(h:I5 l n=true):n∈l:=by
 induction l with
 |nil=>cases h
 |cons a l ih =>
  unfold I5 at h
  by_cases e:a=n
  ·exact e▸Ac ..
  ·rw[CV e]at h;exact Ah _ (ih h)
theorem XR(G:Nat→HO):∀(σ:Ji) (h:Nat→HO),Ey σ=true→(fun i=>match CB σ i with | some j=>G j | none=>h i)=It h (σ.map fun p=>(p.1,G p.2))
 | [],h,_=>rfl
 |(i,j)::r,h,hσ=>by
  unfold Ey at hσ;simp only[Ai]at hσ;have ih:=XR G r (A2 h i (G j)) hσ.2;show _=It (A2 h i (G j)) (r.map fun p=>(p.1,G p.2));rw[←ih]
  funext i'
  have hn:CB r i=none:=by
   have:=hσ.1.1.1
   cases e:CB r i with
   |none=>rfl
   |some k=>rw[e]at this;simp at this
  by_cases e:i'=i
  ·subst e;have e1:CB ((i',j)::r) i'=some j:=by unfold CB;rw[Dg];rfl
   rw[e1,hn];show G j=A2 h i' (G j) i';unfold A2;rw[Dg];rfl
  ·have e1:CB ((i,j)::r) i'=CB r i':=by
    show(bif Nat.beq i i' then some j else CB r i')=_;rw[CV (Ne.symm e)];rfl
   rw[e1];cases CB r i' with
   |some k=>rfl
   |none=>show h i'=A2 h i (G j) i';unfold A2;rw[CV e];rfl
theorem Vh{σ:Ji}{d:Nat}(hσ:Ey σ=true){h h' : Nat→HO}:Eh σ d 0 h h'=It h (σ.map fun p=>(p.1,(h' p.2).ren (Fl σ d 0) h')):=by
 rw[←XR (fun j=>(h' j).ren (Fl σ d 0) h') σ h hσ]
 funext i
 unfold Eh;cases CB σ i with
 |some j=>rfl
 |none =>
  have:(Nat.ble (BB d 0) i&&Nat.blt i (BB d 0))=false:=by
   rw[AD];simp only[VQ,Ai,Dp,Co];omega
  simp only[this]
section
variable {cx:Cx}{op:Op}{dst:Option Nat}{ty:Nat}{pos:String}{after:Array Edge}{gd:Option (Nat×Bool)}{st:St}{R:List Nat}{w:Option Nat}{K:HK}
theorem Eo.toL(h:Eo cx ⟨dst,op,ty,pos,after,gd⟩ st R w K):Sh cx ⟨dst,op,ty,pos,after,gd⟩ st R w K:=by
 obtain⟨v,e,h1,h2,h3⟩:=h;cases e with
 |none=>exact⟨v,[],h1,fun r o' e=>(by cases e),h3⟩
 |some p=>exact⟨v,[p],h1,fun r o' e=>by
   obtain rfl:=As.1 e;obtain⟨a,b⟩:=h2 r o' rfl;exact⟨by rw[a];exact .inl rfl,b⟩,h3⟩
theorem ZM{c:Call}(hk:F5 cx true ⟨dst,.call c,ty,pos,after,gd⟩ st K)(hf:Fv cx ⟨dst,.call c,ty,pos,after,gd⟩ st=some (R,w)):Sh cx ⟨dst,.call c,ty,pos,after,gd⟩ st R w K:=by
 obtain⟨oC,args,G3⟩:=c;have JE:∀st2,I8 ⟨dst,.call ⟨oC,args,G3⟩,ty,pos,after,gd⟩ R st st2→args.toList.map (ev st2.t)=args.toList.map (ev st.t):=fun st2 ha =>
  Bk fun x hx=>ha.t x (by simp only[Op.operands,Call.operands,SD];exact .inr (by simpa using hx))
 cases oC with
 |invoke r m=>exact hk.elim
 |value f =>
  have hk:GA cx true dst st (ev st.t f) (args.toList.map (ev st.t)) K:=hk;have hf:G9 cx dst (.value f) st.t (args.toList.map (ev st.t))=some (R,w):=hf;unfold G9 at hf;unfold GA at hk;simp only at hf hk;have hn:=JE;split at hf
  ·rename_i bq;rw[bq]at hk;cases hf;obtain⟨res,h1,h2⟩:=hk;refine Eo.toL ⟨res,none,h2,fun r o' e=>(by cases e),fun st2 ha K' h'=>?_⟩;show GA cx true dst st2 (ev st2.t f) (args.toList.map (ev st2.t)) K';rw[JE st2 ha,ha.t f (by simp[Op.operands,Call.operands])];unfold GA;simp only[bq];refine⟨res,?_,h'⟩;rw[Lc (h:=st.h) (fun r hr=>ha.h r (Bz _ hr)),Ra (h:=st.h) (fun r hr=>ha.h r (Bq _ hr))];exact h1
  ·rename_i bq;rw[bq]at hk;simp only at hk;cases dst with
   |none=>exact hk.elim
   |some d =>
    obtain⟨n,sz,es,h1,h2,h3⟩:=hk;have hf:some (BB d 0::(Xp (ev st.t f)++TN (args.toList.map (ev st.t))),some (BB d 0))=some (R,w):=hf;cases hf;refine Eo.toL ⟨_,some (BB d 0,_),h3,fun r o' e=>(by cases e;exact⟨rfl,Ac ..⟩),fun st2 ha K' h'=>?_⟩;show GA cx true (some d) st2 (ev st2.t f) (args.toList.map (ev st2.t)) K';rw[JE st2 ha,ha.t f (by simp[Op.operands,Call.operands])];unfold GA;simp only[bq];refine⟨n,sz,es,?_,?_,h'⟩
    ·have:DP st2.h d 1=DP st.h d 1:=by simp only[DP,ha.h (BB d 0) (Ac ..)]
     rw[this];exact h1
    ·rw[Lc (h:=st.h) (fun r hr=>ha.h r (Ah _ (Bz _ hr))),Ra (h:=st.h) (fun r hr=>ha.h r (Ah _ (Bq _ hr)))];exact h2
  ·rename_i bq;rw[bq]at hk;have hk:RU cx 0 dst st.h (ev st.t f) (args.toList.map (ev st.t)) K:=hk;split at hf
   ·rename_i r n l hl;cases hf;have Ij:=hk;unfold RU at Ij;rw[hl]at Ij;split at Ij
    ·rename_i d0 f0 r0 n0 l0 e1 e2 z1 z2;cases e2;split at Ij
     ·rename_i vs fo;split at Ij
      ·rename_i sz es hr;obtain⟨n',FQ,h1,h2⟩:=Ij;refine Eo.toL ⟨_,some (r,_),h2,fun r o' e=>(by cases e;exact⟨rfl,Ac ..⟩),fun st2 ha K' h'=>?_⟩;show GA cx true _ st2 (ev st2.t f) (args.toList.map (ev st2.t)) K';rw[JE st2 ha,ha.t f (by simp[Op.operands,Call.operands]),hl,e1];unfold GA;simp only[bq];unfold PP;simp only;unfold RU;simp only[fo,ha.h r (Ac ..),hr];exact⟨n',FQ,h1,h'⟩
      ·exact Ij.elim
     ·exact Ij.elim
    ·exact Ij.elim
   ·cases hf
  ·rename_i k bq;rw[bq]at hk;cases hb:Nat.beq k 1 with
   |true =>
    have UR:Nat.beq (k+1) 2=true:=hb;have hk:UB cx dst st (ev st.t f) (args.toList.map (ev st.t)) K:=by
     have Ij:(match Nat.beq (k+1) 2 with | true=>UB cx dst st (ev st.t f) (args.toList.map (ev st.t)) K | false=>match Nat.beq (k+1) 3 with | true=>Rg cx dst st (ev st.t f) (args.toList.map (ev st.t)) K | false=>PP cx (k+1) dst st (ev st.t f) (args.toList.map (ev st.t)) K):=hk;rw[UR]at Ij;exact Ij
    rw[hb]at hf;cases dst with
    |none=>exact hk.elim
    |some d =>
     obtain⟨sz,es,h1,h2,h3⟩:=hk;have hf:some (BB d 0::(Xp (ev st.t f)++TN (args.toList.map (ev st.t))),some (BB d 0))=some (R,w):=hf;cases hf;refine Eo.toL ⟨_,some (BB d 0,_),h3,fun r o' e=>(by cases e;exact⟨rfl,Ac ..⟩),fun st2 ha K' h'=>?_⟩;show GA cx true (some d) st2 (ev st2.t f) (args.toList.map (ev st2.t)) K';rw[JE st2 ha,ha.t f (by simp[Op.operands,Call.operands])];unfold GA;simp only[bq,UR];refine⟨sz,es,?_,?_,h'⟩
     ·have:DP st2.h d 1=DP st.h d 1:=by simp only[DP,ha.h (BB d 0) (Ac ..)]
      rw[this];exact h1
     ·rw[Lc (h:=st.h) (fun r hr=>ha.h r (Ah _ (Bz _ hr))),Ra (h:=st.h) (fun r hr=>ha.h r (Ah _ (Bq _ hr)))];exact h2
   |false =>
    have UR:Nat.beq (k+1) 2=false:=hb;rw[hb]at hf;have Ij:(match Nat.beq (k+1) 2 with | true=>UB cx dst st (ev st.t f) (args.toList.map (ev st.t)) K | false=>match Nat.beq (k+1) 3 with | true=>Rg cx dst st (ev st.t f) (args.toList.map (ev st.t)) K | false=>PP cx (k+1) dst st (ev st.t f) (args.toList.map (ev st.t)) K):=hk;rw[UR]at Ij;cases hc:Nat.beq k 2 with
    |true =>
     have qi:Nat.beq (k+1) 3=true:=hc;rw[hc]at hf;simp only[qi]at Ij;have hf:gw (args.toList.map (ev st.t))=some (R,w):=hf;unfold gw at hf;unfold Rg at Ij;split at hf
     ·rename_i vs fo;cases hf;split at Ij
      ·rename_i l fq e1 e2 z1 z2;rw[fo]at e2;cases e2;split at Ij
       ·rename_i r sz es bZ n e3 e4;obtain⟨⟨rfl,rfl⟩,v,FQ,n',h1,h2⟩:=Ij;refine⟨_,[(1001,_),(1000,_)],h2,fun r' o' e=>?_,fun st2 ha K' h'=>?_⟩
        ·rcases AC.1 e with e | e
         ·cases e
          exact⟨.inr (.inl ⟨by decide,.inr (by decide)⟩),by simp⟩
         ·obtain e:=As.1 e;cases e;exact⟨.inr (.inl ⟨by decide,.inl (by decide)⟩),by simp⟩
        show GA cx true _ st2 (ev st2.t f) (args.toList.map (ev st2.t)) K';rw[JE st2 ha,ha.t f (by simp[Op.operands,Call.operands]),e1];unfold GA;simp only[bq,UR,qi];unfold Rg;simp only[fo,ha.h 1000 (by simp),ha.h 1001 (by simp),e3,e4];exact⟨⟨trivial,trivial⟩,v,FQ,n',h1,h'⟩
       ·exact Ij.elim
      ·exact Ij.elim
     ·cases hf
    |false =>
    have qi:Nat.beq (k+1) 3=false:=hc;rw[hc]at hf;have VC:PP cx (k+1) dst st (ev st.t f) (args.toList.map (ev st.t)) K:=by
     simp only[qi]at Ij;exact Ij
    have oW:gu k dst (args.toList.map (ev st.t))=some (R,w):=hf;unfold gu at oW;unfold PP at VC;cases he:Nat.beq k 3 with
    |true =>
     have kj:Nat.beq (k+1) 4=true:=he;rw[he]at oW;rw[kj]at VC;have oW:some (ld,some Wr)=some (R,w):=oW;have VC:X7 cx dst st (ev st.t f) (args.toList.map (ev st.t)) K:=VC;cases oW;unfold X7 at VC;split at VC
     ·rename_i d f' e2 _ _ _;obtain⟨σ,H0,Hn,args',res,g1,g2,g3,g4⟩:=VC;simp only[Ai]at g2;refine⟨_,σ.map fun p=>(p.1,(Ap Hn Ab p.2).ren (Fl σ d 0) (Ap Hn Ab)),(Vh (h:=st.h) (h':=Ap Hn Ab) (d:=d) g2.1.1)▸g4,fun r' o' e=>?_,fun st2 ha K' h'=>?_⟩
      ·obtain⟨p,hp,e⟩:=Ao.1 e;cases e;exact⟨.inr (.inr rfl),lX (AS.1 g2.2 p hp)⟩
      ·show GA cx true _ st2 (ev st2.t f) (args.toList.map (ev st2.t)) K';rw[JE st2 ha,ha.t f (by simp[Op.operands,Call.operands])];unfold GA;simp only[bq,UR,qi];unfold PP;simp only[kj];unfold X7;rw[e2];refine⟨σ,H0,Hn,args',res,fun h2 hh=>g1 h2 fun r hr=>(hh r hr).trans (ha.h r hr),by simp only[Ai];exact g2,g3,?_⟩;rw[Vh (h:=st2.h) (h':=Ap Hn Ab) (d:=d) g2.1.1];exact h'
     ·exact VC.elim
    |false =>
    have kj:Nat.beq (k+1) 4=false:=he;rw[he]at oW;rw[kj]at VC;have hf:bc dst (args.toList.map (ev st.t))=some (R,w):=oW;have hk:RU cx (k+1) dst st.h (ev st.t f) (args.toList.map (ev st.t)) K:=VC;obtain⟨d,r,n,l,rfl,hl,e0⟩:=ZK hf;cases e0;unfold RU at hk;rw[hl]at hk;split at hk
    ·rename_i d0 f0 r0 n0 l0 e9 e1 e2;cases e9;cases e2;split at hk
     ·rename_i vs fo;split at hk
      ·rename_i sz es hr;obtain⟨n',FQ,h0,h1,h2⟩:=hk;have we:=h0;simp only[Ai,Co]at we;refine⟨_,[(r,.dead),(BB d 0,_)],h2,fun r' o' e=>?_,fun st2 ha K' h'=>?_⟩
       ·rcases AC.1 e with e | e
        ·cases e
         refine⟨.inr (.inl ⟨by unfold BB;omega,.inl ?_⟩),Ac ..⟩;rw[Nat.add_mul_mod_self_left,Nat.mod_eq_of_lt we.1.2]
        ·obtain e:=As.1 e;cases e;refine⟨.inr (.inl ⟨by unfold BB;omega,.inr ?_⟩),Ah _ (Ac ..)⟩;rw[Nat.add_mul_div_left _ _ (by decide),Nat.div_eq_of_lt we.1.2,Bo]
       show GA cx true _ st2 (ev st2.t f) (args.toList.map (ev st2.t)) K';rw[JE st2 ha,ha.t f (by simp[Op.operands,Call.operands]),hl,e1];unfold GA;simp only[bq,UR,qi];unfold PP;simp only[kj];unfold RU;simp only[fo,ha.h r (Ac ..),hr]
       have:DP st2.h d 1=DP st.h d 1:=by simp only[DP,ha.h (BB d 0) (Ah _ (Ac ..))]
       exact⟨n',FQ,by rw[this];exact h0,h1,h'⟩
      ·exact hk.elim
     ·exact hk.elim
    ·exact hk.elim
 |builtin b =>
  refine Eo.toL ?_;have mm:∀f:Int→Int→Int,(∀(d:Option Nat) (h:Nat→HO) (G3:List Nat) (args:List AV) (K:HK),Gc cx d h b G3 args K=(match args with | [x,y]=>lZ f x y fun v=>K v h | _=>False))→R=[]∧w=none→Eo cx ⟨dst,.call ⟨.builtin b,args,G3⟩,ty,pos,after,gd⟩ st R w K:=by
   rintro f hb ⟨rfl,rfl⟩
   have hk:Gc cx dst st.h b G3.toList (args.toList.map (ev st.t)) K:=hk;rw[hb]at hk;split at hk
   ·rename_i x y e;refine .pick (mo f x y) hk fun st2 ha K' h=>?_;show Gc cx dst st2.h b G3.toList (args.toList.map (ev st2.t)) K';rw[hb,JE st2 ha,e];exact h
   ·exact hk.elim
  cases b
  case max=>exact mm max (fun d h G3 args K=>by cases args with | nil=>rfl | cons x l=>cases l with | nil=>rfl | cons y l=>cases l<;>rfl) (by
   have hf:G9 cx dst (.builtin .max) st.t (args.toList.map (ev st.t))=some (R,w):=hf;simp only[G9]at hf;cases hf;exact⟨rfl,rfl⟩)
  case min=>exact mm min (fun d h G3 args K=>by cases args with | nil=>rfl | cons x l=>cases l with | nil=>rfl | cons y l=>cases l<;>rfl) (by
   have hf:G9 cx dst (.builtin .min) st.t (args.toList.map (ev st.t))=some (R,w):=hf;simp only[G9]at hf;cases hf;exact⟨rfl,rfl⟩)
  case append =>
   obtain⟨l⟩:=args
   match l,hk,hf with
   | [s,x],hk,hf=>exact WI hk hf
   | [],hk,hf=>cases G3;exact hk.elim
   | [_],hk,hf=>exact hk.elim
   |_::_::_::_,hk,hf=>exact hk.elim
  case len =>
   obtain⟨l⟩:=args
   match l,hk,hf with
   | [x],hk,hf=>exact cU hk hf
   | [],hk,hf=>exact hk.elim
   |_::_::_,hk,hf=>exact hk.elim
  all_goals exact hk.elim
theorem Zm{o:Oper}(hc:∀c,o.op≠.call c)(hs:(∃t x lo hi mx,o.op=.slice t x lo hi mx)→N2 cx.pl.tok o.dst=none)(hk:F5 cx true o st K)(hf:Fv cx o st=some (R,w)):Eo cx o st R w K:=by
 obtain⟨dst,op,ty,pos,after,gd⟩:=o;cases op with
 |call c=>exact absurd rfl (hc c)
 |alloc e=>exact X4 hk hf
 |box e x=>exact cS hk hf
 |buildSlice t n ps=>exact Qu hk hf
 |makeSlice t n c=>exact RX hk hf
 |makeMap t r=>exact UQ hk hf
 |store t p x=>exact X5 hk hf
 |mapUpdate t m k x=>exact RY hk hf
 |makeFunc fn first cap=>exact Tw hk hf
 |load t p=>exact ZN hk hf
 |assign x=>exact WJ hk hf
 |slice t x lo hi mx=>exact Ry (hs ⟨t,x,lo,hi,mx,rfl⟩) hk hf
 |lookup t x i ok=>exact WK hk hf
 |move x =>
  cases hf
  exact .pick (DC _) hk fun st2 ha K' h=>by simp only[F5,ha.t x (by simp[Op.operands])];exact h
 |pick c a b =>
  cases hf
  exact .pick (dZ _ _ _) hk fun st2 ha K' h=>by simp only[F5,ha.t c (by simp[Op.operands]),ha.t a (by simp[Op.operands]),ha.t b (by simp[Op.operands])];exact h
 |nilCheck x =>
  cases hf
  exact .pick (jn _) hk fun st2 ha K' h=>by simp only[F5,ha.t x (by simp[Op.operands])];exact h
 |binOp op t x y u =>
  simp only[Fv]at hf;split at hf
  ·cases hf
  ·rename_i hx;cases hf;exact .pick (dX _ _ _ _ _ _ hx) hk fun st2 ha K' h=>by simp only[F5,ha.t x (by simp[Op.operands]),ha.t y (by simp[Op.operands])];exact h
 |unOp op t x =>
  cases hf
  exact .pick (d4 _ _) hk fun st2 ha K' h=>by simp only[F5,ha.t x (by simp[Op.operands])];exact h
 |convert s t x =>
  cases hf
  exact .pick (dY _ _ _ _) hk fun st2 ha K' h=>by simp only[F5,ha.t x (by simp[Op.operands])];exact h
 |fieldAddr s x f =>
  cases hf
  exact .pick (aD _ _ _ _) hk fun st2 ha K' h=>by simp only[F5,ha.t x (by simp[Op.operands])];exact h
 |field s x f =>
  cases hf
  exact .pick (YY _ _ _ _) hk fun st2 ha K' h=>by simp only[F5,ha.t x (by simp[Op.operands])];exact h
 |indexAddr t x i =>
  cases hf
  exact .pick (Uk _ _ _ _) hk fun st2 ha K' h=>by simp only[F5,ha.t x (by simp[Op.operands]),ha.t i (by simp[Op.operands])];exact h
 |index t x i =>
  cases hf
  exact .pick (aE _ _ _ _) hk fun st2 ha K' h=>by simp only[F5,ha.t x (by simp[Op.operands]),ha.t i (by simp[Op.operands])];exact h
 |extract x i =>
  cases hf
  exact .pick (W7 _ _) hk fun st2 ha K' h=>by simp only[F5,ha.t x (by simp[Op.operands])];exact h
 |build t ps =>
  cases hf
  refine .pick (aC _ _ _ _) hk fun st2 ha K' h=>?_;have hx:∀p∈ps.toList,ev st2.t p.2=ev st.t p.2:=fun p hp=>ha.t p.2 (by
   simp only[Op.operands,List.mem_toArray];exact Ao.2 ⟨p,hp,rfl⟩)
  simp only[F5];have fill:∀(pl:Nat→Option (Nat×Nat)) (l:List (Nat×Operand)) (cs:List AV) (K:List AV→Prop),(∀p∈l,ev st2.t p.2=ev st.t p.2)→KT pl cs st2.t l K=KT pl cs st.t l K:=by
   intro pl l
   induction l with
   |nil=>intro cs K _;rfl
   |cons p l ih =>
    intro cs K hp;obtain⟨i,x⟩:=p;have h1:ev st2.t x=ev st.t x:=hp (i,x) (Ac ..);have h2:∀cs,KT pl cs st2.t l K=KT pl cs st.t l K:=fun cs=>ih cs K (fun p pg=>hp p (Ah _ pg));simp only[KT,h1,h2]
  unfold Ql at h⊢;simp only[fill _ _ _ _ hx];exact h
 |_=>cases hf
theorem cr{o:Oper}(hk:F5 cx true o st K)(hf:Fv cx o st=some (R,w)):Sh cx o st R w K:=by
 obtain⟨dst,op,ty,pos,after,gd⟩:=o
 by_cases h:∃c,op=.call c
 ·obtain⟨c,rfl⟩:=h;exact ZM hk hf
 ·by_cases h2:∃t x lo hi mx,op=.slice t x lo hi mx
  ·obtain⟨t,x,lo,hi,mx,rfl⟩:=h2;cases hp:N2 cx.pl.tok dst with
   |none=>exact Eo.toL (Ry hp hk hf)
   |some p=>exact cV hp hk hf
  ·exact Eo.toL (Zm (fun c e=>h ⟨c,e⟩) (fun e=>absurd e h2) hk hf)
end
theorem Vx{cx:Cx}{o:Oper}{st st2:St}(h:∀x∈o.op.operands,ev st2.t x=ev st.t x):Fv cx o st2=Fv cx o st:=by
 obtain⟨dst,op,ty,pos,after,gd⟩:=o;cases op with
 |call c =>
  obtain⟨oC,args,G3⟩:=c;have ha:args.toList.map (ev st2.t)=args.toList.map (ev st.t):=Bk fun x hx=>h x (by simp only[Op.operands,Call.operands,SD];exact .inr (by simpa using hx));simp only[Fv];rw[ha];cases oC with
  |value f =>
   have hf:ev st2.t f=ev st.t f:=h f (by simp[Op.operands,Call.operands]);simp only[G9,hf]
  |builtin b =>
   generalize args.toList.map (ev st.t)=l
   match l with
   | []=>cases b<;>rfl
   | [x]=>cases b<;>cases x<;>rfl
   | [x,y]=>cases b<;>cases x<;>rfl
   |x::_::_::_=>cases b<;>cases x<;>rfl
  |invoke r m=>rfl
 |box e x=>simp only[Fv,h x (by simp[Op.operands])]
 |buildSlice t n ps =>
  have hx:ps.toList.map (fun p=>ev st2.t p.2)=ps.toList.map (fun p=>ev st.t p.2):=Bk fun p hp=>h p.2 (by
   simp only[Op.operands,List.mem_toArray];exact Ao.2 ⟨p,hp,rfl⟩)
  simp only[Fv,hx]
 |store t p x=>simp only[Fv,h p (by simp[Op.operands]),h x (by simp[Op.operands])]
 |mapUpdate t m k x=>simp only[Fv,h m (by simp[Op.operands]),h x (by simp[Op.operands])]
 |makeFunc fn first cap =>
  have hx:cap.toList.map (ev st2.t)=cap.toList.map (ev st.t):=Bk fun x hx=>h x (by simp only[Op.operands,SD];exact .inr (by simpa using hx));simp only[Fv,hx]
 |load t p=>simp only[Fv,h p (by simp[Op.operands])]
 |assign x=>simp only[Fv,h x (by simp[Op.operands])]
 |binOp op t x y u=>simp only[Fv,h x (by simp[Op.operands])]
 |slice t x lo hi mx=>simp only[Fv,h x (by simp[Op.operands])]
 |lookup t x i ok=>simp only[Fv,h x (by simp[Op.operands])]
 |_=>rfl
def KH(ops:Array Oper)(o:Oper)(st st2:St):Prop:=∀d∈o.looksAt ops,st2.t d=st.t d
theorem KH.operands{ops:Array Oper}{o:Oper}{st st2:St}(h:KH ops o st st2):∀x∈o.op.operands,ev st2.t x=ev st.t x:=fun x hx=>by
 cases x with
 |tmp t=>exact h t (Bz _ (List.mem_filterMap.2 ⟨.tmp t,by simpa using hx,rfl⟩))
 |_=>rfl
theorem VS(ops:Array Oper)(j:Nat):Kx ops.toList j=(ops[j]?).bind (·.dst):=by
 have:∀(l:List Oper) (j:Nat),Kx l j=(l[j]?).bind (·.dst):=by
  intro l
  induction l with
  |nil=>intro j;simp[Kx]
  |cons o l ih =>
   intro j;cases j with
   |zero=>simp[Kx]
   |succ j=>simp[Kx,ih]
 rw[this];simp
theorem KH.guard{ops:Array Oper}{o:Oper}{st st2:St}(h:KH ops o st st2){j:Nat}{b:Bool}(hg:o.guard=some (j,b)){d:Nat}(hd:Kx ops.toList j=some d):st2.t d=st.t d :=
 h d (Bq _ (by rw[hg];simp only;rw[←VS,hd];simp))
def St.after(st:St)(o:Oper)(v:AV)(e:List (Nat×HO)):St:=st.put o.dst v (It st.h e)
def Qh(cx:Cx)(ops:Array Oper)(o:Oper)(st:St)(f:FI)(v:AV)(e:List (Nat×HO)):Prop :=
 (∀r o',(r,o')∈e→SF f.2 r∧r∈f.1)∧∀st2,KH ops o st st2→(∀r∈f.1,st2.h r=st.h r)→∀K:St→Prop,K (st2.after o v e)→Ht cx true ops.toList o st2 K
theorem Tu{cx:Cx}{ops:Array Oper}{o:Oper}{st st2:St}(h:KH ops o st st2):NM cx ops.toList o st2=NM cx ops.toList o st:=by
 unfold NM;split
 ·exact Vx h.operands
 ·rename_i j want hg;split
  ·rfl
  ·rename_i d hd;simp only[h.guard hg hd];split<;>first | exact Vx h.operands | rfl
theorem OT{cx:Cx}{ops:Array Oper}{o:Oper}{st:St}{f:FI}{K:St→Prop}(hk:Ht cx true ops.toList o st K)(hf:NM cx ops.toList o st=some f) :
  ∃v e,Qh cx ops o st f v e∧K (st.after o v e):=by
 obtain⟨R,w⟩:=f;have skip:R=[]∧w=none→K (st.put o.dst (.v undef) st.h)→(∀st2,KH ops o st st2→∀K:St→Prop,K (st2.put o.dst (.v undef) st2.h)→Ht cx true ops.toList o st2 K)→∃v e,Qh cx ops o st (R,w) v e∧K (st.after o v e):=by
  rintro⟨rfl,rfl⟩ h1 h2
  exact⟨.v undef,[],⟨fun r o' e=>(by cases e),fun st2 hl _ K h=>h2 st2 hl K h⟩,h1⟩
 have run:Fv cx o st=some (R,w)→F5 cx true o st (fun v h=>K (st.put o.dst v h))→(∀st2,KH ops o st st2→∀K:St→Prop,F5 cx true o st2 (fun v h=>K (st2.put o.dst v h))→Ht cx true ops.toList o st2 K)→∃v e,Qh cx ops o st (R,w) v e∧K (st.after o v e):=by
  intro hf hk h2;obtain⟨v,e,q1,q2,q3⟩:=cr hk hf;exact⟨v,e,⟨q2,fun st2 hl hh K h=>h2 st2 hl K (q3 st2 ⟨hl.operands,hh⟩ _ h)⟩,q1⟩
 unfold Ht at hk;unfold NM at hf;cases hg:o.guard with
 |none =>
  rw[hg]at hk hf;exact run hf hk (fun st2 hl K h=>by unfold Ht;rw[hg];exact h)
 |some p =>
  obtain⟨j,want⟩:=p;rw[hg]at hk hf;simp only at hk hf;cases hd:Kx ops.toList j with
  |none=>rw[hd]at hk;exact hk.elim
  |some d =>
   rw[hd]at hk hf;simp only at hk hf;have he:∀st2,KH ops o st st2→st2.t d=st.t d:=fun st2 hl=>hl.guard hg hd;generalize hx:st.t d=x at hk hf he;split at hk
   ·exact run hf hk (fun st2 hl K h=>by unfold Ht;simp only[hg,hd,he st2 hl];exact h)
   ·exact run hf hk (fun st2 hl K h=>by unfold Ht;simp only[hg,hd,he st2 hl];exact h)
   ·exact skip (by cases hf;exact⟨rfl,rfl⟩) hk (fun st2 hl K h=>by unfold Ht;simp only[hg,hd,he st2 hl];exact h)
   ·exact skip (by cases hf;exact⟨rfl,rfl⟩) hk (fun st2 hl K h=>by unfold Ht;simp only[hg,hd,he st2 hl];exact h)
   ·exact skip (by cases hf;exact⟨rfl,rfl⟩) hk (fun st2 hl K h=>by unfold Ht;simp only[hg,hd,he st2 hl];exact h)
   ·exact hk.elim
def qM(cx:Cx)(ops:Array Oper)(FT:Nat→FI)(i:Nat)(K:St→Prop)(st:St):Prop :=
 match ops[i]? with
 |none=>K st
 |some o=>NM cx ops.toList o st=some (FT i)∧Ht cx true ops.toList o st K
def Xx(cx:Cx)(ops:Array Oper)(FT:Nat→FI)(K:St→Prop):Nat→Array Bool→St→Prop
 |0,listed,st=>Region.ready .any ops listed=[]∧K st
 |fuel+1,listed,st =>
  (Region.ready .any ops listed=[]→K st)∧∀i∈Region.ready .any ops listed,qM cx ops FT i (Xx cx ops FT K fuel (listed.setIfInBounds i true)) st
theorem eY(t:Nat→AV){d d' : Nat}(h:d'≠d)(v v' : AV):Hq (Hq t d v) d' v'=Hq (Hq t d' v') d v:=by
 funext i
 unfold Hq
 by_cases h1:i=d<;>by_cases h2:i=d'
 ·exact absurd (h2.symm.trans h1) h
 ·subst h1;simp[CV h2]
 ·subst h2;simp[CV h1]
 ·simp[CV h1,CV h2]
theorem da(t:Nat→HO){d d' : Nat}(h:d'≠d)(v v' : HO):A2 (A2 t d v) d' v'=A2 (A2 t d' v') d v:=by
 funext i
 unfold A2
 by_cases h1:i=d<;>by_cases h2:i=d'
 ·exact absurd (h2.symm.trans h1) h
 ·subst h1;simp[CV h2]
 ·subst h2;simp[CV h1]
 ·simp[CV h1,CV h2]
theorem PB{l:List Nat}{n:Nat}(h:n∈l):I5 l n=true:=by
 induction l with
 |nil=>cases h
 |cons a l ih =>
  unfold I5
  by_cases e:a=n
  ·subst e;simp
  ·rw[CV e];exact ih ((AC.1 h).resolve_left (fun q=>e q.symm))
theorem YH{l:List Nat}{n:Nat}(h:I5 l n=true):n∈l:=by
 induction l with
 |nil=>cases h
 |cons a l ih =>
  unfold I5 at h
  by_cases e:a=n
  ·exact e▸Ac ..
  ·rw[CV e]at h;exact Ah _ (ih h)
theorem YS{l:List Nat}{x:Nat}(h:YQ l x=true):∀r,SF (some x) r→r∉l:=by
 intro r hc hr;unfold YQ at h
 by_cases hx:x=Wr
 ·subst hx;rw[Dg,J9]at h;cases l with
  |nil=>cases hr
  |cons a l=>cases h
 rw[CV hx,Ez]at h;simp only[Ai,CG,C3,Co]at h;rcases hc with rfl | ⟨h1,h2⟩ | hc
 ·rw[PB hr]at h;cases h.1
 ·rcases h.2 with h3 | h3
  ·omega
  ·rcases h2 with rfl | rfl
   ·rw[PB hr]at h3;cases h3.1
   ·rw[PB hr]at h3;cases h3.2
 ·exact hx hc
theorem cL{a b:FI}(h:Tf a b=true):(∀r,SF a.2 r→r∉b.1)∧∀r,SF b.2 r→r∉a.1:=by
 obtain⟨a1,a2⟩:=a;obtain⟨b1,b2⟩:=b;simp only[Tf,Ai]at h;refine⟨fun r e=>?_,fun r e=>?_⟩
 ·cases a2 with
  |none=>exact e.elim
  |some x=>exact YS h.1 r e
 ·cases b2 with
  |none=>exact e.elim
  |some x=>exact YS h.2 r e
section
variable {cx:Cx}{ops:Array Oper}{FT:Nat→FI}
theorem RH{oi oj:Oper}(h:∀d,oi.dst=some d→d∉oj.looksAt ops)(st:St)(v:AV)(e:List (Nat×HO)):KH ops oj st (st.after oi v e):=by
 intro d hd;cases hdst:oi.dst with
 |none=>simp[St.after,St.put,hdst]
 |some d' =>
  have:d≠d':=fun q=>h d' hdst (q▸hd)
  simp[St.after,St.put,hdst,Hq,CV this]
theorem KH.symm{o:Oper}{st st2:St}(h:KH ops o st st2):KH ops o st2 st:=fun d hd=>(h d hd).symm
theorem bn{o:Oper}{st:St}{v:AV}{e:List (Nat×HO)}:(st.after o v e).h=It st.h e:=by
 unfold St.after St.put;cases o.dst<;>rfl
theorem Qq{r:Nat}:∀{e:List (Nat×HO)} {h:Nat→HO},(∀o',(r,o')∉e)→It h e r=h r
 | [],_,_=>rfl
 |p::e,h,hr=>by
  have:r≠p.1:=fun q=>hr p.2 (by rw[q];exact Ac ..)
  show It (A2 h p.1 p.2) e r=h r;rw[Qq fun o' ho=>hr o' (Ah _ ho),B5 _ _ _ _ this]
theorem XS{r:Nat}{o:HO}:∀{e:List (Nat×HO)} {h:Nat→HO},(∀r' o',(r',o')∈e→r'≠r)→It (A2 h r o) e=A2 (It h e) r o
 | [],_,_=>rfl
 |p::e,h,hr=>by
  show It (A2 (A2 h r o) p.1 p.2) e=A2 (It (A2 h p.1 p.2) e) r o;rw[da h (hr p.1 p.2 (Ac ..)),XS fun r' o' ho=>hr r' o' (Ah _ ho)]
theorem Vt:∀{e e' : List (Nat×HO)} {h:Nat→HO},(∀r o r' o',(r,o)∈e→(r',o')∈e'→r'≠r)→It (It h e) e'=It (It h e') e
 | [],_,_,_=>rfl
 |p::e,e',h,hd=>by
  show It (It (A2 h p.1 p.2) e) e'=It (A2 (It h e') p.1 p.2) e;rw[←XS fun r' o' ho=>hd p.1 p.2 r' o' (Ac ..) ho,Vt fun r o r' o' h1 h2=>hd r o r' o' (Ah _ h1) h2]
theorem Zl{oi oj:Oper}{st:St}{v v' : AV}{e e' : List (Nat×HO)}(h1:∀d,oi.dst=some d→oj.dst≠some d)(h2:∀r o r' o',(r,o)∈e→(r',o')∈e'→r'≠r) :
  (st.after oi v e).after oj v' e'=(st.after oj v' e').after oi v e:=by
 have hh:It (It st.h e) e'=It (It st.h e') e:=Vt h2;have key:∀o:Oper,∀v e,∀st:St,st.after o v e=⟨match o.dst with | none=>st.t | some d=>Hq st.t d v,It st.h e⟩:=fun o v e st=>by
  unfold St.after St.put;cases o.dst<;>rfl
 rw[key,key,key,key];simp only[hh];cases hi:oi.dst with
 |none=>rfl
 |some d =>
  cases hj:oj.dst with
  |none=>rfl
  |some d' =>
   have DM:d'≠d:=fun q=>h1 d hi (by rw[hj,q]);simp only[eY st.t DM v v']
theorem Zk{K:St→Prop}{i:Nat}{oi:Oper}{v:AV}{e:List (Nat×HO)}(hi:ops[i]?=some oi)(D:Nat→Prop)
  (hD:∀j,D j→∃oj,ops[j]?=some oj∧∃ed∈oj.after,Region.binds .any ed=true∧(ed.on=i∨D ed.on)) :
  ∀(fuel:Nat) (listed:Array Bool) (st:St),
   (∀j oj,ops[j]?=some oj→j≠i→listed.getD j true=false→¬D j→oi.apart ops oj=true∧Tf (FT i) (FT j)=true) →
   i∈Region.ready .any ops listed→(∀j,D j→listed.getD j true=false)→NM cx ops.toList oi st=some (FT i)→Qh cx ops oi st (FT i) v e →
   Xx cx ops FT K fuel (listed.setIfInBounds i true) (st.after oi v e)→Xx cx ops FT K (fuel+1) listed st:=by
 have here:∀(fuel:Nat) (listed:Array Bool) (st:St),NM cx ops.toList oi st=some (FT i)→Qh cx ops oi st (FT i) v e →
   Xx cx ops FT K fuel (listed.setIfInBounds i true) (st.after oi v e)→qM cx ops FT i (Xx cx ops FT K fuel (listed.setIfInBounds i true)) st:=by
  intro fuel listed st hf hy H;unfold qM;rw[hi];exact⟨hf,hy.2 st (fun _ _=>rfl) (fun _ _=>rfl) _ H⟩
 intro fuel
 induction fuel with
 |zero =>
  intro listed st _ hr _ hf hy H;refine⟨fun h=>(by rw[h]at hr;cases hr),fun j hj=>?_⟩
  by_cases GF:j=i
  ·subst GF;exact here 0 listed st hf hy H
  ·have:=ready_mono hj GF
   rw[H.1]at this;cases this
 |succ fuel ih =>
  intro listed st Ab hr zm hf hy H;refine⟨fun h=>(by rw[h]at hr;cases hr),fun j hj=>?_⟩
  by_cases GF:j=i
  ·subst GF;exact here (fuel+1) listed st hf hy H
  ·have h1:=H.2 j (ready_mono hj GF);obtain⟨sd,oj,lE,Fm⟩:=mem_ready.1 hj;have rD:∀k,listed.getD k true=false→listed.getD k false=true→False:=fun k h0 h1=>by
    rcases Cv k listed.size with h' | h'
    ·simp[h']at h0 h1;rw[h0]at h1;cases h1
    ·simp[Array.getElem?_eq_none h']at h1
   have ul:¬D j:=fun ue=>by
    obtain⟨oj',ng,ed,he,hb,hon⟩:=hD j ue;rw[lE]at ng;cases ng;have hl:=Fm ed he hb;rcases hon with h2 | h2
    ·exact rD _ (by rw[h2];exact(mem_ready.1 hr).1) hl
    ·exact rD _ (zm _ h2) hl
   obtain⟨rS,ue⟩:=Ab j oj lE GF sd ul;obtain⟨a1,a2,a3⟩:=Oper.apart_spec rS;obtain⟨d1,d2⟩:=cL ue;unfold qM at h1⊢;rw[lE]at h1⊢;obtain⟨zC,hkj⟩:=h1;have zL:=RH (ops:=ops) a1 st v e;obtain⟨vj,ej,z8,hK⟩:=OT hkj zC;have he1:∀r o',(r,o')∈e→r∉(FT j).1:=fun r o' q=>d1 r (hy.1 r o' q).1;have kj:∀r o',(r,o')∈ej→r∉(FT i).1:=fun r o' q=>d2 r (z8.1 r o' q).1;refine⟨by rw[←Tu zL];exact zC,z8.2 st zL.symm (fun r ph=>?_) _ ?_⟩
   ·rw[bn,Qq (fun o' q=>he1 r o' q ph)]
   ·have zK:=RH (ops:=ops) a3 st vj ej;refine ih (listed.setIfInBounds j true) (st.after oj vj ej) (fun k ok hk zJ lJ Od=>?_) (ready_mono hr (Ne.symm GF)) (fun k hk=>?_) (by rw[Tu zK];exact hf) ⟨hy.1,fun st2 hl hh K' h'=>?_⟩ ?_
    ·by_cases lA:j=k
     ·subst lA;exact Ab _ ok hk zJ sd Od
     ·rw[getD_set_ne true lA]at lJ;exact Ab k ok hk zJ lJ Od
    ·by_cases lA:j=k
     ·subst lA;exact absurd hk ul
     ·rw[getD_set_ne true lA];exact zm k hk
    ·refine hy.2 st2 (fun d hd=>(hl d hd).trans (zK d hd)) (fun r ph=>?_) K' h';rw[hh r ph,bn,Qq (fun o' q=>kj r o' q ph)]
    ·rw[Array.setIfInBounds_comm _ _ (Ne.symm GF)]at hK;rw[←Zl a2 (fun r o r' o' q q' e2=>kj r' o' q' (by rw[e2];exact(hy.1 r o q).2))];exact hK
def nM(cx:Cx)(ops:Array Oper)(K:St→Prop):List Oper→List FI→St→Prop
 | [],[],st=>K st
 |o::r,f::fs,st=>NM cx ops.toList o st=some f∧∃v e,Qh cx ops o st f v e∧nM cx ops K r fs (st.after o v e)
 |_,_,_=>False
theorem SN{K:St→Prop}:∀(l:List Oper) (acc:List FI) (st:St),XB cx ops l acc st K→∃fs,Tg ops (acc.reverse++fs)=true∧nM cx ops K l fs st
 | [],acc,st,h=>⟨[],by simpa using h.1,h.2⟩
 |o::r,acc,st,h=>by
  unfold XB at h;split at h
  ·rename_i f hf;obtain⟨v,e,h1,h2⟩:=OT h hf;obtain⟨fs,q1,q2⟩:=SN r _ _ h2;exact⟨f::fs,by simpa using q1,hf,v,e,h1,q2⟩
  ·exact h.elim
theorem WM{o:Oper}{i:Nat}{D:List Nat}(h:Pu o i D=true):∃ed∈o.after,Region.binds .any ed=true∧(ed.on=i∨ed.on∈D):=by
 unfold Pu at h;obtain⟨ed,h1,h2⟩:=A8.1 h;simp only[Ai,CG]at h2;exact⟨ed,by simpa using h1,h2.1,h2.2.imp AP YH⟩
theorem Ux{i:Nat}{D:List Nat}:∀(l:List Oper) (k:Nat),Uw i D k l=true→∀j o,l[j]?=some o→k+j∈D→Pu o i D=true
 | [],_,_,_,_,h,_=>by simp at h
 |o::l,k,hs,j,o',h,hm=>by
  simp only[Uw,Ai]at hs;cases j with
  |zero =>
   simp only[Bb,Bw]at h;subst h;have h1:=hs.1;rw[PB (by simpa using hm)]at h1;simpa using h1
  |succ j=>exact Ux l (k+1) hs.2 j o' (by simpa using h) (by rw[GM,Nat.add_comm 1 j];exact hm)
theorem Vd{oi:Oper}{fi:FI}{D:List Nat}:∀(l:List Oper) (fs:List FI) (k:Nat),IN ops oi fi D k l fs=true→l.length=fs.length∧∀j o f,l[j]?=some o→fs[j]?=some f→k+j∉D→oi.apart ops o=true∧Tf fi f=true
 | [],[],_,_=>⟨rfl,fun _ _ _ h=>by simp at h⟩
 | [],_::_,_,h=>by simp[IN]at h
 |_::_,[],_,h=>by simp[IN]at h
 |o::l,f::fs,k,h=>by
  simp only[IN,Ai,CG]at h;obtain⟨h1,h2⟩:=Vd l fs (k+1) h.2;refine⟨by simp[h1],fun j o' f' q1 q2 hn=>?_⟩;cases j with
  |zero =>
   simp only[Bb,Bw]at q1 q2;subst q1;subst q2;rcases h.1 with h3 | h3
   ·exact absurd (YH h3) hn
   ·exact h3
  |succ j=>exact h2 j o' f' (by simpa using q1) (by simpa using q2) (by simpa[Nat.add_assoc,Nat.add_comm 1 j]using hn)
theorem Xy{K:St→Prop}:∀(l:List Oper) (fs:List FI) (k:Nat) (listed:Array Bool) (st:St),(∀j,l[j]?=ops[k+j]?)→(∀j f,fs[j]?=some f→FT (k+j)=f)→listed.size=ops.size →
  (∀j,j<ops.size→listed.getD j true=decide (j<k))→Mm ops ops.toList k l fs=true→nM cx ops K l fs st→Xx cx ops FT K l.length listed st
 | [],[],k,listed,st,hl,_,hs,hL,_,h=>by
  refine⟨?_,h⟩;apply L0.2;intro j hj;obtain⟨h1,o,ho,_⟩:=mem_ready.1 hj;have DH:=(BG.1 ho).1;rw[hL j DH]at h1;have qm:k≤j:=by simpa using h1
  have:=hl (j-k)
  rw[show k+(j-k)=j by omega,ho]at this;simp at this
 | [],_::_,_,_,_,_,_,_,_,h,_=>by simp[Mm]at h
 |_::_,[],_,_,_,_,_,_,_,h,_=>by simp[Mm]at h
 |o::l,f::fs,k,listed,st,hl,hF,hs,hL,hg,h=>by
  simp only[Mm,Ai]at hg;obtain⟨⟨⟨⟨g1,g2⟩,g3⟩,g4⟩,g5⟩:=hg;obtain⟨hf,v,e,hy,hp⟩:=h;have h0:ops[k]?=some o:=by simpa using(hl 0).symm
  have hk:=(BG.1 h0).1;have wm:FT k=f:=by simpa using hF 0 f rfl
  have Qy : ∀j,l[j]?=ops[k+1+j]?:=fun j=>by have:=hl (j+1);simpa[Nat.add_assoc,Nat.add_comm 1 j]using this
  have qf : ∀j f,fs[j]?=some f→FT (k+1+j)=f:=fun j f' hj=>by have:=hF (j+1) f' (by simpa using hj);simpa[Nat.add_assoc,Nat.add_comm 1 j]using this
  obtain⟨CF,rS⟩:=Vd l fs (k+1) g4;have bl:∀j,j∈Qp k [] 0 ops.toList→k<j∧j<ops.size:=fun j hj=>by
   have:=(AS.1 g3) j hj
   simp only[Ai,Co,B8]at this;exact this
  refine Zk h0 (fun j=>j∈Qp k [] 0 ops.toList) (fun j hj=>?_) l.length listed st (fun j oj lE lA lJ ul=>?_) ?_ (fun j hj=>?_) (by rw[wm];exact hf) (by rw[wm];exact hy) ?_
  ·have DH:=(bl j hj).2
   have:=Ux ops.toList 0 g2 j ops[j] (by simp[DH]) (by simpa using hj)
   obtain⟨ed,e1,e2,e3⟩:=WM this;exact⟨ops[j],by simp[DH],ed,e1,e2,e3⟩
  ·have DH:=(BG.1 lE).1;rw[hL j DH]at lJ;have qm:k<j:=by have q:k≤j:=(by simpa using lJ);omega
   have e1:l[j-(k+1)]?=some oj:=by rw[Qy,show k+1+(j-(k+1))=j by omega];exact lE
   have hfl:j-(k+1)<fs.length:=by rw[←CF];exact(Aw.1 e1).1
   have e2:fs[j-(k+1)]?=some fs[j-(k+1)]:=AB hfl;have e3:=qf _ _ e2;rw[show k+1+(j-(k+1))=j by omega]at e3;rw[wm,e3];exact rS _ _ _ e1 e2 (by rw[show k+1+(j-(k+1))=j by omega];exact ul)
  ·refine mem_ready.2 ⟨by rw[hL k hk];simp,o,h0,fun ed he hb=>?_⟩
   have:=(AS.1 g1) ed (by simpa using he)
   simp only[hb,Bool.not_true,Jz,Co]at this;have h1:=hL ed.on (by omega);have DH:ed.on<listed.size:=by omega
   simp[DH]at h1⊢;rw[h1];simpa using this
  ·have:=bl j hj
   rw[hL j this.2];simp;omega
  ·refine Xy l fs (k+1) _ _ Qy qf (by simp[hs]) (fun j hj=>?_) g5 hp
   by_cases lA:j=k
   ·subst lA
    have:j<listed.size:=by omega
    simp[this]
   ·rw[getD_set_ne true (Ne.symm lA),hL j hj]
    by_cases h1:j<k
    ·simp[h1];omega
    ·simp[h1];omega
theorem co{K:St→Prop}{st:St}(h:XB cx ops ops.toList [] st K):Region.noSelect ops=true∧∃FT,Xx cx ops FT K ops.size (Array.replicate ops.size false) st:=by
 obtain⟨fs,h1,h2⟩:=SN _ _ _ h;simp only[Tg,List.reverse_nil,Ep,Ai]at h1;refine⟨h1.1,fun j=>fs.getD j default,?_⟩
 have:=Xy (FT:=fun j=>fs.getD j default) ops.toList fs 0 (Array.replicate ops.size false) st (by simp) (fun j f hj=>by simp[hj]) (by simp) (fun j hj=>by simp[hj]) h1.2 h2
 simpa using this
end
end Go.Eng
