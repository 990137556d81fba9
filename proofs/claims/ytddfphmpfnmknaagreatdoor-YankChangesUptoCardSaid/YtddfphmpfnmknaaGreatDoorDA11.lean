/- Lemmas for the claims of this seat, without a condition: part 11 (EngX, EngY, EngZ). -/
import Derived.Test.YtddfphmpfnmknaaGreatDoorDA10
namespace Go.Eng
section
variable {cx:Cx}{dst:Option Nat}{ty:Nat}{pos:String}{after:Array Edge}{gd:Option (Nat×Bool)}{st:St}{R:List Nat}{w:Option Nat}{K:HK}
theorem ZA{t:Nat}{p:Operand}(hk:F2 cx true ⟨dst,.load t p,ty,pos,after,gd⟩ st K)(hf:Fs cx ⟨dst,.load t p,ty,pos,after,gd⟩ st=some (R,w)):En cx ⟨dst,.load t p,ty,pos,after,gd⟩ st R w K:=by
 simp only[F2]at hk;have hn:∀st2,IY ⟨dst,.load t p,ty,pos,after,gd⟩ R st st2→ev st2.t p=ev st.t p:=fun st2 ha=>ha.t p (by simp[Op.operands]);simp only[Fs]at hf;unfold Iq at hk;split at hf
 ·rename_i cs hp;cases hf;rw[hp]at hk;simp only at hk;exact .pick (It _ _ _) hk fun st2 ha K' h=>by simp only[F2,Iq,hn st2 ha,hp];exact h
 ·rename_i r off hp;cases hf;rw[hp]at hk;simp only at hk;split at hk
  ·rename_i cs hr;exact .pick (It _ _ _) hk fun st2 ha K' h=>by simp only[F2,Iq,hn st2 ha,hp,ha.h r (Ab ..),hr];exact h
  ·rename_i cs hr;exact .pick (It _ _ _) hk fun st2 ha K' h=>by simp only[F2,Iq,hn st2 ha,hp,ha.h r (Ab ..),hr];exact h
  ·exact hk.elim
 ·rename_i r n sz i off hp;cases hf;rw[hp]at hk;simp only at hk;split at hk
  ·rename_i GI es hr;split at hk
   ·rename_i hs;exact .pick (Dw (M1 fun _=>Dw (It _ _ _))) hk fun st2 ha K' h=>by simp only[F2,Iq,hn st2 ha,hp,ha.h r (Ab ..),hr,hs];exact h
   ·exact hk.elim
  ·rename_i GI es i' c av hr;split at hk
   ·rename_i hs;exact .pick (Dw (It _ _ _)) hk fun st2 ha K' h=>by simp only[F2,Iq,hn st2 ha,hp,ha.h r (Ab ..),hr,hs];exact h
   ·exact hk.elim
  ·exact hk.elim
 ·cases hf
theorem WG{x:Operand}(hk:F2 cx true ⟨dst,.assign x,ty,pos,after,gd⟩ st K)(hf:Fs cx ⟨dst,.assign x,ty,pos,after,gd⟩ st=some (R,w)):En cx ⟨dst,.assign x,ty,pos,after,gd⟩ st R w K:=by
 simp only[F2]at hk;have hn:∀st2,IY ⟨dst,.assign x,ty,pos,after,gd⟩ R st st2→ev st2.t x=ev st.t x:=fun st2 ha=>ha.t x (by simp[Op.operands]);simp only[Fs]at hf;split at hf
 ·cases hf
 ·rename_i hx;cases hf;have same:∃y,∀(h:Nat→HO) (K:HK),Oz cx dst h (ev st.t x) K↔K y h:=by
   unfold Oz;cases dst with
   |none=>exact⟨_,fun _ _=>QQ⟩
   |some d =>
    simp only;cases GR cx.pl.tok d with
    |some sz =>
     simp only;cases Nat.beq sz 0 with
     |true=>exact⟨_,fun _ _=>QQ⟩
     |false =>
      refine⟨ev st.t x,fun h K=>?_⟩;simp only;split
      ·rename_i e;exact absurd e (hx _ _ _)
      ·exact QQ
    |none =>
     simp only;cases GR cx.pl.arr d with
     |some sz =>
      refine⟨ev st.t x,fun h K=>?_⟩;simp only;split
      ·rename_i e;exact absurd e (hx _ _ _)
      ·exact QQ
     |none=>exact⟨_,fun _ _=>QQ⟩
  obtain⟨y,same⟩:=same;exact .pick (C3 y) ((same _ _).1 hk) fun st2 ha K' h=>by simp only[F2];rw[hn st2 ha];exact(same _ _).2 h
theorem Rc{t:Nat}{x:Operand}{lo hi mx:Option Operand}(hp:NG cx.pl.tok dst=none)(hk:F2 cx true ⟨dst,.slice t x lo hi mx,ty,pos,after,gd⟩ st K)(hf:Fs cx ⟨dst,.slice t x lo hi mx,ty,pos,after,gd⟩ st=some (R,w)) :
  En cx ⟨dst,.slice t x lo hi mx,ty,pos,after,gd⟩ st R w K:=by
 simp only[F2,hp]at hk;have hn:∀st2,IY ⟨dst,.slice t x lo hi mx,ty,pos,after,gd⟩ R st st2→ev st2.t x=ev st.t x∧B5 st2.t lo=B5 st.t lo∧B5 st2.t hi=B5 st.t hi∧B5 st2.t mx=B5 st.t mx:=by
  intro st2 ha;have xI:∀y:Option Operand,(∀z,y=some z→ev st2.t z=ev st.t z)→B5 st2.t y=B5 st.t y:=by
   intro y hy;cases y with
   |none=>rfl
   |some z=>simp only[B5];rw[hy z rfl]
  exact⟨ha.t x (by simp[Op.operands]),xI lo (fun z e=>ha.t z (by simp[Op.operands,e])),xI hi (fun z e=>ha.t z (by simp[Op.operands,e])),xI mx (fun z e=>ha.t z (by simp[Op.operands,e]))⟩
 simp only[Fs,hp]at hf;split at hf
 ·cases hf
 ·rename_i hx;cases hf;have e3:B5 st.t none=some none:=rfl
  have Ia:Gl (fun K1=>GH cx dst st.h t (ev st.t x) (B5 st.t lo) (B5 st.t hi) (some none) fun v _=>K1 v) ∧
    ∀(h:Nat→HO) (K:HK),GH cx dst h t (ev st.t x) (B5 st.t lo) (B5 st.t hi) (some none) K↔GH cx dst st.h t (ev st.t x) (B5 st.t lo) (B5 st.t hi) (some none) (fun v _=>K v h):=by
   generalize ev st.t x=X at hx;unfold GH;constructor
   ·repeat' split
    all_goals first | exact CD | exact Dw (C3 _) | exact Dw (Dw (C3 _)) | skip
    all_goals first | (rename_i e;cases e;done) | skip
    all_goals (exfalso;exact hx _ _ rfl)
   ·intro h K
    repeat' split
    all_goals first | exact QQ | skip
    all_goals exfalso
    all_goals first | exact hx _ _ rfl | (rename some none=some (some _)=>e4;cases e4)
  rw[e3]at hk;exact .pick Ia.1 ((Ia.2 _ _).1 hk) fun st2 ha K' h=>by
   obtain⟨n1,n2,n3,n4⟩:=hn st2 ha;simp only[F2,hp];rw[n1,n2,n3,n4,e3];exact(Ia.2 _ _).2 h
 ·rename_i y tk es hx;obtain⟨d,rfl,e0⟩:=IG hf;cases e0;rw[hx]at hk;unfold GH at hk;split at hk
  ·rename_i HS LR mO e1 e2 e3;split at hk
   ·split at hk<;>first | exact hk.elim | (rename_i e;cases e)
   ·rename_i e he;split at hk
    ·exact hk.elim
    ·rename_i k Eh;simp only at hk;split at hk
     ·exfalso
      rename_i e4;simp only[B5]at e3;split at e3<;>cases e3
     ·rename_i m;split at hk
      ·rename some d=some _=>e5
       cases e5
       split at hk
       ·rename_i oc;refine⟨_,none,hk.2.2,fun r o' e=>(by cases e),fun st2 G9 K' h'=>?_⟩;obtain⟨n1,n2,n3,n4⟩:=hn st2 G9;simp only[F2,hp];rw[n1,n2,n3,n4,hx,e1,e2,e3];unfold GH;simp only[he];split
        ·rename_i e0;rw[Eh]at e0;cases e0
        ·simp only[oc];exact⟨hk.1,hk.2.1,h'⟩
       rename_i oc;split at hk
       ·rename_i hd;refine⟨_,some (d,_),hk.2.2,fun r o' e=>(by cases e;exact⟨rfl,Ab ..⟩),fun st2 G9 K' h'=>?_⟩;obtain⟨n1,n2,n3,n4⟩:=hn st2 G9;simp only[F2,hp];rw[n1,n2,n3,n4,hx,e1,e2,e3];unfold GH;simp only[he];split
        ·rename_i e0;rw[Eh]at e0;cases e0
        ·simp only[oc];rw[G9.h d (Ab ..),hd];exact⟨hk.1,hk.2.1,h'⟩
       ·exact hk.elim
      ·exact hk.elim
   ·exact hk.elim
  ·exact hk.elim
 ·cases hf
theorem cw{t:Nat}{x:Operand}{lo hi mx:Option Operand}{p:Nat}(hp:NG cx.pl.tok dst=some p)(hk:F2 cx true ⟨dst,.slice t x lo hi mx,ty,pos,after,gd⟩ st K)(hf:Fs cx ⟨dst,.slice t x lo hi mx,ty,pos,after,gd⟩ st=some (R,w)) :
  RT cx ⟨dst,.slice t x lo hi mx,ty,pos,after,gd⟩ st R w K:=by
 simp only[F2,hp]at hk;simp only[Fs,hp]at hf;obtain⟨d',r,n,hd,hx,e0⟩:=Zy hf;cases e0;cases dst with
 |none=>cases hd
 |some d =>
 cases hd
 unfold Nx at hk;split at hk
 ·rw[hx]at hk;unfold iT at hk;split at hk
  ·rename_i d0 LR e1 e2;cases e1;split at hk
   ·rename_i e he;split at hk
    ·exact hk.elim
    ·rename_i k Eh;simp only at hk;split at hk
     ·rename_i sz es hr;split at hk
      ·rename_i hd;split at hk
       ·rename_i q1 q3;obtain⟨h1,hk⟩:=hk;have hr8:r<10000000∧0<KE cx d:=by simpa using q3
        obtain⟨zU,hz⟩:=hr8;refine⟨_,[(r,.dead),(KE cx d,_)],hk,fun r' o' e=>?_,fun st2 ha K' h'=>?_⟩
        ·rcases AA.1 e with e | e
         ·cases e
          refine⟨.inr (.inl ⟨by omega,.inl ?_⟩),Ab ..⟩;rw[Nat.add_mul_mod_self_left,Nat.mod_eq_of_lt zU]
         ·obtain e:=Aq.1 e;cases e;refine⟨.inr (.inl ⟨by omega,.inr ?_⟩),Ai _ (Ab ..)⟩;rw[Nat.add_mul_div_left _ _ (by decide),Nat.div_eq_of_lt zU,Bl]
        ·have o1:B5 st2.t hi=B5 st.t hi:=by
          cases hi with
          |none=>rfl
          |some z=>simp only[B5];rw[ha.t z (by simp[Op.operands])]
         simp only[F2,hp];unfold Nx;rw[ha.t x (by simp[Op.operands]),o1,hx,e2];unfold iT;simp only[he];split
         ·rename_i e0;rw[Eh]at e0;cases e0
         ·simp only[ha.h r (Ab ..),hr,ha.h (KE cx d) (Ai _ (Ab ..)),hd,q1,q3];exact⟨h1,h'⟩
       ·exact hk.elim
      ·exact hk.elim
     ·exact hk.elim
   ·exact hk.elim
  ·exact hk.elim
 ·exact hk.elim
theorem WF{s x:Operand}{GZ:Array TypeId}(hk:F2 cx true ⟨dst,.call ⟨.builtin .append,#[s,x],GZ⟩,ty,pos,after,gd⟩ st K)(hf:Fs cx ⟨dst,.call ⟨.builtin .append,#[s,x],GZ⟩,ty,pos,after,gd⟩ st=some (R,w)) :
  En cx ⟨dst,.call ⟨.builtin .append,#[s,x],GZ⟩,ty,pos,after,gd⟩ st R w K:=by
 have hk:Ga cx dst st.h .append GZ.toList [ev st.t s,ev st.t x] K:=hk;have hf:WE cx dst (ev st.t s) (ev st.t x)=some (R,w):=hf;have hn:∀st2,IY ⟨dst,.call ⟨.builtin .append,#[s,x],GZ⟩,ty,pos,after,gd⟩ R st st2→ev st2.t s=ev st.t s∧ev st2.t x=ev st.t x:=fun st2 ha =>
  ⟨ha.t s (by simp[Op.operands,Call.operands]),ha.t x (by simp[Op.operands,Call.operands])⟩
 have HC:∀st2,IY ⟨dst,.call ⟨.builtin .append,#[s,x],GZ⟩,ty,pos,after,gd⟩ R st st2→∀K' : HK,Ga cx dst st2.h .append GZ.toList [ev st.t s,ev st.t x] K'→F2 cx true ⟨dst,.call ⟨.builtin .append,#[s,x],GZ⟩,ty,pos,after,gd⟩ st2 K':=by
  intro st2 ha K' h;rw[←(hn st2 ha).1,←(hn st2 ha).2]at h;exact h
 generalize GZ.toList=l at hk HC
 match l,hk,HC with
 | [t,t'],hk,HC =>
  simp only[Ga]at hk HC;split at hk
  ·rename_i ht;simp only[ht]at HC;unfold Iv at hk HC;split at hk
   ·rename_i e he;simp only[he]at HC;split at hk
    ·exact hk.elim
    ·rename_i hz;simp only[hz]at HC;split at hk
     ·exact hk.elim
     ·rename_i k Eh;obtain⟨es2,q1,q2⟩:=Zs hk;have qd:∀d,R=d::c8 (ev st.t x)→∀st2,IY ⟨dst,.call ⟨.builtin .append,#[s,x],GZ⟩,ty,pos,after,gd⟩ R st st2→∀r n,ev st.t x=.msl r n→st2.h r=st.h r:=fun d hR st2 ha r n e=>ha.h r (by rw[hR,e];simp[c8]);unfold WE at hf;split at hf
      ·rename_i hs;obtain⟨d,cC,e0⟩:=IG hf;cases e0;rw[hs]at q1 HC;simp only at q1 HC;obtain⟨d',hd,v,y,q3,q4⟩:=Ix q1.2;rw[cC]at hd;cases hd;refine⟨v,some (d,y),q3,fun r o' e=>(by cases e;exact⟨rfl,Ab ..⟩),fun st2 G9 K' h'=>HC st2 G9 K' ?_⟩;split
       ·rename_i e0;rw[Eh]at e0;cases e0
       ·exact q2 st2.h (qd d rfl st2 G9) _ ⟨q1.1,q4 st2.h (G9.h d (Ab ..)) K' h'⟩
      ·rename_i GI es hs;obtain⟨d,cC,e0⟩:=IG hf;cases e0;rw[hs]at q1 HC;simp only at q1 HC;split at q1
       ·rename_i h1;obtain⟨d',hd,v,y,q3,q4⟩:=Ix q1.2;rw[cC]at hd;cases hd;refine⟨v,some (d,y),q3,fun r o' e=>(by cases e;exact⟨rfl,Ab ..⟩),fun st2 G9 K' h'=>HC st2 G9 K' ?_⟩;split
        ·rename_i e0;rw[Eh]at e0;cases e0
        ·refine q2 st2.h (qd d rfl st2 G9) _ ?_;simp only[h1];exact⟨q1.1,q4 st2.h (G9.h d (Ab ..)) K' h'⟩
       ·exact q1.elim
      ·rename_i r GI es hs;cases hf;rw[hs]at q1 HC;simp only at q1 HC;split at q1
       ·rename_i sz n hr;split at q1
        ·rename_i h1 h2;refine⟨_,some (r,_),q1.2,fun r o' e=>(by cases e;exact⟨rfl,Ab ..⟩),fun st2 G9 K' h'=>HC st2 G9 K' ?_⟩;split
         ·rename_i e0;rw[Eh]at e0;cases e0
         ·refine q2 st2.h (qd r rfl st2 G9) _ ?_;simp only[G9.h r (Ab ..),hr,h1,h2];exact⟨q1.1,h'⟩
        ·exact q1.elim
       ·exact q1.elim
      ·rename_i r n hs;cases hf;rw[hs]at q1 HC;simp only at q1 HC;split at q1
       ·rename_i sz es hr;split at q1
        ·rename_i h1;refine⟨_,some (r,_),q1.2,fun r o' e=>(by cases e;exact⟨rfl,Ab ..⟩),fun st2 G9 K' h'=>HC st2 G9 K' ?_⟩;split
         ·rename_i e0;rw[Eh]at e0;cases e0
         ·refine q2 st2.h (qd r rfl st2 G9) _ ?_;simp only[G9.h r (Ab ..),hr,h1];exact⟨q1.1,h'⟩
        ·exact q1.elim
       ·exact q1.elim
      ·cases hf
   ·exact hk.elim
  ·exact hk.elim
 | [],hk,_=>exact hk.elim
 | [_],hk,_=>exact hk.elim
 |_::_::_::_,hk,_=>exact hk.elim
theorem VI(T:GK)(t:Nat):Gl (Kq T t):=by
 unfold Kq
 repeat' split
 all_goals first | exact CD | exact C3 _
theorem T4(T:GK)(ty:Nat)(ok:Bool)(B2:List (Value×AV))(kx:Value):Gl (L7 T ty ok B2 kx):=by
 unfold L7
 repeat' split
 ·refine bq (M1 fun a=>Dw (C3 _)) (Dw ?_);intro K hk;obtain⟨v,h1,h2⟩:=VI T _ _ hk;exact⟨_,h1,fun K' h=>h2 _ h⟩
 ·exact bq (M1 fun a=>Dw (C3 _)) (Dw (VI T _))
 ·exact CD
theorem YP(T:GK)(ty:Nat)(sh:ET)(k:AV){F:Value→(AV→Prop)→Prop}(h:∀x,Gl (F x)):Gl fun K=>Kk T ty sh k fun kx=>F kx K:=by
 unfold Kk
 repeat' split
 all_goals first | exact CD | exact h _
theorem WH{t:Nat}{m k:Operand}{ok:Bool}(hk:F2 cx true ⟨dst,.lookup t m k ok,ty,pos,after,gd⟩ st K)(hf:Fs cx ⟨dst,.lookup t m k ok,ty,pos,after,gd⟩ st=some (R,w)) :
  En cx ⟨dst,.lookup t m k ok,ty,pos,after,gd⟩ st R w K:=by
 simp only[F2]at hk;have hn:∀st2,IY ⟨dst,.lookup t m k ok,ty,pos,after,gd⟩ R st st2→ev st2.t m=ev st.t m∧ev st2.t k=ev st.t k:=fun st2 ha=>⟨ha.t m (by simp[Op.operands]),ha.t k (by simp[Op.operands])⟩;simp only[Fs]at hf;unfold MS at hk;split at hf
 ·rename_i sh B2 hm;cases hf;rw[hm]at hk;simp only at hk;exact .pick (YP _ _ _ _ fun _=>T4 _ _ _ _ _) hk fun st2 ha K' h=>by simp only[F2,MS,hn st2 ha,hm];exact h
 ·rename_i r hm;cases hf;rw[hm]at hk;simp only at hk;split at hk
  all_goals first | exact hk.elim | (rename_i e;exact .pick (YP _ _ _ _ fun _=>T4 _ _ _ _ _) hk fun st2 ha K' h=>by simp only[F2,MS,hn st2 ha,hm,ha.h r (Ab ..),e];exact h)
 ·cases hf
theorem iP(T:GK)(t:Nat)(h:Nat→HO)(x:AV):Gl (Ro T t h x):=by
 unfold Ro
 repeat' split
 all_goals first | exact CD | exact C3 _
theorem oZ{T:GK}{t:Nat}{h h2:Nat→HO}{x:AV}(e:∀r,x=.mref r→h2 r=h r){K:AV→Prop}:Ro T t h2 x K=Ro T t h x K:=by
 cases x<;>first | rfl | skip
 rename_i r;unfold Ro;simp only[e r rfl]
theorem cu{x:Operand}{GZ:Array TypeId}(hk:F2 cx true ⟨dst,.call ⟨.builtin .len,#[x],GZ⟩,ty,pos,after,gd⟩ st K)(hf:Fs cx ⟨dst,.call ⟨.builtin .len,#[x],GZ⟩,ty,pos,after,gd⟩ st=some (R,w)) :
  En cx ⟨dst,.call ⟨.builtin .len,#[x],GZ⟩,ty,pos,after,gd⟩ st R w K:=by
 have hk:Ga cx dst st.h .len GZ.toList [ev st.t x] K:=hk;have hf:G4 cx dst (.builtin .len) st.t [ev st.t x]=some (R,w):=hf;have hn:∀st2,IY ⟨dst,.call ⟨.builtin .len,#[x],GZ⟩,ty,pos,after,gd⟩ R st st2→ev st2.t x=ev st.t x:=fun st2 ha=>ha.t x (by simp[Op.operands,Call.operands]);have HC:∀st2,IY ⟨dst,.call ⟨.builtin .len,#[x],GZ⟩,ty,pos,after,gd⟩ R st st2→∀K' : HK,Ga cx dst st2.h .len GZ.toList [ev st.t x] K'→F2 cx true ⟨dst,.call ⟨.builtin .len,#[x],GZ⟩,ty,pos,after,gd⟩ st2 K':=by
  intro st2 ha K' h;rw[←hn st2 ha]at h;exact h
 generalize GZ.toList=l at hk HC
 match l,hk,HC with
 | [t],hk,HC =>
  have hR:∀r,ev st.t x=.mref r→r∈R:=fun r e=>by
   rw[e]at hf;cases hf;exact Ab ..
  have hw:w=none:=by
   unfold G4 at hf;split at hf<;>first | (cases hf;rfl) | (rename_i e;cases e) | (rename_i e _;cases e) | skip
   all_goals (cases hf)
  subst hw;exact .pick (iP _ _ _ _) hk fun st2 ha K' h=>HC st2 ha K' (by
   simp only[Ga];rw[oZ fun r e=>ha.h r (hR r e)];exact h)
 | [],hk,_=>exact hk.elim
 |_::_::_,hk,_=>exact hk.elim
end
theorem lk{l:List Nat}{n:Nat}(h:IU l n=true):n∈l:=by
 induction l with
 |nil=>cases h
 |cons a l ih =>
  unfold IU at h
  by_cases e:a=n
  ·exact e▸Ab ..
  ·rw[CM e]at h;exact Ai _ (ih h)
theorem XJ(G:Nat→HO):∀(σ:I7) (h:Nat→HO),Ev σ=true→(fun i=>match Cq σ i with | some j=>G j | none=>h i)=In h (σ.map fun p=>(p.1,G p.2))
 | [],h,_=>rfl
 |(i,j)::r,h,hσ=>by
  unfold Ev at hσ;simp only[Ah]at hσ;have ih:=XJ G r (A0 h i (G j)) hσ.2;show _=In (A0 h i (G j)) (r.map fun p=>(p.1,G p.2));rw[←ih]
  funext i'
  have hn:Cq r i=none:=by
   have:=hσ.1.1.1
   cases e:Cq r i with
   |none=>rfl
   |some k=>rw[e]at this;simp at this
  by_cases e:i'=i
  ·subst e;have e1:Cq ((i',j)::r) i'=some j:=by unfold Cq;rw[CX];rfl
   rw[e1,hn];show G j=A0 h i' (G j) i';unfold A0;rw[CX];rfl
  ·have e1:Cq ((i,j)::r) i'=Cq r i':=by
    show(bif Nat.beq i i' then some j else Cq r i')=_;rw[CM (Ne.symm e)];rfl
   rw[e1];cases Cq r i' with
   |some k=>rfl
   |none=>show h i'=A0 h i (G j) i';unfold A0;rw[CM e];rfl
theorem U2{σ:I7}{d:Nat}(hσ:Ev σ=true){h h' : Nat→HO}:Ef σ d 0 h h'=In h (σ.map fun p=>(p.1,(h' p.2).ren (Fj σ d 0) h')):=by
 rw[←XJ (fun j=>(h' j).ren (Fj σ d 0) h') σ h hσ]
 funext i
 unfold Ef;cases Cq σ i with
 |some j=>rfl
 |none =>
  have:(Nat.ble (By d 0) i&&Nat.blt i (By d 0))=false:=by
   rw[AK];simp only[VC,Ah,Dg,Cg];omega
  simp only[this]
section
variable {cx:Cx}{op:Op}{dst:Option Nat}{ty:Nat}{pos:String}{after:Array Edge}{gd:Option (Nat×Bool)}{st:St}{R:List Nat}{w:Option Nat}{K:HK}
theorem En.toL(h:En cx ⟨dst,op,ty,pos,after,gd⟩ st R w K):RT cx ⟨dst,op,ty,pos,after,gd⟩ st R w K:=by
 obtain⟨v,e,h1,h2,h3⟩:=h;cases e with
 |none=>exact⟨v,[],h1,fun r o' e=>(by cases e),h3⟩
 |some p=>exact⟨v,[p],h1,fun r o' e=>by
   obtain rfl:=Aq.1 e;obtain⟨a,b⟩:=h2 r o' rfl;exact⟨by rw[a];exact .inl rfl,b⟩,h3⟩
theorem Zz{c:Call}(hk:F2 cx true ⟨dst,.call c,ty,pos,after,gd⟩ st K)(hf:Fs cx ⟨dst,.call c,ty,pos,after,gd⟩ st=some (R,w)):RT cx ⟨dst,.call c,ty,pos,after,gd⟩ st R w K:=by
 obtain⟨nO,args,GZ⟩:=c;have Jv:∀st2,IY ⟨dst,.call ⟨nO,args,GZ⟩,ty,pos,after,gd⟩ R st st2→args.toList.map (ev st2.t)=args.toList.map (ev st.t):=fun st2 ha =>
  Be fun x hx=>ha.t x (by simp only[Op.operands,Call.operands,So];exact .inr (by simpa using hx))
 cases nO with
 |invoke r m=>exact hk.elim
 |value f =>
  have hk:GC cx true dst st (ev st.t f) (args.toList.map (ev st.t)) K:=hk;have hf:G4 cx dst (.value f) st.t (args.toList.map (ev st.t))=some (R,w):=hf;unfold G4 at hf;unfold GC at hk;simp only at hf hk;have hn:=Jv;split at hf
  ·rename_i aR;rw[aR]at hk;cases hf;obtain⟨res,h1,h2⟩:=hk;refine En.toL ⟨res,none,h2,fun r o' e=>(by cases e),fun st2 ha K' h'=>?_⟩;show GC cx true dst st2 (ev st2.t f) (args.toList.map (ev st2.t)) K';rw[Jv st2 ha,ha.t f (by simp[Op.operands,Call.operands])];unfold GC;simp only[aR];refine⟨res,?_,h'⟩;rw[KZ (h:=st.h) (fun r hr=>ha.h r (Bn _ hr)),QH (h:=st.h) (fun r hr=>ha.h r (Bg _ hr))];exact h1
  ·rename_i aR;rw[aR]at hk;simp only at hk;cases dst with
   |none=>exact hk.elim
   |some d =>
    obtain⟨n,sz,es,h1,h2,h3⟩:=hk;have hf:some (By d 0::(Xm (ev st.t f)++Tx (args.toList.map (ev st.t))),some (By d 0))=some (R,w):=hf;cases hf;refine En.toL ⟨_,some (By d 0,_),h3,fun r o' e=>(by cases e;exact⟨rfl,Ab ..⟩),fun st2 ha K' h'=>?_⟩;show GC cx true (some d) st2 (ev st2.t f) (args.toList.map (ev st2.t)) K';rw[Jv st2 ha,ha.t f (by simp[Op.operands,Call.operands])];unfold GC;simp only[aR];refine⟨n,sz,es,?_,?_,h'⟩
    ·have:DI st2.h d 1=DI st.h d 1:=by simp only[DI,ha.h (By d 0) (Ab ..)]
     rw[this];exact h1
    ·rw[KZ (h:=st.h) (fun r hr=>ha.h r (Ai _ (Bn _ hr))),QH (h:=st.h) (fun r hr=>ha.h r (Ai _ (Bg _ hr)))];exact h2
  ·rename_i aR;rw[aR]at hk;have hk:RD cx 0 dst st.h (ev st.t f) (args.toList.map (ev st.t)) K:=hk;split at hf
   ·rename_i r n l hl;cases hf;have Ia:=hk;unfold RD at Ia;rw[hl]at Ia;split at Ia
    ·rename_i d0 f0 r0 n0 l0 e1 e2 z1 z2;cases e2;split at Ia
     ·rename_i vs eD;split at Ia
      ·rename_i sz es hr;obtain⟨n',FO,h1,h2⟩:=Ia;refine En.toL ⟨_,some (r,_),h2,fun r o' e=>(by cases e;exact⟨rfl,Ab ..⟩),fun st2 ha K' h'=>?_⟩;show GC cx true _ st2 (ev st2.t f) (args.toList.map (ev st2.t)) K';rw[Jv st2 ha,ha.t f (by simp[Op.operands,Call.operands]),hl,e1];unfold GC;simp only[aR];unfold Pw;simp only;unfold RD;simp only[eD,ha.h r (Ab ..),hr];exact⟨n',FO,h1,h'⟩
      ·exact Ia.elim
     ·exact Ia.elim
    ·exact Ia.elim
   ·cases hf
  ·rename_i k aR;rw[aR]at hk;cases hb:Nat.beq k 1 with
   |true =>
    have Tq:Nat.beq (k+1) 2=true:=hb;have hk:Up cx dst st (ev st.t f) (args.toList.map (ev st.t)) K:=by
     have Ia:(match Nat.beq (k+1) 2 with | true=>Up cx dst st (ev st.t f) (args.toList.map (ev st.t)) K | false=>match Nat.beq (k+1) 3 with | true=>QO cx dst st (ev st.t f) (args.toList.map (ev st.t)) K | false=>Pw cx (k+1) dst st (ev st.t f) (args.toList.map (ev st.t)) K):=hk;rw[Tq]at Ia;exact Ia
    rw[hb]at hf;cases dst with
    |none=>exact hk.elim
    |some d =>
     obtain⟨sz,es,h1,h2,h3⟩:=hk;have hf:some (By d 0::(Xm (ev st.t f)++Tx (args.toList.map (ev st.t))),some (By d 0))=some (R,w):=hf;cases hf;refine En.toL ⟨_,some (By d 0,_),h3,fun r o' e=>(by cases e;exact⟨rfl,Ab ..⟩),fun st2 ha K' h'=>?_⟩;show GC cx true (some d) st2 (ev st2.t f) (args.toList.map (ev st2.t)) K';rw[Jv st2 ha,ha.t f (by simp[Op.operands,Call.operands])];unfold GC;simp only[aR,Tq];refine⟨sz,es,?_,?_,h'⟩
     ·have:DI st2.h d 1=DI st.h d 1:=by simp only[DI,ha.h (By d 0) (Ab ..)]
      rw[this];exact h1
     ·rw[KZ (h:=st.h) (fun r hr=>ha.h r (Ai _ (Bn _ hr))),QH (h:=st.h) (fun r hr=>ha.h r (Ai _ (Bg _ hr)))];exact h2
   |false =>
    have Tq:Nat.beq (k+1) 2=false:=hb;rw[hb]at hf;have Ia:(match Nat.beq (k+1) 2 with | true=>Up cx dst st (ev st.t f) (args.toList.map (ev st.t)) K | false=>match Nat.beq (k+1) 3 with | true=>QO cx dst st (ev st.t f) (args.toList.map (ev st.t)) K | false=>Pw cx (k+1) dst st (ev st.t f) (args.toList.map (ev st.t)) K):=hk;rw[Tq]at Ia;cases hc:Nat.beq k 2 with
    |true =>
     have pU:Nat.beq (k+1) 3=true:=hc;rw[hc]at hf;simp only[pU]at Ia;have hf:fS (args.toList.map (ev st.t))=some (R,w):=hf;unfold fS at hf;unfold QO at Ia;split at hf
     ·rename_i vs eD;cases hf;split at Ia
      ·rename_i l eG e1 e2 z1 z2;rw[eD]at e2;cases e2;split at Ia
       ·rename_i r sz es bE n e3 e4;obtain⟨⟨rfl,rfl⟩,v,FO,n',h1,h2⟩:=Ia;refine⟨_,[(1001,_),(1000,_)],h2,fun r' o' e=>?_,fun st2 ha K' h'=>?_⟩
        ·rcases AA.1 e with e | e
         ·cases e
          exact⟨.inr (.inl ⟨by decide,.inr (by decide)⟩),by simp⟩
         ·obtain e:=Aq.1 e;cases e;exact⟨.inr (.inl ⟨by decide,.inl (by decide)⟩),by simp⟩
        show GC cx true _ st2 (ev st2.t f) (args.toList.map (ev st2.t)) K';rw[Jv st2 ha,ha.t f (by simp[Op.operands,Call.operands]),e1];unfold GC;simp only[aR,Tq,pU];unfold QO;simp only[eD,ha.h 1000 (by simp),ha.h 1001 (by simp),e3,e4];exact⟨⟨trivial,trivial⟩,v,FO,n',h1,h'⟩
       ·exact Ia.elim
      ·exact Ia.elim
     ·cases hf
    |false =>
    have pU:Nat.beq (k+1) 3=false:=hc;rw[hc]at hf;have Vm:Pw cx (k+1) dst st (ev st.t f) (args.toList.map (ev st.t)) K:=by
     simp only[pU]at Ia;exact Ia
    have oh:fQ k dst (args.toList.map (ev st.t))=some (R,w):=hf;unfold fQ at oh;unfold Pw at Vm;cases he:Nat.beq k 3 with
    |true =>
     have d7:Nat.beq (k+1) 4=true:=he;rw[he]at oh;rw[d7]at Vm;have oh:some (ko,some Wn)=some (R,w):=oh;have Vm:X0 cx dst st (ev st.t f) (args.toList.map (ev st.t)) K:=Vm;cases oh;unfold X0 at Vm;split at Vm
     ·rename_i d f' e2 _ _ _;obtain⟨σ,H0,Hn,args',res,g1,g2,g3,g4⟩:=Vm;simp only[Ah]at g2;refine⟨_,σ.map fun p=>(p.1,(Ak Hn Aa p.2).ren (Fj σ d 0) (Ak Hn Aa)),(U2 (h:=st.h) (h':=Ak Hn Aa) (d:=d) g2.1.1)▸g4,fun r' o' e=>?_,fun st2 ha K' h'=>?_⟩
      ·obtain⟨p,hp,e⟩:=Am.1 e;cases e;exact⟨.inr (.inr rfl),lk (AY.1 g2.2 p hp)⟩
      ·show GC cx true _ st2 (ev st2.t f) (args.toList.map (ev st2.t)) K';rw[Jv st2 ha,ha.t f (by simp[Op.operands,Call.operands])];unfold GC;simp only[aR,Tq,pU];unfold Pw;simp only[d7];unfold X0;rw[e2];refine⟨σ,H0,Hn,args',res,fun h2 hh=>g1 h2 fun r hr=>(hh r hr).trans (ha.h r hr),by simp only[Ah];exact g2,g3,?_⟩;rw[U2 (h:=st2.h) (h':=Ak Hn Aa) (d:=d) g2.1.1];exact h'
     ·exact Vm.elim
    |false =>
    have d7:Nat.beq (k+1) 4=false:=he;rw[he]at oh;rw[d7]at Vm;have hf:aJ dst (args.toList.map (ev st.t))=some (R,w):=oh;have hk:RD cx (k+1) dst st.h (ev st.t f) (args.toList.map (ev st.t)) K:=Vm;obtain⟨d,r,n,l,rfl,hl,e0⟩:=Zx hf;cases e0;unfold RD at hk;rw[hl]at hk;split at hk
    ·rename_i d0 f0 r0 n0 l0 e9 e1 e2;cases e9;cases e2;split at hk
     ·rename_i vs eD;split at hk
      ·rename_i sz es hr;obtain⟨n',FO,h0,h1,h2⟩:=hk;have we:=h0;simp only[Ah,Cg]at we;refine⟨_,[(r,.dead),(By d 0,_)],h2,fun r' o' e=>?_,fun st2 ha K' h'=>?_⟩
       ·rcases AA.1 e with e | e
        ·cases e
         refine⟨.inr (.inl ⟨by unfold By;omega,.inl ?_⟩),Ab ..⟩;rw[Nat.add_mul_mod_self_left,Nat.mod_eq_of_lt we.1.2]
        ·obtain e:=Aq.1 e;cases e;refine⟨.inr (.inl ⟨by unfold By;omega,.inr ?_⟩),Ai _ (Ab ..)⟩;rw[Nat.add_mul_div_left _ _ (by decide),Nat.div_eq_of_lt we.1.2,Bl]
       show GC cx true _ st2 (ev st2.t f) (args.toList.map (ev st2.t)) K';rw[Jv st2 ha,ha.t f (by simp[Op.operands,Call.operands]),hl,e1];unfold GC;simp only[aR,Tq,pU];unfold Pw;simp only[d7];unfold RD;simp only[eD,ha.h r (Ab ..),hr]
       have:DI st2.h d 1=DI st.h d 1:=by simp only[DI,ha.h (By d 0) (Ai _ (Ab ..))]
       exact⟨n',FO,by rw[this];exact h0,h1,h'⟩
      ·exact hk.elim
     ·exact hk.elim
    ·exact hk.elim
 |builtin b =>
  refine En.toL ?_;have mm:∀f:Int→Int→Int,(∀(d:Option Nat) (h:Nat→HO) (GZ:List Nat) (args:List AV) (K:HK),Ga cx d h b GZ args K=(match args with | [x,y]=>lm f x y fun v=>K v h | _=>False))→R=[]∧w=none→En cx ⟨dst,.call ⟨.builtin b,args,GZ⟩,ty,pos,after,gd⟩ st R w K:=by
   rintro f hb ⟨rfl,rfl⟩
   have hk:Ga cx dst st.h b GZ.toList (args.toList.map (ev st.t)) K:=hk;rw[hb]at hk;split at hk
   ·rename_i x y e;refine .pick (lJ f x y) hk fun st2 ha K' h=>?_;show Ga cx dst st2.h b GZ.toList (args.toList.map (ev st2.t)) K';rw[hb,Jv st2 ha,e];exact h
   ·exact hk.elim
  cases b
  case max=>exact mm max (fun d h GZ args K=>by cases args with | nil=>rfl | cons x l=>cases l with | nil=>rfl | cons y l=>cases l<;>rfl) (by
   have hf:G4 cx dst (.builtin .max) st.t (args.toList.map (ev st.t))=some (R,w):=hf;simp only[G4]at hf;cases hf;exact⟨rfl,rfl⟩)
  case min=>exact mm min (fun d h GZ args K=>by cases args with | nil=>rfl | cons x l=>cases l with | nil=>rfl | cons y l=>cases l<;>rfl) (by
   have hf:G4 cx dst (.builtin .min) st.t (args.toList.map (ev st.t))=some (R,w):=hf;simp only[G4]at hf;cases hf;exact⟨rfl,rfl⟩)
  case append =>
   obtain⟨l⟩:=args
   match l,hk,hf with
   | [s,x],hk,hf=>exact WF hk hf
   | [],hk,hf=>cases GZ;exact hk.elim
   | [_],hk,hf=>exact hk.elim
   |_::_::_::_,hk,hf=>exact hk.elim
  case len =>
   obtain⟨l⟩:=args
   match l,hk,hf with
   | [x],hk,hf=>exact cu hk hf
   | [],hk,hf=>exact hk.elim
   |_::_::_,hk,hf=>exact hk.elim
  all_goals exact hk.elim
theorem Zd{o:Oper}(hc:∀c,o.op≠.call c)(hs:(∃t x lo hi mx,o.op=.slice t x lo hi mx)→NG cx.pl.tok o.dst=none)(hk:F2 cx true o st K)(hf:Fs cx o st=some (R,w)):En cx o st R w K:=by
 obtain⟨dst,op,ty,pos,after,gd⟩:=o;cases op with
 |call c=>exact absurd rfl (hc c)
 |alloc e=>exact XX hk hf
 |box e x=>exact ct hk hf
 |buildSlice t n ps=>exact PZ hk hf
 |makeSlice t n c=>exact RG hk hf
 |makeMap t r=>exact UD hk hf
 |store t p x=>exact XY hk hf
 |mapUpdate t m k x=>exact RH hk hf
 |makeFunc fn first cap=>exact Th hk hf
 |load t p=>exact ZA hk hf
 |assign x=>exact WG hk hf
 |slice t x lo hi mx=>exact Rc (hs ⟨t,x,lo,hi,mx,rfl⟩) hk hf
 |lookup t x i ok=>exact WH hk hf
 |move x =>
  cases hf
  exact .pick (C3 _) hk fun st2 ha K' h=>by simp only[F2,ha.t x (by simp[Op.operands])];exact h
 |pick c a b =>
  cases hf
  exact .pick (dD _ _ _) hk fun st2 ha K' h=>by simp only[F2,ha.t c (by simp[Op.operands]),ha.t a (by simp[Op.operands]),ha.t b (by simp[Op.operands])];exact h
 |nilCheck x =>
  cases hf
  exact .pick (iQ _) hk fun st2 ha K' h=>by simp only[F2,ha.t x (by simp[Op.operands])];exact h
 |binOp op t x y u =>
  simp only[Fs]at hf;split at hf
  ·cases hf
  ·rename_i hx;cases hf;exact .pick (dB _ _ _ _ _ _ hx) hk fun st2 ha K' h=>by simp only[F2,ha.t x (by simp[Op.operands]),ha.t y (by simp[Op.operands])];exact h
 |unOp op t x =>
  cases hf
  exact .pick (dE _ _) hk fun st2 ha K' h=>by simp only[F2,ha.t x (by simp[Op.operands])];exact h
 |convert s t x =>
  cases hf
  exact .pick (dC _ _ _ _) hk fun st2 ha K' h=>by simp only[F2,ha.t x (by simp[Op.operands])];exact h
 |fieldAddr s x f =>
  cases hf
  exact .pick (af _ _ _ _) hk fun st2 ha K' h=>by simp only[F2,ha.t x (by simp[Op.operands])];exact h
 |field s x f =>
  cases hf
  exact .pick (YO _ _ _ _) hk fun st2 ha K' h=>by simp only[F2,ha.t x (by simp[Op.operands])];exact h
 |indexAddr t x i =>
  cases hf
  exact .pick (T5 _ _ _ _) hk fun st2 ha K' h=>by simp only[F2,ha.t x (by simp[Op.operands]),ha.t i (by simp[Op.operands])];exact h
 |index t x i =>
  cases hf
  exact .pick (ah _ _ _ _) hk fun st2 ha K' h=>by simp only[F2,ha.t x (by simp[Op.operands]),ha.t i (by simp[Op.operands])];exact h
 |extract x i =>
  cases hf
  exact .pick (W2 _ _) hk fun st2 ha K' h=>by simp only[F2,ha.t x (by simp[Op.operands])];exact h
 |build t ps =>
  cases hf
  refine .pick (ae _ _ _ _) hk fun st2 ha K' h=>?_;have hx:∀p∈ps.toList,ev st2.t p.2=ev st.t p.2:=fun p hp=>ha.t p.2 (by
   simp only[Op.operands,List.mem_toArray];exact Am.2 ⟨p,hp,rfl⟩)
  simp only[F2];have fill:∀(pl:Nat→Option (Nat×Nat)) (l:List (Nat×Operand)) (cs:List AV) (K:List AV→Prop),(∀p∈l,ev st2.t p.2=ev st.t p.2)→KG pl cs st2.t l K=KG pl cs st.t l K:=by
   intro pl l
   induction l with
   |nil=>intro cs K _;rfl
   |cons p l ih =>
    intro cs K hp;obtain⟨i,x⟩:=p;have h1:ev st2.t x=ev st.t x:=hp (i,x) (Ab ..);have h2:∀cs,KG pl cs st2.t l K=KG pl cs st.t l K:=fun cs=>ih cs K (fun p oE=>hp p (Ai _ oE));simp only[KG,h1,h2]
  unfold PR at h⊢;simp only[fill _ _ _ _ hx];exact h
 |_=>cases hf
theorem bQ{o:Oper}(hk:F2 cx true o st K)(hf:Fs cx o st=some (R,w)):RT cx o st R w K:=by
 obtain⟨dst,op,ty,pos,after,gd⟩:=o
 by_cases h:∃c,op=.call c
 ·obtain⟨c,rfl⟩:=h;exact Zz hk hf
 ·by_cases h2:∃t x lo hi mx,op=.slice t x lo hi mx
  ·obtain⟨t,x,lo,hi,mx,rfl⟩:=h2;cases hp:NG cx.pl.tok dst with
   |none=>exact En.toL (Rc hp hk hf)
   |some p=>exact cw hp hk hf
  ·exact En.toL (Zd (fun c e=>h ⟨c,e⟩) (fun e=>absurd e h2) hk hf)
end
theorem Vh{cx:Cx}{o:Oper}{st st2:St}(h:∀x∈o.op.operands,ev st2.t x=ev st.t x):Fs cx o st2=Fs cx o st:=by
 obtain⟨dst,op,ty,pos,after,gd⟩:=o;cases op with
 |call c =>
  obtain⟨nO,args,GZ⟩:=c;have ha:args.toList.map (ev st2.t)=args.toList.map (ev st.t):=Be fun x hx=>h x (by simp only[Op.operands,Call.operands,So];exact .inr (by simpa using hx));simp only[Fs];rw[ha];cases nO with
  |value f =>
   have hf:ev st2.t f=ev st.t f:=h f (by simp[Op.operands,Call.operands]);simp only[G4,hf]
  |builtin b =>
   generalize args.toList.map (ev st.t)=l
   match l with
   | []=>cases b<;>rfl
   | [x]=>cases b<;>cases x<;>rfl
   | [x,y]=>cases b<;>cases x<;>rfl
   |x::_::_::_=>cases b<;>cases x<;>rfl
  |invoke r m=>rfl
 |box e x=>simp only[Fs,h x (by simp[Op.operands])]
 |buildSlice t n ps =>
  have hx:ps.toList.map (fun p=>ev st2.t p.2)=ps.toList.map (fun p=>ev st.t p.2):=Be fun p hp=>h p.2 (by
   simp only[Op.operands,List.mem_toArray];exact Am.2 ⟨p,hp,rfl⟩)
  simp only[Fs,hx]
 |store t p x=>simp only[Fs,h p (by simp[Op.operands]),h x (by simp[Op.operands])]
 |mapUpdate t m k x=>simp only[Fs,h m (by simp[Op.operands]),h x (by simp[Op.operands])]
 |makeFunc fn first cap =>
  have hx:cap.toList.map (ev st2.t)=cap.toList.map (ev st.t):=Be fun x hx=>h x (by simp only[Op.operands,So];exact .inr (by simpa using hx));simp only[Fs,hx]
 |load t p=>simp only[Fs,h p (by simp[Op.operands])]
 |assign x=>simp only[Fs,h x (by simp[Op.operands])]
 |binOp op t x y u=>simp only[Fs,h x (by simp[Op.operands])]
 |slice t x lo hi mx=>simp only[Fs,h x (by simp[Op.operands])]
 |lookup t x i ok=>simp only[Fs,h x (by simp[Op.operands])]
 |_=>rfl
def Kw(ops:Array Oper)(o:Oper)(st st2:St):Prop:=∀d∈o.looksAt ops,st2.t d=st.t d
theorem Kw.operands{ops:Array Oper}{o:Oper}{st st2:St}(h:Kw ops o st st2):∀x∈o.op.operands,ev st2.t x=ev st.t x:=fun x hx=>by
 cases x with
 |tmp t=>exact h t (Bn _ (List.mem_filterMap.2 ⟨.tmp t,by simpa using hx,rfl⟩))
 |_=>rfl
theorem VF(ops:Array Oper)(j:Nat):Km ops.toList j=(ops[j]?).bind (·.dst):=by
 have:∀(l:List Oper) (j:Nat),Km l j=(l[j]?).bind (·.dst):=by
  intro l
  induction l with
  |nil=>intro j;simp[Km]
  |cons o l ih =>
   intro j;cases j with
   |zero=>simp[Km]
   |succ j=>simp[Km,ih]
 rw[this];simp
theorem Kw.guard{ops:Array Oper}{o:Oper}{st st2:St}(h:Kw ops o st st2){j:Nat}{b:Bool}(hg:o.guard=some (j,b)){d:Nat}(hd:Km ops.toList j=some d):st2.t d=st.t d :=
 h d (Bg _ (by rw[hg];simp only;rw[←VF,hd];simp))
def St.after(st:St)(o:Oper)(v:AV)(e:List (Nat×HO)):St:=st.put o.dst v (In st.h e)
def PO(cx:Cx)(ops:Array Oper)(o:Oper)(st:St)(f:FH)(v:AV)(e:List (Nat×HO)):Prop :=
 (∀r o',(r,o')∈e→Sq f.2 r∧r∈f.1)∧∀st2,Kw ops o st st2→(∀r∈f.1,st2.h r=st.h r)→∀K:St→Prop,K (st2.after o v e)→Hl cx true ops.toList o st2 K
theorem Tg{cx:Cx}{ops:Array Oper}{o:Oper}{st st2:St}(h:Kw ops o st st2):Nq cx ops.toList o st2=Nq cx ops.toList o st:=by
 unfold Nq;split
 ·exact Vh h.operands
 ·rename_i j want hg;split
  ·rfl
  ·rename_i d hd;simp only[h.guard hg hd];split<;>first | exact Vh h.operands | rfl
theorem Oy{cx:Cx}{ops:Array Oper}{o:Oper}{st:St}{f:FH}{K:St→Prop}(hk:Hl cx true ops.toList o st K)(hf:Nq cx ops.toList o st=some f) :
  ∃v e,PO cx ops o st f v e∧K (st.after o v e):=by
 obtain⟨R,w⟩:=f;have skip:R=[]∧w=none→K (st.put o.dst (.v undef) st.h)→(∀st2,Kw ops o st st2→∀K:St→Prop,K (st2.put o.dst (.v undef) st2.h)→Hl cx true ops.toList o st2 K)→∃v e,PO cx ops o st (R,w) v e∧K (st.after o v e):=by
  rintro⟨rfl,rfl⟩ h1 h2
  exact⟨.v undef,[],⟨fun r o' e=>(by cases e),fun st2 hl _ K h=>h2 st2 hl K h⟩,h1⟩
 have run:Fs cx o st=some (R,w)→F2 cx true o st (fun v h=>K (st.put o.dst v h))→(∀st2,Kw ops o st st2→∀K:St→Prop,F2 cx true o st2 (fun v h=>K (st2.put o.dst v h))→Hl cx true ops.toList o st2 K)→∃v e,PO cx ops o st (R,w) v e∧K (st.after o v e):=by
  intro hf hk h2;obtain⟨v,e,q1,q2,q3⟩:=bQ hk hf;exact⟨v,e,⟨q2,fun st2 hl hh K h=>h2 st2 hl K (q3 st2 ⟨hl.operands,hh⟩ _ h)⟩,q1⟩
 unfold Hl at hk;unfold Nq at hf;cases hg:o.guard with
 |none =>
  rw[hg]at hk hf;exact run hf hk (fun st2 hl K h=>by unfold Hl;rw[hg];exact h)
 |some p =>
  obtain⟨j,want⟩:=p;rw[hg]at hk hf;simp only at hk hf;cases hd:Km ops.toList j with
  |none=>rw[hd]at hk;exact hk.elim
  |some d =>
   rw[hd]at hk hf;simp only at hk hf;have he:∀st2,Kw ops o st st2→st2.t d=st.t d:=fun st2 hl=>hl.guard hg hd;generalize hx:st.t d=x at hk hf he;split at hk
   ·exact run hf hk (fun st2 hl K h=>by unfold Hl;simp only[hg,hd,he st2 hl];exact h)
   ·exact run hf hk (fun st2 hl K h=>by unfold Hl;simp only[hg,hd,he st2 hl];exact h)
   ·exact skip (by cases hf;exact⟨rfl,rfl⟩) hk (fun st2 hl K h=>by unfold Hl;simp only[hg,hd,he st2 hl];exact h)
   ·exact skip (by cases hf;exact⟨rfl,rfl⟩) hk (fun st2 hl K h=>by unfold Hl;simp only[hg,hd,he st2 hl];exact h)
   ·exact skip (by cases hf;exact⟨rfl,rfl⟩) hk (fun st2 hl K h=>by unfold Hl;simp only[hg,hd,he st2 hl];exact h)
   ·exact hk.elim
def qn(cx:Cx)(ops:Array Oper)(FT:Nat→FH)(i:Nat)(K:St→Prop)(st:St):Prop :=
 match ops[i]? with
 |none=>K st
 |some o=>Nq cx ops.toList o st=some (FT i)∧Hl cx true ops.toList o st K
def Xr(cx:Cx)(ops:Array Oper)(FT:Nat→FH)(K:St→Prop):Nat→Array Bool→St→Prop
 |0,listed,st=>Region.ready .any ops listed=[]∧K st
 |fuel+1,listed,st =>
  (Region.ready .any ops listed=[]→K st)∧∀i∈Region.ready .any ops listed,qn cx ops FT i (Xr cx ops FT K fuel (listed.setIfInBounds i true)) st
theorem dT(t:Nat→AV){d d' : Nat}(h:d'≠d)(v v' : AV):Hh (Hh t d v) d' v'=Hh (Hh t d' v') d v:=by
 funext i
 unfold Hh
 by_cases h1:i=d<;>by_cases h2:i=d'
 ·exact absurd (h2.symm.trans h1) h
 ·subst h1;simp[CM h2]
 ·subst h2;simp[CM h1]
 ·simp[CM h1,CM h2]
theorem cG(t:Nat→HO){d d' : Nat}(h:d'≠d)(v v' : HO):A0 (A0 t d v) d' v'=A0 (A0 t d' v') d v:=by
 funext i
 unfold A0
 by_cases h1:i=d<;>by_cases h2:i=d'
 ·exact absurd (h2.symm.trans h1) h
 ·subst h1;simp[CM h2]
 ·subst h2;simp[CM h1]
 ·simp[CM h1,CM h2]
theorem Ph{l:List Nat}{n:Nat}(h:n∈l):IU l n=true:=by
 induction l with
 |nil=>cases h
 |cons a l ih =>
  unfold IU
  by_cases e:a=n
  ·subst e;simp
  ·rw[CM e];exact ih ((AA.1 h).resolve_left (fun q=>e q.symm))
theorem Yx{l:List Nat}{n:Nat}(h:IU l n=true):n∈l:=by
 induction l with
 |nil=>cases h
 |cons a l ih =>
  unfold IU at h
  by_cases e:a=n
  ·exact e▸Ab ..
  ·rw[CM e]at h;exact Ai _ (ih h)
theorem YI{l:List Nat}{x:Nat}(h:YG l x=true):∀r,Sq (some x) r→r∉l:=by
 intro r hc hr;unfold YG at h
 by_cases hx:x=Wn
 ·subst hx;rw[CX,JZ]at h;cases l with
  |nil=>cases hr
  |cons a l=>cases h
 rw[CM hx,Ew]at h;simp only[Ah,Cj,CT,Cg]at h;rcases hc with rfl | ⟨h1,h2⟩ | hc
 ·rw[Ph hr]at h;cases h.1
 ·rcases h.2 with h3 | h3
  ·omega
  ·rcases h2 with rfl | rfl
   ·rw[Ph hr]at h3;cases h3.1
   ·rw[Ph hr]at h3;cases h3.2
 ·exact hx hc
theorem cg{a b:FH}(h:SW a b=true):(∀r,Sq a.2 r→r∉b.1)∧∀r,Sq b.2 r→r∉a.1:=by
 obtain⟨a1,a2⟩:=a;obtain⟨b1,b2⟩:=b;simp only[SW,Ah]at h;refine⟨fun r e=>?_,fun r e=>?_⟩
 ·cases a2 with
  |none=>exact e.elim
  |some x=>exact YI h.1 r e
 ·cases b2 with
  |none=>exact e.elim
  |some x=>exact YI h.2 r e
section
variable {cx:Cx}{ops:Array Oper}{FT:Nat→FH}
theorem Rr{oi oj:Oper}(h:∀d,oi.dst=some d→d∉oj.looksAt ops)(st:St)(v:AV)(e:List (Nat×HO)):Kw ops oj st (st.after oi v e):=by
 intro d hd;cases hdst:oi.dst with
 |none=>simp[St.after,St.put,hdst]
 |some d' =>
  have:d≠d':=fun q=>h d' hdst (q▸hd)
  simp[St.after,St.put,hdst,Hh,CM this]
theorem Kw.symm{o:Oper}{st st2:St}(h:Kw ops o st st2):Kw ops o st2 st:=fun d hd=>(h d hd).symm
theorem aO{o:Oper}{st:St}{v:AV}{e:List (Nat×HO)}:(st.after o v e).h=In st.h e:=by
 unfold St.after St.put;cases o.dst<;>rfl
theorem PW{r:Nat}:∀{e:List (Nat×HO)} {h:Nat→HO},(∀o',(r,o')∉e)→In h e r=h r
 | [],_,_=>rfl
 |p::e,h,hr=>by
  have:r≠p.1:=fun q=>hr p.2 (by rw[q];exact Ab ..)
  show In (A0 h p.1 p.2) e r=h r;rw[PW fun o' ho=>hr o' (Ai _ ho),BZ _ _ _ _ this]
theorem XK{r:Nat}{o:HO}:∀{e:List (Nat×HO)} {h:Nat→HO},(∀r' o',(r',o')∈e→r'≠r)→In (A0 h r o) e=A0 (In h e) r o
 | [],_,_=>rfl
 |p::e,h,hr=>by
  show In (A0 (A0 h r o) p.1 p.2) e=A0 (In (A0 h p.1 p.2) e) r o;rw[cG h (hr p.1 p.2 (Ab ..)),XK fun r' o' ho=>hr r' o' (Ai _ ho)]
theorem Ve:∀{e e' : List (Nat×HO)} {h:Nat→HO},(∀r o r' o',(r,o)∈e→(r',o')∈e'→r'≠r)→In (In h e) e'=In (In h e') e
 | [],_,_,_=>rfl
 |p::e,e',h,hd=>by
  show In (In (A0 h p.1 p.2) e) e'=In (A0 (In h e') p.1 p.2) e;rw[←XK fun r' o' ho=>hd p.1 p.2 r' o' (Ab ..) ho,Ve fun r o r' o' h1 h2=>hd r o r' o' (Ai _ h1) h2]
theorem Zc{oi oj:Oper}{st:St}{v v' : AV}{e e' : List (Nat×HO)}(h1:∀d,oi.dst=some d→oj.dst≠some d)(h2:∀r o r' o',(r,o)∈e→(r',o')∈e'→r'≠r) :
  (st.after oi v e).after oj v' e'=(st.after oj v' e').after oi v e:=by
 have hh:In (In st.h e) e'=In (In st.h e') e:=Ve h2;have key:∀o:Oper,∀v e,∀st:St,st.after o v e=⟨match o.dst with | none=>st.t | some d=>Hh st.t d v,In st.h e⟩:=fun o v e st=>by
  unfold St.after St.put;cases o.dst<;>rfl
 rw[key,key,key,key];simp only[hh];cases hi:oi.dst with
 |none=>rfl
 |some d =>
  cases hj:oj.dst with
  |none=>rfl
  |some d' =>
   have DF:d'≠d:=fun q=>h1 d hi (by rw[hj,q]);simp only[dT st.t DF v v']
theorem Zb{K:St→Prop}{i:Nat}{oi:Oper}{v:AV}{e:List (Nat×HO)}(hi:ops[i]?=some oi)(D:Nat→Prop)
  (hD:∀j,D j→∃oj,ops[j]?=some oj∧∃ed∈oj.after,Region.binds .any ed=true∧(ed.on=i∨D ed.on)) :
  ∀(fuel:Nat) (listed:Array Bool) (st:St),
   (∀j oj,ops[j]?=some oj→j≠i→listed.getD j true=false→¬D j→oi.apart ops oj=true∧SW (FT i) (FT j)=true) →
   i∈Region.ready .any ops listed→(∀j,D j→listed.getD j true=false)→Nq cx ops.toList oi st=some (FT i)→PO cx ops oi st (FT i) v e →
   Xr cx ops FT K fuel (listed.setIfInBounds i true) (st.after oi v e)→Xr cx ops FT K (fuel+1) listed st:=by
 have here:∀(fuel:Nat) (listed:Array Bool) (st:St),Nq cx ops.toList oi st=some (FT i)→PO cx ops oi st (FT i) v e →
   Xr cx ops FT K fuel (listed.setIfInBounds i true) (st.after oi v e)→qn cx ops FT i (Xr cx ops FT K fuel (listed.setIfInBounds i true)) st:=by
  intro fuel listed st hf hy H;unfold qn;rw[hi];exact⟨hf,hy.2 st (fun _ _=>rfl) (fun _ _=>rfl) _ H⟩
 intro fuel
 induction fuel with
 |zero =>
  intro listed st _ hr _ hf hy H;refine⟨fun h=>(by rw[h]at hr;cases hr),fun j hj=>?_⟩
  by_cases Je:j=i
  ·subst Je;exact here 0 listed st hf hy H
  ·have:=ready_mono hj Je
   rw[H.1]at this;cases this
 |succ fuel ih =>
  intro listed st Aa hr zp hf hy H;refine⟨fun h=>(by rw[h]at hr;cases hr),fun j hj=>?_⟩
  by_cases Je:j=i
  ·subst Je;exact here (fuel+1) listed st hf hy H
  ·have h1:=H.2 j (ready_mono hj Je);obtain⟨rO,oj,kQ,F6⟩:=mem_ready.1 hj;have qZ:∀k,listed.getD k true=false→listed.getD k false=true→False:=fun k h0 h1=>by
    rcases B7 k listed.size with h' | h'
    ·simp[h']at h0 h1;rw[h0]at h1;cases h1
    ·simp[Array.getElem?_eq_none h']at h1
   have ul:¬D j:=fun ue=>by
    obtain⟨oj',mE,ed,he,hb,hon⟩:=hD j ue;rw[kQ]at mE;cases mE;have hl:=F6 ed he hb;rcases hon with h2 | h2
    ·exact qZ _ (by rw[h2];exact(mem_ready.1 hr).1) hl
    ·exact qZ _ (zp _ h2) hl
   obtain⟨rr,ue⟩:=Aa j oj kQ Je rO ul;obtain⟨a1,a2,a3⟩:=Oper.apart_spec rr;obtain⟨d1,d2⟩:=cg ue;unfold qn at h1⊢;rw[kQ]at h1⊢;obtain⟨zD,hkj⟩:=h1;have zM:=Rr (ops:=ops) a1 st v e;obtain⟨vj,ej,hyj,hK⟩:=Oy hkj zD;have wR:∀r o',(r,o')∈e→r∉(FT j).1:=fun r o' q=>d1 r (hy.1 r o' q).1;have d7:∀r o',(r,o')∈ej→r∉(FT i).1:=fun r o' q=>d2 r (hyj.1 r o' q).1;refine⟨by rw[←Tg zM];exact zD,hyj.2 st zM.symm (fun r oF=>?_) _ ?_⟩
   ·rw[aO,PW (fun o' q=>wR r o' q oF)]
   ·have zL:=Rr (ops:=ops) a3 st vj ej;refine ih (listed.setIfInBounds j true) (st.after oj vj ej) (fun k ok hk zK kV RL=>?_) (ready_mono hr (Ne.symm Je)) (fun k hk=>?_) (by rw[Tg zL];exact hf) ⟨hy.1,fun st2 hl hh K' h'=>?_⟩ ?_
    ·by_cases kM:j=k
     ·subst kM;exact Aa _ ok hk zK rO RL
     ·rw[getD_set_ne true kM]at kV;exact Aa k ok hk zK kV RL
    ·by_cases kM:j=k
     ·subst kM;exact absurd hk ul
     ·rw[getD_set_ne true kM];exact zp k hk
    ·refine hy.2 st2 (fun d hd=>(hl d hd).trans (zL d hd)) (fun r oF=>?_) K' h';rw[hh r oF,aO,PW (fun o' q=>d7 r o' q oF)]
    ·rw[Array.setIfInBounds_comm _ _ (Ne.symm Je)]at hK;rw[←Zc a2 (fun r o r' o' q q' e2=>d7 r' o' q' (by rw[e2];exact(hy.1 r o q).2))];exact hK
def m8(cx:Cx)(ops:Array Oper)(K:St→Prop):List Oper→List FH→St→Prop
 | [],[],st=>K st
 |o::r,f::fs,st=>Nq cx ops.toList o st=some f∧∃v e,PO cx ops o st f v e∧m8 cx ops K r fs (st.after o v e)
 |_,_,_=>False
theorem Sy{K:St→Prop}:∀(l:List Oper) (acc:List FH) (st:St),Xv cx ops l acc st K→∃fs,SX ops (acc.reverse++fs)=true∧m8 cx ops K l fs st
 | [],acc,st,h=>⟨[],by simpa using h.1,h.2⟩
 |o::r,acc,st,h=>by
  unfold Xv at h;split at h
  ·rename_i f hf;obtain⟨v,e,h1,h2⟩:=Oy h hf;obtain⟨fs,q1,q2⟩:=Sy r _ _ h2;exact⟨f::fs,by simpa using q1,hf,v,e,h1,q2⟩
  ·exact h.elim
theorem WJ{o:Oper}{i:Nat}{D:List Nat}(h:OZ o i D=true):∃ed∈o.after,Region.binds .any ed=true∧(ed.on=i∨ed.on∈D):=by
 unfold OZ at h;obtain⟨ed,h1,h2⟩:=Bc.1 h;simp only[Ah,Cj]at h2;exact⟨ed,by simpa using h1,h2.1,h2.2.imp AM Yx⟩
theorem Ul{i:Nat}{D:List Nat}:∀(l:List Oper) (k:Nat),Uk i D k l=true→∀j o,l[j]?=some o→k+j∈D→OZ o i D=true
 | [],_,_,_,_,h,_=>by simp at h
 |o::l,k,hs,j,o',h,hm=>by
  simp only[Uk,Ah]at hs;cases j with
  |zero =>
   simp only[A8,Bo]at h;subst h;have h1:=hs.1;rw[Ph (by simpa using hm)]at h1;simpa using h1
  |succ j=>exact Ul l (k+1) hs.2 j o' (by simpa using h) (by rw[GJ,Nat.add_comm 1 j];exact hm)
theorem UX{oi:Oper}{fi:FH}{D:List Nat}:∀(l:List Oper) (fs:List FH) (k:Nat),IC ops oi fi D k l fs=true→l.length=fs.length∧∀j o f,l[j]?=some o→fs[j]?=some f→k+j∉D→oi.apart ops o=true∧SW fi f=true
 | [],[],_,_=>⟨rfl,fun _ _ _ h=>by simp at h⟩
 | [],_::_,_,h=>by simp[IC]at h
 |_::_,[],_,h=>by simp[IC]at h
 |o::l,f::fs,k,h=>by
  simp only[IC,Ah,Cj]at h;obtain⟨h1,h2⟩:=UX l fs (k+1) h.2;refine⟨by simp[h1],fun j o' f' q1 q2 hn=>?_⟩;cases j with
  |zero =>
   simp only[A8,Bo]at q1 q2;subst q1;subst q2;rcases h.1 with h3 | h3
   ·exact absurd (Yx h3) hn
   ·exact h3
  |succ j=>exact h2 j o' f' (by simpa using q1) (by simpa using q2) (by simpa[Nat.add_assoc,Nat.add_comm 1 j]using hn)
theorem Xs{K:St→Prop}:∀(l:List Oper) (fs:List FH) (k:Nat) (listed:Array Bool) (st:St),(∀j,l[j]?=ops[k+j]?)→(∀j f,fs[j]?=some f→FT (k+j)=f)→listed.size=ops.size →
  (∀j,j<ops.size→listed.getD j true=decide (j<k))→L1 ops ops.toList k l fs=true→m8 cx ops K l fs st→Xr cx ops FT K l.length listed st
 | [],[],k,listed,st,hl,_,hs,hL,_,h=>by
  refine⟨?_,h⟩;apply LJ.2;intro j hj;obtain⟨h1,o,ho,_⟩:=mem_ready.1 hj;have DB:=(Bw.1 ho).1;rw[hL j DB]at h1;have pY:k≤j:=by simpa using h1
  have:=hl (j-k)
  rw[show k+(j-k)=j by omega,ho]at this;simp at this
 | [],_::_,_,_,_,_,_,_,_,h,_=>by simp[L1]at h
 |_::_,[],_,_,_,_,_,_,_,h,_=>by simp[L1]at h
 |o::l,f::fs,k,listed,st,hl,hF,hs,hL,hg,h=>by
  simp only[L1,Ah]at hg;obtain⟨⟨⟨⟨g1,g2⟩,g3⟩,g4⟩,g5⟩:=hg;obtain⟨hf,v,e,hy,hp⟩:=h;have h0:ops[k]?=some o:=by simpa using(hl 0).symm
  have hk:=(Bw.1 h0).1;have wq:FT k=f:=by simpa using hF 0 f rfl
  have Qc : ∀j,l[j]?=ops[k+1+j]?:=fun j=>by have:=hl (j+1);simpa[Nat.add_assoc,Nat.add_comm 1 j]using this
  have pR : ∀j f,fs[j]?=some f→FT (k+1+j)=f:=fun j f' hj=>by have:=hF (j+1) f' (by simpa using hj);simpa[Nat.add_assoc,Nat.add_comm 1 j]using this
  obtain⟨CB,rr⟩:=UX l fs (k+1) g4;have aM:∀j,j∈PV k [] 0 ops.toList→k<j∧j<ops.size:=fun j hj=>by
   have:=(AY.1 g3) j hj
   simp only[Ah,Cg,B3]at this;exact this
  refine Zb h0 (fun j=>j∈PV k [] 0 ops.toList) (fun j hj=>?_) l.length listed st (fun j oj kQ kM kV ul=>?_) ?_ (fun j hj=>?_) (by rw[wq];exact hf) (by rw[wq];exact hy) ?_
  ·have DB:=(aM j hj).2
   have:=Ul ops.toList 0 g2 j ops[j] (by simp[DB]) (by simpa using hj)
   obtain⟨ed,e1,e2,e3⟩:=WJ this;exact⟨ops[j],by simp[DB],ed,e1,e2,e3⟩
  ·have DB:=(Bw.1 kQ).1;rw[hL j DB]at kV;have pY:k<j:=by have q:k≤j:=(by simpa using kV);omega
   have e1:l[j-(k+1)]?=some oj:=by rw[Qc,show k+1+(j-(k+1))=j by omega];exact kQ
   have hfl:j-(k+1)<fs.length:=by rw[←CB];exact(As.1 e1).1
   have e2:fs[j-(k+1)]?=some fs[j-(k+1)]:=Ax hfl;have e3:=pR _ _ e2;rw[show k+1+(j-(k+1))=j by omega]at e3;rw[wq,e3];exact rr _ _ _ e1 e2 (by rw[show k+1+(j-(k+1))=j by omega];exact ul)
  ·refine mem_ready.2 ⟨by rw[hL k hk];simp,o,h0,fun ed he hb=>?_⟩
   have:=(AY.1 g1) ed (by simpa using he)
   simp only[hb,Bool.not_true,Jp,Cg]at this;have h1:=hL ed.on (by omega);have DB:ed.on<listed.size:=by omega
   simp[DB]at h1⊢;rw[h1];simpa using this
  ·have:=aM j hj
   rw[hL j this.2];simp;omega
  ·refine Xs l fs (k+1) _ _ Qc pR (by simp[hs]) (fun j hj=>?_) g5 hp
   by_cases kM:j=k
   ·subst kM
    have:j<listed.size:=by omega
    simp[this]
   ·rw[getD_set_ne true (Ne.symm kM),hL j hj]
    by_cases h1:j<k
    ·simp[h1];omega
    ·simp[h1];omega
theorem bN{K:St→Prop}{st:St}(h:Xv cx ops ops.toList [] st K):Region.noSelect ops=true∧∃FT,Xr cx ops FT K ops.size (Array.replicate ops.size false) st:=by
 obtain⟨fs,h1,h2⟩:=Sy _ _ _ h;simp only[SX,List.reverse_nil,FK,Ah]at h1;refine⟨h1.1,fun j=>fs.getD j default,?_⟩
 have:=Xs (FT:=fun j=>fs.getD j default) ops.toList fs 0 (Array.replicate ops.size false) st (by simp) (fun j f hj=>by simp[hj]) (by simp) (fun j hj=>by simp[hj]) h1.2 h2
 simpa using this
end
end Go.Eng
