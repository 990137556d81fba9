/- Lemmas for the claims of this seat, without a condition: part 11 (EngX, EngY, EngZ). -/
import Derived.Test.YtmcbkdbfaneofaaGreatDoorA10
namespace Go.Eng
section
variable {cx:Cx}{dst:Option Nat}{ty:Nat}{pos:String}{after:Array Edge}{gd:Option (Nat×Bool)}{st:St}{R:List Nat}{w:Option Nat}{K:HK}
theorem ZX{t:Nat}{p:Operand}(hk:Ga cx true ⟨dst,.load t p,ty,pos,after,gd⟩ st K)(hf:Fx cx ⟨dst,.load t p,ty,pos,after,gd⟩ st=some (R,w)):Em cx ⟨dst,.load t p,ty,pos,after,gd⟩ st R w K:=by
 simp only[Ga]at hk;have hn:∀st2,I8 ⟨dst,.load t p,ty,pos,after,gd⟩ R st st2→ev st2.t p=ev st.t p:=fun st2 ha=>ha.t p (by simp[Op.operands]);simp only[Fx]at hf;unfold Iy at hk;split at hf
 ·rename_i cs hp;cases hf;rw[hp]at hk;simp only at hk;exact .pick (IE _ _ _) hk fun st2 ha K' h=>by simp only[Ga,Iy,hn st2 ha,hp];exact h
 ·rename_i r off hp;cases hf;rw[hp]at hk;simp only at hk;split at hk
  ·rename_i cs hr;exact .pick (IE _ _ _) hk fun st2 ha K' h=>by simp only[Ga,Iy,hn st2 ha,hp,ha.h r (Ac ..),hr];exact h
  ·rename_i cs hr;exact .pick (IE _ _ _) hk fun st2 ha K' h=>by simp only[Ga,Iy,hn st2 ha,hp,ha.h r (Ac ..),hr];exact h
  ·exact hk.elim
 ·rename_i r n sz i off hp;cases hf;rw[hp]at hk;simp only at hk;split at hk
  ·rename_i GQ es hr;split at hk
   ·rename_i hs;exact .pick (DH (Ni fun _=>DH (IE _ _ _))) hk fun st2 ha K' h=>by simp only[Ga,Iy,hn st2 ha,hp,ha.h r (Ac ..),hr,hs];exact h
   ·exact hk.elim
  ·rename_i GQ es i' c av hr;split at hk
   ·rename_i hs;exact .pick (DH (IE _ _ _)) hk fun st2 ha K' h=>by simp only[Ga,Iy,hn st2 ha,hp,ha.h r (Ac ..),hr,hs];exact h
   ·exact hk.elim
  ·exact hk.elim
 ·cases hf
theorem WR{x:Operand}(hk:Ga cx true ⟨dst,.assign x,ty,pos,after,gd⟩ st K)(hf:Fx cx ⟨dst,.assign x,ty,pos,after,gd⟩ st=some (R,w)):Em cx ⟨dst,.assign x,ty,pos,after,gd⟩ st R w K:=by
 simp only[Ga]at hk;have hn:∀st2,I8 ⟨dst,.assign x,ty,pos,after,gd⟩ R st st2→ev st2.t x=ev st.t x:=fun st2 ha=>ha.t x (by simp[Op.operands]);simp only[Fx]at hf;split at hf
 ·cases hf
 ·rename_i hx;cases hf;have same:∃y,∀(h:Nat→HO) (K:HK),OR cx dst h (ev st.t x) K↔K y h:=by
   unfold OR;cases dst with
   |none=>exact⟨_,fun _ _=>Ri⟩
   |some d =>
    simp only;cases GZ cx.pl.tok d with
    |some sz =>
     simp only;cases Nat.beq sz 0 with
     |true=>exact⟨_,fun _ _=>Ri⟩
     |false =>
      refine⟨ev st.t x,fun h K=>?_⟩;simp only;split
      ·rename_i e;exact absurd e (hx _ _ _)
      ·exact Ri
    |none =>
     simp only;cases GZ cx.pl.arr d with
     |some sz =>
      refine⟨ev st.t x,fun h K=>?_⟩;simp only;split
      ·rename_i e;exact absurd e (hx _ _ _)
      ·exact Ri
     |none=>exact⟨_,fun _ _=>Ri⟩
  obtain⟨y,same⟩:=same;exact .pick (DB y) ((same _ _).1 hk) fun st2 ha K' h=>by simp only[Ga];rw[hn st2 ha];exact(same _ _).2 h
theorem Rx{t:Nat}{x:Operand}{lo hi mx:Option Operand}(hp:NW cx.pl.tok dst=none)(hk:Ga cx true ⟨dst,.slice t x lo hi mx,ty,pos,after,gd⟩ st K)(hf:Fx cx ⟨dst,.slice t x lo hi mx,ty,pos,after,gd⟩ st=some (R,w)) :
  Em cx ⟨dst,.slice t x lo hi mx,ty,pos,after,gd⟩ st R w K:=by
 simp only[Ga,hp]at hk;have hn:∀st2,I8 ⟨dst,.slice t x lo hi mx,ty,pos,after,gd⟩ R st st2→ev st2.t x=ev st.t x∧Ce st2.t lo=Ce st.t lo∧Ce st2.t hi=Ce st.t hi∧Ce st2.t mx=Ce st.t mx:=by
  intro st2 ha;have xY:∀y:Option Operand,(∀z,y=some z→ev st2.t z=ev st.t z)→Ce st2.t y=Ce st.t y:=by
   intro y hy;cases y with
   |none=>rfl
   |some z=>simp only[Ce];rw[hy z rfl]
  exact⟨ha.t x (by simp[Op.operands]),xY lo (fun z e=>ha.t z (by simp[Op.operands,e])),xY hi (fun z e=>ha.t z (by simp[Op.operands,e])),xY mx (fun z e=>ha.t z (by simp[Op.operands,e]))⟩
 simp only[Fx,hp]at hf;split at hf
 ·cases hf
 ·rename_i hx;cases hf;have e3:Ce st.t none=some none:=rfl
  have HL:Gz (fun K1=>GP cx dst st.h t (ev st.t x) (Ce st.t lo) (Ce st.t hi) (some none) fun v _=>K1 v) ∧
    ∀(h:Nat→HO) (K:HK),GP cx dst h t (ev st.t x) (Ce st.t lo) (Ce st.t hi) (some none) K↔GP cx dst st.h t (ev st.t x) (Ce st.t lo) (Ce st.t hi) (some none) (fun v _=>K v h):=by
   generalize ev st.t x=X at hx;unfold GP;constructor
   ·repeat' split
    all_goals first | exact CK | exact DH (DB _) | exact DH (DH (DB _)) | skip
    all_goals first | (rename_i e;cases e;done) | skip
    all_goals (exfalso;exact hx _ _ rfl)
   ·intro h K
    repeat' split
    all_goals first | exact Ri | skip
    all_goals exfalso
    all_goals first | exact hx _ _ rfl | (rename some none=some (some _)=>e4;cases e4)
  rw[e3]at hk;exact .pick HL.1 ((HL.2 _ _).1 hk) fun st2 ha K' h=>by
   obtain⟨n1,n2,n3,n4⟩:=hn st2 ha;simp only[Ga,hp];rw[n1,n2,n3,n4,e3];exact(HL.2 _ _).2 h
 ·rename_i y tk es hx;obtain⟨d,rfl,e0⟩:=IT hf;cases e0;rw[hx]at hk;unfold GP at hk;split at hk
  ·rename_i H6 L8 nI e1 e2 e3;split at hk
   ·split at hk<;>first | exact hk.elim | (rename_i e;cases e)
   ·rename_i e he;split at hk
    ·exact hk.elim
    ·rename_i k Ek;simp only at hk;split at hk
     ·exfalso
      rename_i e4;simp only[Ce]at e3;split at e3<;>cases e3
     ·rename_i m;split at hk
      ·rename some d=some _=>e5
       cases e5
       split at hk
       ·rename_i oY;refine⟨_,none,hk.2.2,fun r o' e=>(by cases e),fun st2 Hk K' h'=>?_⟩;obtain⟨n1,n2,n3,n4⟩:=hn st2 Hk;simp only[Ga,hp];rw[n1,n2,n3,n4,hx,e1,e2,e3];unfold GP;simp only[he];split
        ·rename_i e0;rw[Ek]at e0;cases e0
        ·simp only[oY];exact⟨hk.1,hk.2.1,h'⟩
       rename_i oY;split at hk
       ·rename_i hd;refine⟨_,some (d,_),hk.2.2,fun r o' e=>(by cases e;exact⟨rfl,Ac ..⟩),fun st2 Hk K' h'=>?_⟩;obtain⟨n1,n2,n3,n4⟩:=hn st2 Hk;simp only[Ga,hp];rw[n1,n2,n3,n4,hx,e1,e2,e3];unfold GP;simp only[he];split
        ·rename_i e0;rw[Ek]at e0;cases e0
        ·simp only[oY];rw[Hk.h d (Ac ..),hd];exact⟨hk.1,hk.2.1,h'⟩
       ·exact hk.elim
      ·exact hk.elim
   ·exact hk.elim
  ·exact hk.elim
 ·cases hf
theorem db{t:Nat}{x:Operand}{lo hi mx:Option Operand}{p:Nat}(hp:NW cx.pl.tok dst=some p)(hk:Ga cx true ⟨dst,.slice t x lo hi mx,ty,pos,after,gd⟩ st K)(hf:Fx cx ⟨dst,.slice t x lo hi mx,ty,pos,after,gd⟩ st=some (R,w)) :
  Si cx ⟨dst,.slice t x lo hi mx,ty,pos,after,gd⟩ st R w K:=by
 simp only[Ga,hp]at hk;simp only[Fx,hp]at hf;obtain⟨d',r,n,hd,hx,e0⟩:=ZV hf;cases e0;cases dst with
 |none=>cases hd
 |some d =>
 cases hd
 unfold NP at hk;split at hk
 ·rw[hx]at hk;unfold jy at hk;split at hk
  ·rename_i d0 L8 e1 e2;cases e1;split at hk
   ·rename_i e he;split at hk
    ·exact hk.elim
    ·rename_i k Ek;simp only at hk;split at hk
     ·rename_i sz es hr;split at hk
      ·rename_i hd;split at hk
       ·rename_i q1 q3;obtain⟨h1,hk⟩:=hk;have hr8:r<10000000∧0<KT cx d:=by simpa using q3
        obtain⟨zW,hz⟩:=hr8;refine⟨_,[(r,.dead),(KT cx d,_)],hk,fun r' o' e=>?_,fun st2 ha K' h'=>?_⟩
        ·rcases Av.1 e with e | e
         ·cases e
          refine⟨.inr (.inl ⟨by omega,.inl ?_⟩),Ac ..⟩;rw[Nat.add_mul_mod_self_left,Nat.mod_eq_of_lt zW]
         ·obtain e:=As.1 e;cases e;refine⟨.inr (.inl ⟨by omega,.inr ?_⟩),Af _ (Ac ..)⟩;rw[Nat.add_mul_div_left _ _ (by decide),Nat.div_eq_of_lt zW,Bk]
        ·have o1:Ce st2.t hi=Ce st.t hi:=by
          cases hi with
          |none=>rfl
          |some z=>simp only[Ce];rw[ha.t z (by simp[Op.operands])]
         simp only[Ga,hp];unfold NP;rw[ha.t x (by simp[Op.operands]),o1,hx,e2];unfold jy;simp only[he];split
         ·rename_i e0;rw[Ek]at e0;cases e0
         ·simp only[ha.h r (Ac ..),hr,ha.h (KT cx d) (Af _ (Ac ..)),hd,q1,q3];exact⟨h1,h'⟩
       ·exact hk.elim
      ·exact hk.elim
     ·exact hk.elim
   ·exact hk.elim
  ·exact hk.elim
 ·exact hk.elim
theorem WQ{s x:Operand}{G8:Array TypeId}(hk:Ga cx true ⟨dst,.call ⟨.builtin .append,#[s,x],G8⟩,ty,pos,after,gd⟩ st K)(hf:Fx cx ⟨dst,.call ⟨.builtin .append,#[s,x],G8⟩,ty,pos,after,gd⟩ st=some (R,w)) :
  Em cx ⟨dst,.call ⟨.builtin .append,#[s,x],G8⟩,ty,pos,after,gd⟩ st R w K:=by
 have hk:Gk cx dst st.h .append G8.toList [ev st.t s,ev st.t x] K:=hk;have hf:WP cx dst (ev st.t s) (ev st.t x)=some (R,w):=hf;have hn:∀st2,I8 ⟨dst,.call ⟨.builtin .append,#[s,x],G8⟩,ty,pos,after,gd⟩ R st st2→ev st2.t s=ev st.t s∧ev st2.t x=ev st.t x:=fun st2 ha =>
  ⟨ha.t s (by simp[Op.operands,Call.operands]),ha.t x (by simp[Op.operands,Call.operands])⟩
 have HM:∀st2,I8 ⟨dst,.call ⟨.builtin .append,#[s,x],G8⟩,ty,pos,after,gd⟩ R st st2→∀K' : HK,Gk cx dst st2.h .append G8.toList [ev st.t s,ev st.t x] K'→Ga cx true ⟨dst,.call ⟨.builtin .append,#[s,x],G8⟩,ty,pos,after,gd⟩ st2 K':=by
  intro st2 ha K' h;rw[←(hn st2 ha).1,←(hn st2 ha).2]at h;exact h
 generalize G8.toList=l at hk HM
 match l,hk,HM with
 | [t,t'],hk,HM =>
  simp only[Gk]at hk HM;split at hk
  ·rename_i ht;simp only[ht]at HM;unfold IG at hk HM;split at hk
   ·rename_i e he;simp only[he]at HM;split at hk
    ·exact hk.elim
    ·rename_i hz;simp only[hz]at HM;split at hk
     ·exact hk.elim
     ·rename_i k Ek;obtain⟨es2,q1,q2⟩:=ZP hk;have kq:∀d,R=d::dI (ev st.t x)→∀st2,I8 ⟨dst,.call ⟨.builtin .append,#[s,x],G8⟩,ty,pos,after,gd⟩ R st st2→∀r n,ev st.t x=.msl r n→st2.h r=st.h r:=fun d hR st2 ha r n e=>ha.h r (by rw[hR,e];simp[dI]);unfold WP at hf;split at hf
      ·rename_i hs;obtain⟨d,dh,e0⟩:=IT hf;cases e0;rw[hs]at q1 HM;simp only at q1 HM;obtain⟨d',hd,v,y,q3,q4⟩:=II q1.2;rw[dh]at hd;cases hd;refine⟨v,some (d,y),q3,fun r o' e=>(by cases e;exact⟨rfl,Ac ..⟩),fun st2 Hk K' h'=>HM st2 Hk K' ?_⟩;split
       ·rename_i e0;rw[Ek]at e0;cases e0
       ·exact q2 st2.h (kq d rfl st2 Hk) _ ⟨q1.1,q4 st2.h (Hk.h d (Ac ..)) K' h'⟩
      ·rename_i GQ es hs;obtain⟨d,dh,e0⟩:=IT hf;cases e0;rw[hs]at q1 HM;simp only at q1 HM;split at q1
       ·rename_i h1;obtain⟨d',hd,v,y,q3,q4⟩:=II q1.2;rw[dh]at hd;cases hd;refine⟨v,some (d,y),q3,fun r o' e=>(by cases e;exact⟨rfl,Ac ..⟩),fun st2 Hk K' h'=>HM st2 Hk K' ?_⟩;split
        ·rename_i e0;rw[Ek]at e0;cases e0
        ·refine q2 st2.h (kq d rfl st2 Hk) _ ?_;simp only[h1];exact⟨q1.1,q4 st2.h (Hk.h d (Ac ..)) K' h'⟩
       ·exact q1.elim
      ·rename_i r GQ es hs;cases hf;rw[hs]at q1 HM;simp only at q1 HM;split at q1
       ·rename_i sz n hr;split at q1
        ·rename_i h1 h2;refine⟨_,some (r,_),q1.2,fun r o' e=>(by cases e;exact⟨rfl,Ac ..⟩),fun st2 Hk K' h'=>HM st2 Hk K' ?_⟩;split
         ·rename_i e0;rw[Ek]at e0;cases e0
         ·refine q2 st2.h (kq r rfl st2 Hk) _ ?_;simp only[Hk.h r (Ac ..),hr,h1,h2];exact⟨q1.1,h'⟩
        ·exact q1.elim
       ·exact q1.elim
      ·rename_i r n hs;cases hf;rw[hs]at q1 HM;simp only at q1 HM;split at q1
       ·rename_i sz es hr;split at q1
        ·rename_i h1;refine⟨_,some (r,_),q1.2,fun r o' e=>(by cases e;exact⟨rfl,Ac ..⟩),fun st2 Hk K' h'=>HM st2 Hk K' ?_⟩;split
         ·rename_i e0;rw[Ek]at e0;cases e0
         ·refine q2 st2.h (kq r rfl st2 Hk) _ ?_;simp only[Hk.h r (Ac ..),hr,h1];exact⟨q1.1,h'⟩
        ·exact q1.elim
       ·exact q1.elim
      ·cases hf
   ·exact hk.elim
  ·exact hk.elim
 | [],hk,_=>exact hk.elim
 | [_],hk,_=>exact hk.elim
 |_::_::_::_,hk,_=>exact hk.elim
theorem V3(T:GS)(t:Nat):Gz (KE T t):=by
 unfold KE
 repeat' split
 all_goals first | exact CK | exact DB _
theorem Um(T:GS)(ty:Nat)(ok:Bool)(Ca:List (Value×AV))(kx:Value):Gz (Mp T ty ok Ca kx):=by
 unfold Mp
 repeat' split
 ·refine bV (Ni fun a=>DH (DB _)) (DH ?_);intro K hk;obtain⟨v,h1,h2⟩:=V3 T _ _ hk;exact⟨_,h1,fun K' h=>h2 _ h⟩
 ·exact bV (Ni fun a=>DH (DB _)) (DH (V3 T _))
 ·exact CK
theorem Zb(T:GS)(ty:Nat)(sh:EX)(k:AV){F:Value→(AV→Prop)→Prop}(h:∀x,Gz (F x)):Gz fun K=>Ky T ty sh k fun kx=>F kx K:=by
 unfold Ky
 repeat' split
 all_goals first | exact CK | exact h _
theorem WS{t:Nat}{m k:Operand}{ok:Bool}(hk:Ga cx true ⟨dst,.lookup t m k ok,ty,pos,after,gd⟩ st K)(hf:Fx cx ⟨dst,.lookup t m k ok,ty,pos,after,gd⟩ st=some (R,w)) :
  Em cx ⟨dst,.lookup t m k ok,ty,pos,after,gd⟩ st R w K:=by
 simp only[Ga]at hk;have hn:∀st2,I8 ⟨dst,.lookup t m k ok,ty,pos,after,gd⟩ R st st2→ev st2.t m=ev st.t m∧ev st2.t k=ev st.t k:=fun st2 ha=>⟨ha.t m (by simp[Op.operands]),ha.t k (by simp[Op.operands])⟩;simp only[Fx]at hf;unfold M7 at hk;split at hf
 ·rename_i sh Ca hm;cases hf;rw[hm]at hk;simp only at hk;exact .pick (Zb _ _ _ _ fun _=>Um _ _ _ _ _) hk fun st2 ha K' h=>by simp only[Ga,M7,hn st2 ha,hm];exact h
 ·rename_i r hm;cases hf;rw[hm]at hk;simp only at hk;split at hk
  all_goals first | exact hk.elim | (rename_i e;exact .pick (Zb _ _ _ _ fun _=>Um _ _ _ _ _) hk fun st2 ha K' h=>by simp only[Ga,M7,hn st2 ha,hm,ha.h r (Ac ..),e];exact h)
 ·cases hf
theorem jt(T:GS)(t:Nat)(h:Nat→HO)(x:AV):Gz (RG T t h x):=by
 unfold RG
 repeat' split
 all_goals first | exact CK | exact DB _
theorem pI{T:GS}{t:Nat}{h h2:Nat→HO}{x:AV}(e:∀r,x=.mref r→h2 r=h r){K:AV→Prop}:RG T t h2 x K=RG T t h x K:=by
 cases x<;>first | rfl | skip
 rename_i r;unfold RG;simp only[e r rfl]
theorem da{x:Operand}{G8:Array TypeId}(hk:Ga cx true ⟨dst,.call ⟨.builtin .len,#[x],G8⟩,ty,pos,after,gd⟩ st K)(hf:Fx cx ⟨dst,.call ⟨.builtin .len,#[x],G8⟩,ty,pos,after,gd⟩ st=some (R,w)) :
  Em cx ⟨dst,.call ⟨.builtin .len,#[x],G8⟩,ty,pos,after,gd⟩ st R w K:=by
 have hk:Gk cx dst st.h .len G8.toList [ev st.t x] K:=hk;have hf:Hd cx dst (.builtin .len) st.t [ev st.t x]=some (R,w):=hf;have hn:∀st2,I8 ⟨dst,.call ⟨.builtin .len,#[x],G8⟩,ty,pos,after,gd⟩ R st st2→ev st2.t x=ev st.t x:=fun st2 ha=>ha.t x (by simp[Op.operands,Call.operands]);have HM:∀st2,I8 ⟨dst,.call ⟨.builtin .len,#[x],G8⟩,ty,pos,after,gd⟩ R st st2→∀K' : HK,Gk cx dst st2.h .len G8.toList [ev st.t x] K'→Ga cx true ⟨dst,.call ⟨.builtin .len,#[x],G8⟩,ty,pos,after,gd⟩ st2 K':=by
  intro st2 ha K' h;rw[←hn st2 ha]at h;exact h
 generalize G8.toList=l at hk HM
 match l,hk,HM with
 | [t],hk,HM =>
  have hR:∀r,ev st.t x=.mref r→r∈R:=fun r e=>by
   rw[e]at hf;cases hf;exact Ac ..
  have hw:w=none:=by
   unfold Hd at hf;split at hf<;>first | (cases hf;rfl) | (rename_i e;cases e) | (rename_i e _;cases e) | skip
   all_goals (cases hf)
  subst hw;exact .pick (jt _ _ _ _) hk fun st2 ha K' h=>HM st2 ha K' (by
   simp only[Gk];rw[pI fun r e=>ha.h r (hR r e)];exact h)
 | [],hk,_=>exact hk.elim
 |_::_::_,hk,_=>exact hk.elim
end
theorem lY{l:List Nat}{n:Nat}(h:I5 l n=true):n∈l:=by
 induction l with
 |nil=>cases h
 |cons a l ih =>
  unfold I5 at h
  by_cases e:a=n
  ·exact e▸Ac ..
  ·rw[CV e]at h;exact Af _ (ih h)
theorem XW(G:Nat→HO):∀(σ:Ji) (h:Nat→HO),Ey σ=true→(fun i=>match CC σ i with | some j=>G j | none=>h i)=Iv h (σ.map fun p=>(p.1,G p.2))
 | [],h,_=>rfl
 |(i,j)::r,h,hσ=>by
  unfold Ey at hσ;simp only[Ah]at hσ;have ih:=XW G r (A2 h i (G j)) hσ.2;show _=Iv (A2 h i (G j)) (r.map fun p=>(p.1,G p.2));rw[←ih]
  funext i'
  have hn:CC r i=none:=by
   have:=hσ.1.1.1
   cases e:CC r i with
   |none=>rfl
   |some k=>rw[e]at this;simp at this
  by_cases e:i'=i
  ·subst e;have e1:CC ((i',j)::r) i'=some j:=by unfold CC;rw[Dg];rfl
   rw[e1,hn];show G j=A2 h i' (G j) i';unfold A2;rw[Dg];rfl
  ·have e1:CC ((i,j)::r) i'=CC r i':=by
    show(bif Nat.beq i i' then some j else CC r i')=_;rw[CV (Ne.symm e)];rfl
   rw[e1];cases CC r i' with
   |some k=>rfl
   |none=>show h i'=A2 h i (G j) i';unfold A2;rw[CV e];rfl
theorem Vl{σ:Ji}{d:Nat}(hσ:Ey σ=true){h h' : Nat→HO}:Eg σ d 0 h h'=Iv h (σ.map fun p=>(p.1,(h' p.2).ren (Fo σ d 0) h')):=by
 rw[←XW (fun j=>(h' j).ren (Fo σ d 0) h') σ h hσ]
 funext i
 unfold Eg;cases CC σ i with
 |some j=>rfl
 |none =>
  have:(Nat.ble (BF d 0) i&&Nat.blt i (BF d 0))=false:=by
   rw[AF];simp only[VX,Ah,Do,Cr];omega
  simp only[this]
section
variable {cx:Cx}{op:Op}{dst:Option Nat}{ty:Nat}{pos:String}{after:Array Edge}{gd:Option (Nat×Bool)}{st:St}{R:List Nat}{w:Option Nat}{K:HK}
theorem Em.toL(h:Em cx ⟨dst,op,ty,pos,after,gd⟩ st R w K):Si cx ⟨dst,op,ty,pos,after,gd⟩ st R w K:=by
 obtain⟨v,e,h1,h2,h3⟩:=h;cases e with
 |none=>exact⟨v,[],h1,fun r o' e=>(by cases e),h3⟩
 |some p=>exact⟨v,[p],h1,fun r o' e=>by
   obtain rfl:=As.1 e;obtain⟨a,b⟩:=h2 r o' rfl;exact⟨by rw[a];exact .inl rfl,b⟩,h3⟩
theorem ZW{c:Call}(hk:Ga cx true ⟨dst,.call c,ty,pos,after,gd⟩ st K)(hf:Fx cx ⟨dst,.call c,ty,pos,after,gd⟩ st=some (R,w)):Si cx ⟨dst,.call c,ty,pos,after,gd⟩ st R w K:=by
 obtain⟨oJ,args,G8⟩:=c;have JJ:∀st2,I8 ⟨dst,.call ⟨oJ,args,G8⟩,ty,pos,after,gd⟩ R st st2→args.toList.map (ev st2.t)=args.toList.map (ev st.t):=fun st2 ha =>
  Bn fun x hx=>ha.t x (by simp only[Op.operands,Call.operands,SE];exact .inr (by simpa using hx))
 cases oJ with
 |invoke r m=>exact hk.elim
 |value f =>
  have hk:GD cx true dst st (ev st.t f) (args.toList.map (ev st.t)) K:=hk;have hf:Hd cx dst (.value f) st.t (args.toList.map (ev st.t))=some (R,w):=hf;unfold Hd at hf;unfold GD at hk;simp only at hf hk;have hn:=JJ;split at hf
  ·rename_i bz;rw[bz]at hk;cases hf;obtain⟨res,h1,h2⟩:=hk;refine Em.toL ⟨res,none,h2,fun r o' e=>(by cases e),fun st2 ha K' h'=>?_⟩;show GD cx true dst st2 (ev st2.t f) (args.toList.map (ev st2.t)) K';rw[JJ st2 ha,ha.t f (by simp[Op.operands,Call.operands])];unfold GD;simp only[bz];refine⟨res,?_,h'⟩;rw[Lg (h:=st.h) (fun r hr=>ha.h r (Br _ hr)),Ra (h:=st.h) (fun r hr=>ha.h r (Bv _ hr))];exact h1
  ·rename_i bz;rw[bz]at hk;simp only at hk;cases dst with
   |none=>exact hk.elim
   |some d =>
    obtain⟨n,sz,es,h1,h2,h3⟩:=hk;have hf:some (BF d 0::(Xy (ev st.t f)++TM (args.toList.map (ev st.t))),some (BF d 0))=some (R,w):=hf;cases hf;refine Em.toL ⟨_,some (BF d 0,_),h3,fun r o' e=>(by cases e;exact⟨rfl,Ac ..⟩),fun st2 ha K' h'=>?_⟩;show GD cx true (some d) st2 (ev st2.t f) (args.toList.map (ev st2.t)) K';rw[JJ st2 ha,ha.t f (by simp[Op.operands,Call.operands])];unfold GD;simp only[bz];refine⟨n,sz,es,?_,?_,h'⟩
    ·have:DO st2.h d 1=DO st.h d 1:=by simp only[DO,ha.h (BF d 0) (Ac ..)]
     rw[this];exact h1
    ·rw[Lg (h:=st.h) (fun r hr=>ha.h r (Af _ (Br _ hr))),Ra (h:=st.h) (fun r hr=>ha.h r (Af _ (Bv _ hr)))];exact h2
  ·rename_i bz;rw[bz]at hk;have hk:RU cx 0 dst st.h (ev st.t f) (args.toList.map (ev st.t)) K:=hk;split at hf
   ·rename_i r n l hl;cases hf;have HL:=hk;unfold RU at HL;rw[hl]at HL;split at HL
    ·rename_i d0 f0 r0 n0 l0 e1 e2 z1 z2;cases e2;split at HL
     ·rename_i vs fA;split at HL
      ·rename_i sz es hr;obtain⟨n',FW,h1,h2⟩:=HL;refine Em.toL ⟨_,some (r,_),h2,fun r o' e=>(by cases e;exact⟨rfl,Ac ..⟩),fun st2 ha K' h'=>?_⟩;show GD cx true _ st2 (ev st2.t f) (args.toList.map (ev st2.t)) K';rw[JJ st2 ha,ha.t f (by simp[Op.operands,Call.operands]),hl,e1];unfold GD;simp only[bz];unfold PN;simp only;unfold RU;simp only[fA,ha.h r (Ac ..),hr];exact⟨n',FW,h1,h'⟩
      ·exact HL.elim
     ·exact HL.elim
    ·exact HL.elim
   ·cases hf
  ·rename_i k bz;rw[bz]at hk;cases hb:Nat.beq k 1 with
   |true =>
    have UW:Nat.beq (k+1) 2=true:=hb;have hk:UG cx dst st (ev st.t f) (args.toList.map (ev st.t)) K:=by
     have HL:(match Nat.beq (k+1) 2 with | true=>UG cx dst st (ev st.t f) (args.toList.map (ev st.t)) K | false=>match Nat.beq (k+1) 3 with | true=>Rg cx dst st (ev st.t f) (args.toList.map (ev st.t)) K | false=>PN cx (k+1) dst st (ev st.t f) (args.toList.map (ev st.t)) K):=hk;rw[UW]at HL;exact HL
    rw[hb]at hf;cases dst with
    |none=>exact hk.elim
    |some d =>
     obtain⟨sz,es,h1,h2,h3⟩:=hk;have hf:some (BF d 0::(Xy (ev st.t f)++TM (args.toList.map (ev st.t))),some (BF d 0))=some (R,w):=hf;cases hf;refine Em.toL ⟨_,some (BF d 0,_),h3,fun r o' e=>(by cases e;exact⟨rfl,Ac ..⟩),fun st2 ha K' h'=>?_⟩;show GD cx true (some d) st2 (ev st2.t f) (args.toList.map (ev st2.t)) K';rw[JJ st2 ha,ha.t f (by simp[Op.operands,Call.operands])];unfold GD;simp only[bz,UW];refine⟨sz,es,?_,?_,h'⟩
     ·have:DO st2.h d 1=DO st.h d 1:=by simp only[DO,ha.h (BF d 0) (Ac ..)]
      rw[this];exact h1
     ·rw[Lg (h:=st.h) (fun r hr=>ha.h r (Af _ (Br _ hr))),Ra (h:=st.h) (fun r hr=>ha.h r (Af _ (Bv _ hr)))];exact h2
   |false =>
    have UW:Nat.beq (k+1) 2=false:=hb;rw[hb]at hf;have HL:(match Nat.beq (k+1) 2 with | true=>UG cx dst st (ev st.t f) (args.toList.map (ev st.t)) K | false=>match Nat.beq (k+1) 3 with | true=>Rg cx dst st (ev st.t f) (args.toList.map (ev st.t)) K | false=>PN cx (k+1) dst st (ev st.t f) (args.toList.map (ev st.t)) K):=hk;rw[UW]at HL;cases hc:Nat.beq k 2 with
    |true =>
     have qm:Nat.beq (k+1) 3=true:=hc;rw[hc]at hf;simp only[qm]at HL;have hf:gH (args.toList.map (ev st.t))=some (R,w):=hf;unfold gH at hf;unfold Rg at HL;split at hf
     ·rename_i vs fA;cases hf;split at HL
      ·rename_i l fD e1 e2 z1 z2;rw[fA]at e2;cases e2;split at HL
       ·rename_i r sz es co n e3 e4;obtain⟨⟨rfl,rfl⟩,v,FW,n',h1,h2⟩:=HL;refine⟨_,[(1001,_),(1000,_)],h2,fun r' o' e=>?_,fun st2 ha K' h'=>?_⟩
        ·rcases Av.1 e with e | e
         ·cases e
          exact⟨.inr (.inl ⟨by decide,.inr (by decide)⟩),by simp⟩
         ·obtain e:=As.1 e;cases e;exact⟨.inr (.inl ⟨by decide,.inl (by decide)⟩),by simp⟩
        show GD cx true _ st2 (ev st2.t f) (args.toList.map (ev st2.t)) K';rw[JJ st2 ha,ha.t f (by simp[Op.operands,Call.operands]),e1];unfold GD;simp only[bz,UW,qm];unfold Rg;simp only[fA,ha.h 1000 (by simp),ha.h 1001 (by simp),e3,e4];exact⟨⟨trivial,trivial⟩,v,FW,n',h1,h'⟩
       ·exact HL.elim
      ·exact HL.elim
     ·cases hf
    |false =>
    have qm:Nat.beq (k+1) 3=false:=hc;rw[hc]at hf;have VG:PN cx (k+1) dst st (ev st.t f) (args.toList.map (ev st.t)) K:=by
     simp only[qm]at HL;exact HL
    have o5:gF k dst (args.toList.map (ev st.t))=some (R,w):=hf;unfold gF at o5;unfold PN at VG;cases he:Nat.beq k 3 with
    |true =>
     have kk:Nat.beq (k+1) 4=true:=he;rw[he]at o5;rw[kk]at VG;have o5:some (ld,some Wz)=some (R,w):=o5;have VG:Yc cx dst st (ev st.t f) (args.toList.map (ev st.t)) K:=VG;cases o5;unfold Yc at VG;split at VG
     ·rename_i d f' e2 _ _ _;obtain⟨σ,H0,Hn,args',res,g1,g2,g3,g4⟩:=VG;simp only[Ah]at g2;refine⟨_,σ.map fun p=>(p.1,(Aq Hn Aa p.2).ren (Fo σ d 0) (Aq Hn Aa)),(Vl (h:=st.h) (h':=Aq Hn Aa) (d:=d) g2.1.1)▸g4,fun r' o' e=>?_,fun st2 ha K' h'=>?_⟩
      ·obtain⟨p,hp,e⟩:=Ar.1 e;cases e;exact⟨.inr (.inr rfl),lY (AR.1 g2.2 p hp)⟩
      ·show GD cx true _ st2 (ev st2.t f) (args.toList.map (ev st2.t)) K';rw[JJ st2 ha,ha.t f (by simp[Op.operands,Call.operands])];unfold GD;simp only[bz,UW,qm];unfold PN;simp only[kk];unfold Yc;rw[e2];refine⟨σ,H0,Hn,args',res,fun h2 hh=>g1 h2 fun r hr=>(hh r hr).trans (ha.h r hr),by simp only[Ah];exact g2,g3,?_⟩;rw[Vl (h:=st2.h) (h':=Aq Hn Aa) (d:=d) g2.1.1];exact h'
     ·exact VG.elim
    |false =>
    have kk:Nat.beq (k+1) 4=false:=he;rw[he]at o5;rw[kk]at VG;have hf:bo dst (args.toList.map (ev st.t))=some (R,w):=o5;have hk:RU cx (k+1) dst st.h (ev st.t f) (args.toList.map (ev st.t)) K:=VG;obtain⟨d,r,n,l,rfl,hl,e0⟩:=ZU hf;cases e0;unfold RU at hk;rw[hl]at hk;split at hk
    ·rename_i d0 f0 r0 n0 l0 e9 e1 e2;cases e9;cases e2;split at hk
     ·rename_i vs fA;split at hk
      ·rename_i sz es hr;obtain⟨n',FW,h0,h1,h2⟩:=hk;have wo:=h0;simp only[Ah,Cr]at wo;refine⟨_,[(r,.dead),(BF d 0,_)],h2,fun r' o' e=>?_,fun st2 ha K' h'=>?_⟩
       ·rcases Av.1 e with e | e
        ·cases e
         refine⟨.inr (.inl ⟨by unfold BF;omega,.inl ?_⟩),Ac ..⟩;rw[Nat.add_mul_mod_self_left,Nat.mod_eq_of_lt wo.1.2]
        ·obtain e:=As.1 e;cases e;refine⟨.inr (.inl ⟨by unfold BF;omega,.inr ?_⟩),Af _ (Ac ..)⟩;rw[Nat.add_mul_div_left _ _ (by decide),Nat.div_eq_of_lt wo.1.2,Bk]
       show GD cx true _ st2 (ev st2.t f) (args.toList.map (ev st2.t)) K';rw[JJ st2 ha,ha.t f (by simp[Op.operands,Call.operands]),hl,e1];unfold GD;simp only[bz,UW,qm];unfold PN;simp only[kk];unfold RU;simp only[fA,ha.h r (Ac ..),hr]
       have:DO st2.h d 1=DO st.h d 1:=by simp only[DO,ha.h (BF d 0) (Af _ (Ac ..))]
       exact⟨n',FW,by rw[this];exact h0,h1,h'⟩
      ·exact hk.elim
     ·exact hk.elim
    ·exact hk.elim
 |builtin b =>
  refine Em.toL ?_;have mm:∀f:Int→Int→Int,(∀(d:Option Nat) (h:Nat→HO) (G8:List Nat) (args:List AV) (K:HK),Gk cx d h b G8 args K=(match args with | [x,y]=>l5 f x y fun v=>K v h | _=>False))→R=[]∧w=none→Em cx ⟨dst,.call ⟨.builtin b,args,G8⟩,ty,pos,after,gd⟩ st R w K:=by
   rintro f hb ⟨rfl,rfl⟩
   have hk:Gk cx dst st.h b G8.toList (args.toList.map (ev st.t)) K:=hk;rw[hb]at hk;split at hk
   ·rename_i x y e;refine .pick (mp f x y) hk fun st2 ha K' h=>?_;show Gk cx dst st2.h b G8.toList (args.toList.map (ev st2.t)) K';rw[hb,JJ st2 ha,e];exact h
   ·exact hk.elim
  cases b
  case max=>exact mm max (fun d h G8 args K=>by cases args with | nil=>rfl | cons x l=>cases l with | nil=>rfl | cons y l=>cases l<;>rfl) (by
   have hf:Hd cx dst (.builtin .max) st.t (args.toList.map (ev st.t))=some (R,w):=hf;simp only[Hd]at hf;cases hf;exact⟨rfl,rfl⟩)
  case min=>exact mm min (fun d h G8 args K=>by cases args with | nil=>rfl | cons x l=>cases l with | nil=>rfl | cons y l=>cases l<;>rfl) (by
   have hf:Hd cx dst (.builtin .min) st.t (args.toList.map (ev st.t))=some (R,w):=hf;simp only[Hd]at hf;cases hf;exact⟨rfl,rfl⟩)
  case append =>
   obtain⟨l⟩:=args
   match l,hk,hf with
   | [s,x],hk,hf=>exact WQ hk hf
   | [],hk,hf=>cases G8;exact hk.elim
   | [_],hk,hf=>exact hk.elim
   |_::_::_::_,hk,hf=>exact hk.elim
  case len =>
   obtain⟨l⟩:=args
   match l,hk,hf with
   | [x],hk,hf=>exact da hk hf
   | [],hk,hf=>exact hk.elim
   |_::_::_,hk,hf=>exact hk.elim
  all_goals exact hk.elim
theorem Zy{o:Oper}(hc:∀c,o.op≠.call c)(hs:(∃t x lo hi mx,o.op=.slice t x lo hi mx)→NW cx.pl.tok o.dst=none)(hk:Ga cx true o st K)(hf:Fx cx o st=some (R,w)):Em cx o st R w K:=by
 obtain⟨dst,op,ty,pos,after,gd⟩:=o;cases op with
 |call c=>exact absurd rfl (hc c)
 |alloc e=>exact X9 hk hf
 |box e x=>exact c9 hk hf
 |buildSlice t n ps=>exact Qs hk hf
 |makeSlice t n c=>exact RW hk hf
 |makeMap t r=>exact UV hk hf
 |store t p x=>exact Ya hk hf
 |mapUpdate t m k x=>exact RX hk hf
 |makeFunc fn first cap=>exact Ty hk hf
 |load t p=>exact ZX hk hf
 |assign x=>exact WR hk hf
 |slice t x lo hi mx=>exact Rx (hs ⟨t,x,lo,hi,mx,rfl⟩) hk hf
 |lookup t x i ok=>exact WS hk hf
 |move x =>
  cases hf
  exact .pick (DB _) hk fun st2 ha K' h=>by simp only[Ga,ha.t x (by simp[Op.operands])];exact h
 |pick c a b =>
  cases hf
  exact .pick (eh _ _ _) hk fun st2 ha K' h=>by simp only[Ga,ha.t c (by simp[Op.operands]),ha.t a (by simp[Op.operands]),ha.t b (by simp[Op.operands])];exact h
 |nilCheck x =>
  cases hf
  exact .pick (ju _) hk fun st2 ha K' h=>by simp only[Ga,ha.t x (by simp[Op.operands])];exact h
 |binOp op t x y u =>
  simp only[Fx]at hf;split at hf
  ·cases hf
  ·rename_i hx;cases hf;exact .pick (d9 _ _ _ _ _ _ hx) hk fun st2 ha K' h=>by simp only[Ga,ha.t x (by simp[Op.operands]),ha.t y (by simp[Op.operands])];exact h
 |unOp op t x =>
  cases hf
  exact .pick (eu _ _) hk fun st2 ha K' h=>by simp only[Ga,ha.t x (by simp[Op.operands])];exact h
 |convert s t x =>
  cases hf
  exact .pick (ee _ _ _ _) hk fun st2 ha K' h=>by simp only[Ga,ha.t x (by simp[Op.operands])];exact h
 |fieldAddr s x f =>
  cases hf
  exact .pick (aJ _ _ _ _) hk fun st2 ha K' h=>by simp only[Ga,ha.t x (by simp[Op.operands])];exact h
 |field s x f =>
  cases hf
  exact .pick (Za _ _ _ _) hk fun st2 ha K' h=>by simp only[Ga,ha.t x (by simp[Op.operands])];exact h
 |indexAddr t x i =>
  cases hf
  exact .pick (Un _ _ _ _) hk fun st2 ha K' h=>by simp only[Ga,ha.t x (by simp[Op.operands]),ha.t i (by simp[Op.operands])];exact h
 |index t x i =>
  cases hf
  exact .pick (aK _ _ _ _) hk fun st2 ha K' h=>by simp only[Ga,ha.t x (by simp[Op.operands]),ha.t i (by simp[Op.operands])];exact h
 |extract x i =>
  cases hf
  exact .pick (Xg _ _) hk fun st2 ha K' h=>by simp only[Ga,ha.t x (by simp[Op.operands])];exact h
 |build t ps =>
  cases hf
  refine .pick (aI _ _ _ _) hk fun st2 ha K' h=>?_;have hx:∀p∈ps.toList,ev st2.t p.2=ev st.t p.2:=fun p hp=>ha.t p.2 (by
   simp only[Op.operands,List.mem_toArray];exact Ar.2 ⟨p,hp,rfl⟩)
  simp only[Ga];have fill:∀(pl:Nat→Option (Nat×Nat)) (l:List (Nat×Operand)) (cs:List AV) (K:List AV→Prop),(∀p∈l,ev st2.t p.2=ev st.t p.2)→KV pl cs st2.t l K=KV pl cs st.t l K:=by
   intro pl l
   induction l with
   |nil=>intro cs K _;rfl
   |cons p l ih =>
    intro cs K hp;obtain⟨i,x⟩:=p;have h1:ev st2.t x=ev st.t x:=hp (i,x) (Ac ..);have h2:∀cs,KV pl cs st2.t l K=KV pl cs st.t l K:=fun cs=>ih cs K (fun p pm=>hp p (Af _ pm));simp only[KV,h1,h2]
  unfold Qj at h⊢;simp only[fill _ _ _ _ hx];exact h
 |_=>cases hf
theorem cD{o:Oper}(hk:Ga cx true o st K)(hf:Fx cx o st=some (R,w)):Si cx o st R w K:=by
 obtain⟨dst,op,ty,pos,after,gd⟩:=o
 by_cases h:∃c,op=.call c
 ·obtain⟨c,rfl⟩:=h;exact ZW hk hf
 ·by_cases h2:∃t x lo hi mx,op=.slice t x lo hi mx
  ·obtain⟨t,x,lo,hi,mx,rfl⟩:=h2;cases hp:NW cx.pl.tok dst with
   |none=>exact Em.toL (Rx hp hk hf)
   |some p=>exact db hp hk hf
  ·exact Em.toL (Zy (fun c e=>h ⟨c,e⟩) (fun e=>absurd e h2) hk hf)
end
theorem VB{cx:Cx}{o:Oper}{st st2:St}(h:∀x∈o.op.operands,ev st2.t x=ev st.t x):Fx cx o st2=Fx cx o st:=by
 obtain⟨dst,op,ty,pos,after,gd⟩:=o;cases op with
 |call c =>
  obtain⟨oJ,args,G8⟩:=c;have ha:args.toList.map (ev st2.t)=args.toList.map (ev st.t):=Bn fun x hx=>h x (by simp only[Op.operands,Call.operands,SE];exact .inr (by simpa using hx));simp only[Fx];rw[ha];cases oJ with
  |value f =>
   have hf:ev st2.t f=ev st.t f:=h f (by simp[Op.operands,Call.operands]);simp only[Hd,hf]
  |builtin b =>
   generalize args.toList.map (ev st.t)=l
   match l with
   | []=>cases b<;>rfl
   | [x]=>cases b<;>cases x<;>rfl
   | [x,y]=>cases b<;>cases x<;>rfl
   |x::_::_::_=>cases b<;>cases x<;>rfl
  |invoke r m=>rfl
 |box e x=>simp only[Fx,h x (by simp[Op.operands])]
 |buildSlice t n ps =>
  have hx:ps.toList.map (fun p=>ev st2.t p.2)=ps.toList.map (fun p=>ev st.t p.2):=Bn fun p hp=>h p.2 (by
   simp only[Op.operands,List.mem_toArray];exact Ar.2 ⟨p,hp,rfl⟩)
  simp only[Fx,hx]
 |store t p x=>simp only[Fx,h p (by simp[Op.operands]),h x (by simp[Op.operands])]
 |mapUpdate t m k x=>simp only[Fx,h m (by simp[Op.operands]),h x (by simp[Op.operands])]
 |makeFunc fn first cap =>
  have hx:cap.toList.map (ev st2.t)=cap.toList.map (ev st.t):=Bn fun x hx=>h x (by simp only[Op.operands,SE];exact .inr (by simpa using hx));simp only[Fx,hx]
 |load t p=>simp only[Fx,h p (by simp[Op.operands])]
 |assign x=>simp only[Fx,h x (by simp[Op.operands])]
 |binOp op t x y u=>simp only[Fx,h x (by simp[Op.operands])]
 |slice t x lo hi mx=>simp only[Fx,h x (by simp[Op.operands])]
 |lookup t x i ok=>simp only[Fx,h x (by simp[Op.operands])]
 |_=>rfl
def KK(ops:Array Oper)(o:Oper)(st st2:St):Prop:=∀d∈o.looksAt ops,st2.t d=st.t d
theorem KK.operands{ops:Array Oper}{o:Oper}{st st2:St}(h:KK ops o st st2):∀x∈o.op.operands,ev st2.t x=ev st.t x:=fun x hx=>by
 cases x with
 |tmp t=>exact h t (Br _ (List.mem_filterMap.2 ⟨.tmp t,by simpa using hx,rfl⟩))
 |_=>rfl
theorem V0(ops:Array Oper)(j:Nat):KA ops.toList j=(ops[j]?).bind (·.dst):=by
 have:∀(l:List Oper) (j:Nat),KA l j=(l[j]?).bind (·.dst):=by
  intro l
  induction l with
  |nil=>intro j;simp[KA]
  |cons o l ih =>
   intro j;cases j with
   |zero=>simp[KA]
   |succ j=>simp[KA,ih]
 rw[this];simp
theorem KK.guard{ops:Array Oper}{o:Oper}{st st2:St}(h:KK ops o st st2){j:Nat}{b:Bool}(hg:o.guard=some (j,b)){d:Nat}(hd:KA ops.toList j=some d):st2.t d=st.t d :=
 h d (Bv _ (by rw[hg];simp only;rw[←V0,hd];simp))
def St.after(st:St)(o:Oper)(v:AV)(e:List (Nat×HO)):St:=st.put o.dst v (Iv st.h e)
def Qe(cx:Cx)(ops:Array Oper)(o:Oper)(st:St)(f:FM)(v:AV)(e:List (Nat×HO)):Prop :=
 (∀r o',(r,o')∈e→SG f.2 r∧r∈f.1)∧∀st2,KK ops o st st2→(∀r∈f.1,st2.h r=st.h r)→∀K:St→Prop,K (st2.after o v e)→Hx cx true ops.toList o st2 K
theorem Tx{cx:Cx}{ops:Array Oper}{o:Oper}{st st2:St}(h:KK ops o st st2):NH cx ops.toList o st2=NH cx ops.toList o st:=by
 unfold NH;split
 ·exact VB h.operands
 ·rename_i j want hg;split
  ·rfl
  ·rename_i d hd;simp only[h.guard hg hd];split<;>first | exact VB h.operands | rfl
theorem OQ{cx:Cx}{ops:Array Oper}{o:Oper}{st:St}{f:FM}{K:St→Prop}(hk:Hx cx true ops.toList o st K)(hf:NH cx ops.toList o st=some f) :
  ∃v e,Qe cx ops o st f v e∧K (st.after o v e):=by
 obtain⟨R,w⟩:=f;have skip:R=[]∧w=none→K (st.put o.dst (.v undef) st.h)→(∀st2,KK ops o st st2→∀K:St→Prop,K (st2.put o.dst (.v undef) st2.h)→Hx cx true ops.toList o st2 K)→∃v e,Qe cx ops o st (R,w) v e∧K (st.after o v e):=by
  rintro⟨rfl,rfl⟩ h1 h2
  exact⟨.v undef,[],⟨fun r o' e=>(by cases e),fun st2 hl _ K h=>h2 st2 hl K h⟩,h1⟩
 have run:Fx cx o st=some (R,w)→Ga cx true o st (fun v h=>K (st.put o.dst v h))→(∀st2,KK ops o st st2→∀K:St→Prop,Ga cx true o st2 (fun v h=>K (st2.put o.dst v h))→Hx cx true ops.toList o st2 K)→∃v e,Qe cx ops o st (R,w) v e∧K (st.after o v e):=by
  intro hf hk h2;obtain⟨v,e,q1,q2,q3⟩:=cD hk hf;exact⟨v,e,⟨q2,fun st2 hl hh K h=>h2 st2 hl K (q3 st2 ⟨hl.operands,hh⟩ _ h)⟩,q1⟩
 unfold Hx at hk;unfold NH at hf;cases hg:o.guard with
 |none =>
  rw[hg]at hk hf;exact run hf hk (fun st2 hl K h=>by unfold Hx;rw[hg];exact h)
 |some p =>
  obtain⟨j,want⟩:=p;rw[hg]at hk hf;simp only at hk hf;cases hd:KA ops.toList j with
  |none=>rw[hd]at hk;exact hk.elim
  |some d =>
   rw[hd]at hk hf;simp only at hk hf;have he:∀st2,KK ops o st st2→st2.t d=st.t d:=fun st2 hl=>hl.guard hg hd;generalize hx:st.t d=x at hk hf he;split at hk
   ·exact run hf hk (fun st2 hl K h=>by unfold Hx;simp only[hg,hd,he st2 hl];exact h)
   ·exact run hf hk (fun st2 hl K h=>by unfold Hx;simp only[hg,hd,he st2 hl];exact h)
   ·exact skip (by cases hf;exact⟨rfl,rfl⟩) hk (fun st2 hl K h=>by unfold Hx;simp only[hg,hd,he st2 hl];exact h)
   ·exact skip (by cases hf;exact⟨rfl,rfl⟩) hk (fun st2 hl K h=>by unfold Hx;simp only[hg,hd,he st2 hl];exact h)
   ·exact skip (by cases hf;exact⟨rfl,rfl⟩) hk (fun st2 hl K h=>by unfold Hx;simp only[hg,hd,he st2 hl];exact h)
   ·exact hk.elim
def qP(cx:Cx)(ops:Array Oper)(FT:Nat→FM)(i:Nat)(K:St→Prop)(st:St):Prop :=
 match ops[i]? with
 |none=>K st
 |some o=>NH cx ops.toList o st=some (FT i)∧Hx cx true ops.toList o st K
def XE(cx:Cx)(ops:Array Oper)(FT:Nat→FM)(K:St→Prop):Nat→Array Bool→St→Prop
 |0,listed,st=>Region.ready .any ops listed=[]∧K st
 |fuel+1,listed,st =>
  (Region.ready .any ops listed=[]→K st)∧∀i∈Region.ready .any ops listed,qP cx ops FT i (XE cx ops FT K fuel (listed.setIfInBounds i true)) st
theorem fg(t:Nat→AV){d d' : Nat}(h:d'≠d)(v v' : AV):Hu (Hu t d v) d' v'=Hu (Hu t d' v') d v:=by
 funext i
 unfold Hu
 by_cases h1:i=d<;>by_cases h2:i=d'
 ·exact absurd (h2.symm.trans h1) h
 ·subst h1;simp[CV h2]
 ·subst h2;simp[CV h1]
 ·simp[CV h1,CV h2]
theorem dk(t:Nat→HO){d d' : Nat}(h:d'≠d)(v v' : HO):A2 (A2 t d v) d' v'=A2 (A2 t d' v') d v:=by
 funext i
 unfold A2
 by_cases h1:i=d<;>by_cases h2:i=d'
 ·exact absurd (h2.symm.trans h1) h
 ·subst h1;simp[CV h2]
 ·subst h2;simp[CV h1]
 ·simp[CV h1,CV h2]
theorem Pz{l:List Nat}{n:Nat}(h:n∈l):I5 l n=true:=by
 induction l with
 |nil=>cases h
 |cons a l ih =>
  unfold I5
  by_cases e:a=n
  ·subst e;simp
  ·rw[CV e];exact ih ((Av.1 h).resolve_left (fun q=>e q.symm))
theorem YP{l:List Nat}{n:Nat}(h:I5 l n=true):n∈l:=by
 induction l with
 |nil=>cases h
 |cons a l ih =>
  unfold I5 at h
  by_cases e:a=n
  ·exact e▸Ac ..
  ·rw[CV e]at h;exact Af _ (ih h)
theorem Y4{l:List Nat}{x:Nat}(h:Y2 l x=true):∀r,SG (some x) r→r∉l:=by
 intro r hc hr;unfold Y2 at h
 by_cases hx:x=Wz
 ·subst hx;rw[Dg,Ke]at h;cases l with
  |nil=>cases hr
  |cons a l=>cases h
 rw[CV hx,Ez]at h;simp only[Ah,CF,Da,Cr]at h;rcases hc with rfl | ⟨h1,h2⟩ | hc
 ·rw[Pz hr]at h;cases h.1
 ·rcases h.2 with h3 | h3
  ·omega
  ·rcases h2 with rfl | rfl
   ·rw[Pz hr]at h3;cases h3.1
   ·rw[Pz hr]at h3;cases h3.2
 ·exact hx hc
theorem cS{a b:FM}(h:Th a b=true):(∀r,SG a.2 r→r∉b.1)∧∀r,SG b.2 r→r∉a.1:=by
 obtain⟨a1,a2⟩:=a;obtain⟨b1,b2⟩:=b;simp only[Th,Ah]at h;refine⟨fun r e=>?_,fun r e=>?_⟩
 ·cases a2 with
  |none=>exact e.elim
  |some x=>exact Y4 h.1 r e
 ·cases b2 with
  |none=>exact e.elim
  |some x=>exact Y4 h.2 r e
section
variable {cx:Cx}{ops:Array Oper}{FT:Nat→FM}
theorem RI{oi oj:Oper}(h:∀d,oi.dst=some d→d∉oj.looksAt ops)(st:St)(v:AV)(e:List (Nat×HO)):KK ops oj st (st.after oi v e):=by
 intro d hd;cases hdst:oi.dst with
 |none=>simp[St.after,St.put,hdst]
 |some d' =>
  have:d≠d':=fun q=>h d' hdst (q▸hd)
  simp[St.after,St.put,hdst,Hu,CV this]
theorem KK.symm{o:Oper}{st st2:St}(h:KK ops o st st2):KK ops o st2 st:=fun d hd=>(h d hd).symm
theorem bv{o:Oper}{st:St}{v:AV}{e:List (Nat×HO)}:(st.after o v e).h=Iv st.h e:=by
 unfold St.after St.put;cases o.dst<;>rfl
theorem Qo{r:Nat}:∀{e:List (Nat×HO)} {h:Nat→HO},(∀o',(r,o')∉e)→Iv h e r=h r
 | [],_,_=>rfl
 |p::e,h,hr=>by
  have:r≠p.1:=fun q=>hr p.2 (by rw[q];exact Ac ..)
  show Iv (A2 h p.1 p.2) e r=h r;rw[Qo fun o' ho=>hr o' (Af _ ho),B8 _ _ _ _ this]
theorem XX{r:Nat}{o:HO}:∀{e:List (Nat×HO)} {h:Nat→HO},(∀r' o',(r',o')∈e→r'≠r)→Iv (A2 h r o) e=A2 (Iv h e) r o
 | [],_,_=>rfl
 |p::e,h,hr=>by
  show Iv (A2 (A2 h r o) p.1 p.2) e=A2 (Iv (A2 h p.1 p.2) e) r o;rw[dk h (hr p.1 p.2 (Ac ..)),XX fun r' o' ho=>hr r' o' (Af _ ho)]
theorem Vx:∀{e e' : List (Nat×HO)} {h:Nat→HO},(∀r o r' o',(r,o)∈e→(r',o')∈e'→r'≠r)→Iv (Iv h e) e'=Iv (Iv h e') e
 | [],_,_,_=>rfl
 |p::e,e',h,hd=>by
  show Iv (Iv (A2 h p.1 p.2) e) e'=Iv (A2 (Iv h e') p.1 p.2) e;rw[←XX fun r' o' ho=>hd p.1 p.2 r' o' (Ac ..) ho,Vx fun r o r' o' h1 h2=>hd r o r' o' (Af _ h1) h2]
theorem Zx{oi oj:Oper}{st:St}{v v' : AV}{e e' : List (Nat×HO)}(h1:∀d,oi.dst=some d→oj.dst≠some d)(h2:∀r o r' o',(r,o)∈e→(r',o')∈e'→r'≠r) :
  (st.after oi v e).after oj v' e'=(st.after oj v' e').after oi v e:=by
 have hh:Iv (Iv st.h e) e'=Iv (Iv st.h e') e:=Vx h2;have key:∀o:Oper,∀v e,∀st:St,st.after o v e=⟨match o.dst with | none=>st.t | some d=>Hu st.t d v,Iv st.h e⟩:=fun o v e st=>by
  unfold St.after St.put;cases o.dst<;>rfl
 rw[key,key,key,key];simp only[hh];cases hi:oi.dst with
 |none=>rfl
 |some d =>
  cases hj:oj.dst with
  |none=>rfl
  |some d' =>
   have DL:d'≠d:=fun q=>h1 d hi (by rw[hj,q]);simp only[fg st.t DL v v']
theorem Zw{K:St→Prop}{i:Nat}{oi:Oper}{v:AV}{e:List (Nat×HO)}(hi:ops[i]?=some oi)(D:Nat→Prop)
  (hD:∀j,D j→∃oj,ops[j]?=some oj∧∃ed∈oj.after,Region.binds .any ed=true∧(ed.on=i∨D ed.on)) :
  ∀(fuel:Nat) (listed:Array Bool) (st:St),
   (∀j oj,ops[j]?=some oj→j≠i→listed.getD j true=false→¬D j→oi.apart ops oj=true∧Th (FT i) (FT j)=true) →
   i∈Region.ready .any ops listed→(∀j,D j→listed.getD j true=false)→NH cx ops.toList oi st=some (FT i)→Qe cx ops oi st (FT i) v e →
   XE cx ops FT K fuel (listed.setIfInBounds i true) (st.after oi v e)→XE cx ops FT K (fuel+1) listed st:=by
 have here:∀(fuel:Nat) (listed:Array Bool) (st:St),NH cx ops.toList oi st=some (FT i)→Qe cx ops oi st (FT i) v e →
   XE cx ops FT K fuel (listed.setIfInBounds i true) (st.after oi v e)→qP cx ops FT i (XE cx ops FT K fuel (listed.setIfInBounds i true)) st:=by
  intro fuel listed st hf hy H;unfold qP;rw[hi];exact⟨hf,hy.2 st (fun _ _=>rfl) (fun _ _=>rfl) _ H⟩
 intro fuel
 induction fuel with
 |zero =>
  intro listed st _ hr _ hf hy H;refine⟨fun h=>(by rw[h]at hr;cases hr),fun j hj=>?_⟩
  by_cases GA:j=i
  ·subst GA;exact here 0 listed st hf hy H
  ·have:=ready_mono hj GA
   rw[H.1]at this;cases this
 |succ fuel ih =>
  intro listed st Aa hr zp hf hy H;refine⟨fun h=>(by rw[h]at hr;cases hr),fun j hj=>?_⟩
  by_cases GA:j=i
  ·subst GA;exact here (fuel+1) listed st hf hy H
  ·have h1:=H.2 j (ready_mono hj GA);obtain⟨sn,oj,lE,Fp⟩:=mem_ready.1 hj;have rI:∀k,listed.getD k true=false→listed.getD k false=true→False:=fun k h0 h1=>by
    rcases Ch k listed.size with h' | h'
    ·simp[h']at h0 h1;rw[h0]at h1;cases h1
    ·simp[Array.getElem?_eq_none h']at h1
   have ur:¬D j:=fun uj=>by
    obtain⟨oj',ns,ed,he,hb,hon⟩:=hD j uj;rw[lE]at ns;cases ns;have hl:=Fp ed he hb;rcases hon with h2 | h2
    ·exact rI _ (by rw[h2];exact(mem_ready.1 hr).1) hl
    ·exact rI _ (zp _ h2) hl
   obtain⟨rX,uj⟩:=Aa j oj lE GA sn ur;obtain⟨a1,a2,a3⟩:=Oper.apart_spec rX;obtain⟨d1,d2⟩:=cS uj;unfold qP at h1⊢;rw[lE]at h1⊢;obtain⟨zF,hkj⟩:=h1;have zO:=RI (ops:=ops) a1 st v e;obtain⟨vj,ej,hyj,hK⟩:=OQ hkj zF;have he1:∀r o',(r,o')∈e→r∉(FT j).1:=fun r o' q=>d1 r (hy.1 r o' q).1;have kk:∀r o',(r,o')∈ej→r∉(FT i).1:=fun r o' q=>d2 r (hyj.1 r o' q).1;refine⟨by rw[←Tx zO];exact zF,hyj.2 st zO.symm (fun r pn=>?_) _ ?_⟩
   ·rw[bv,Qo (fun o' q=>he1 r o' q pn)]
   ·have zN:=RI (ops:=ops) a3 st vj ej;refine ih (listed.setIfInBounds j true) (st.after oj vj ej) (fun k ok hk zM lK Sc=>?_) (ready_mono hr (Ne.symm GA)) (fun k hk=>?_) (by rw[Tx zN];exact hf) ⟨hy.1,fun st2 hl hh K' h'=>?_⟩ ?_
    ·by_cases lA:j=k
     ·subst lA;exact Aa _ ok hk zM sn Sc
     ·rw[getD_set_ne true lA]at lK;exact Aa k ok hk zM lK Sc
    ·by_cases lA:j=k
     ·subst lA;exact absurd hk ur
     ·rw[getD_set_ne true lA];exact zp k hk
    ·refine hy.2 st2 (fun d hd=>(hl d hd).trans (zN d hd)) (fun r pn=>?_) K' h';rw[hh r pn,bv,Qo (fun o' q=>kk r o' q pn)]
    ·rw[Array.setIfInBounds_comm _ _ (Ne.symm GA)]at hK;rw[←Zx a2 (fun r o r' o' q q' e2=>kk r' o' q' (by rw[e2];exact(hy.1 r o q).2))];exact hK
def nT(cx:Cx)(ops:Array Oper)(K:St→Prop):List Oper→List FM→St→Prop
 | [],[],st=>K st
 |o::r,f::fs,st=>NH cx ops.toList o st=some f∧∃v e,Qe cx ops o st f v e∧nT cx ops K r fs (st.after o v e)
 |_,_,_=>False
theorem SO{K:St→Prop}:∀(l:List Oper) (acc:List FM) (st:St),XI cx ops l acc st K→∃fs,Ti ops (acc.reverse++fs)=true∧nT cx ops K l fs st
 | [],acc,st,h=>⟨[],by simpa using h.1,h.2⟩
 |o::r,acc,st,h=>by
  unfold XI at h;split at h
  ·rename_i f hf;obtain⟨v,e,h1,h2⟩:=OQ h hf;obtain⟨fs,q1,q2⟩:=SO r _ _ h2;exact⟨f::fs,by simpa using q1,hf,v,e,h1,q2⟩
  ·exact h.elim
theorem WV{o:Oper}{i:Nat}{D:List Nat}(h:Pq o i D=true):∃ed∈o.after,Region.binds .any ed=true∧(ed.on=i∨ed.on∈D):=by
 unfold Pq at h;obtain⟨ed,h1,h2⟩:=Bb.1 h;simp only[Ah,CF]at h2;exact⟨ed,by simpa using h1,h2.1,h2.2.imp AP YP⟩
theorem UC{i:Nat}{D:List Nat}:∀(l:List Oper) (k:Nat),UB i D k l=true→∀j o,l[j]?=some o→k+j∈D→Pq o i D=true
 | [],_,_,_,_,h,_=>by simp at h
 |o::l,k,hs,j,o',h,hm=>by
  simp only[UB,Ah]at hs;cases j with
  |zero =>
   simp only[Bd,Bx]at h;subst h;have h1:=hs.1;rw[Pz (by simpa using hm)]at h1;simpa using h1
  |succ j=>exact UC l (k+1) hs.2 j o' (by simpa using h) (by rw[GR,Nat.add_comm 1 j];exact hm)
theorem Vh{oi:Oper}{fi:FM}{D:List Nat}:∀(l:List Oper) (fs:List FM) (k:Nat),IN ops oi fi D k l fs=true→l.length=fs.length∧∀j o f,l[j]?=some o→fs[j]?=some f→k+j∉D→oi.apart ops o=true∧Th fi f=true
 | [],[],_,_=>⟨rfl,fun _ _ _ h=>by simp at h⟩
 | [],_::_,_,h=>by simp[IN]at h
 |_::_,[],_,h=>by simp[IN]at h
 |o::l,f::fs,k,h=>by
  simp only[IN,Ah,CF]at h;obtain⟨h1,h2⟩:=Vh l fs (k+1) h.2;refine⟨by simp[h1],fun j o' f' q1 q2 hn=>?_⟩;cases j with
  |zero =>
   simp only[Bd,Bx]at q1 q2;subst q1;subst q2;rcases h.1 with h3 | h3
   ·exact absurd (YP h3) hn
   ·exact h3
  |succ j=>exact h2 j o' f' (by simpa using q1) (by simpa using q2) (by simpa[Nat.add_assoc,Nat.add_comm 1 j]using hn)
theorem XF{K:St→Prop}:∀(l:List Oper) (fs:List FM) (k:Nat) (listed:Array Bool) (st:St),(∀j,l[j]?=ops[k+j]?)→(∀j f,fs[j]?=some f→FT (k+j)=f)→listed.size=ops.size →
  (∀j,j<ops.size→listed.getD j true=decide (j<k))→Mk ops ops.toList k l fs=true→nT cx ops K l fs st→XE cx ops FT K l.length listed st
 | [],[],k,listed,st,hl,_,hs,hL,_,h=>by
  refine⟨?_,h⟩;apply LY.2;intro j hj;obtain⟨h1,o,ho,_⟩:=mem_ready.1 hj;have DF:=(BI.1 ho).1;rw[hL j DF]at h1;have qr:k≤j:=by simpa using h1
  have:=hl (j-k)
  rw[show k+(j-k)=j by omega,ho]at this;simp at this
 | [],_::_,_,_,_,_,_,_,_,h,_=>by simp[Mk]at h
 |_::_,[],_,_,_,_,_,_,_,h,_=>by simp[Mk]at h
 |o::l,f::fs,k,listed,st,hl,hF,hs,hL,hg,h=>by
  simp only[Mk,Ah]at hg;obtain⟨⟨⟨⟨g1,g2⟩,g3⟩,g4⟩,g5⟩:=hg;obtain⟨hf,v,e,hy,hp⟩:=h;have h0:ops[k]?=some o:=by simpa using(hl 0).symm
  have hk:=(BI.1 h0).1;have wA:FT k=f:=by simpa using hF 0 f rfl
  have Qu : ∀j,l[j]?=ops[k+1+j]?:=fun j=>by have:=hl (j+1);simpa[Nat.add_assoc,Nat.add_comm 1 j]using this
  have qj : ∀j f,fs[j]?=some f→FT (k+1+j)=f:=fun j f' hj=>by have:=hF (j+1) f' (by simpa using hj);simpa[Nat.add_assoc,Nat.add_comm 1 j]using this
  obtain⟨CJ,rX⟩:=Vh l fs (k+1) g4;have bt:∀j,j∈Qn k [] 0 ops.toList→k<j∧j<ops.size:=fun j hj=>by
   have:=(AR.1 g3) j hj
   simp only[Ah,Cr,Cb]at this;exact this
  refine Zw h0 (fun j=>j∈Qn k [] 0 ops.toList) (fun j hj=>?_) l.length listed st (fun j oj lE lA lK ur=>?_) ?_ (fun j hj=>?_) (by rw[wA];exact hf) (by rw[wA];exact hy) ?_
  ·have DF:=(bt j hj).2
   have:=UC ops.toList 0 g2 j ops[j] (by simp[DF]) (by simpa using hj)
   obtain⟨ed,e1,e2,e3⟩:=WV this;exact⟨ops[j],by simp[DF],ed,e1,e2,e3⟩
  ·have DF:=(BI.1 lE).1;rw[hL j DF]at lK;have qr:k<j:=by have q:k≤j:=(by simpa using lK);omega
   have e1:l[j-(k+1)]?=some oj:=by rw[Qu,show k+1+(j-(k+1))=j by omega];exact lE
   have hfl:j-(k+1)<fs.length:=by rw[←CJ];exact(Aw.1 e1).1
   have e2:fs[j-(k+1)]?=some fs[j-(k+1)]:=AE hfl;have e3:=qj _ _ e2;rw[show k+1+(j-(k+1))=j by omega]at e3;rw[wA,e3];exact rX _ _ _ e1 e2 (by rw[show k+1+(j-(k+1))=j by omega];exact ur)
  ·refine mem_ready.2 ⟨by rw[hL k hk];simp,o,h0,fun ed he hb=>?_⟩
   have:=(AR.1 g1) ed (by simpa using he)
   simp only[hb,Bool.not_true,JD,Cr]at this;have h1:=hL ed.on (by omega);have DF:ed.on<listed.size:=by omega
   simp[DF]at h1⊢;rw[h1];simpa using this
  ·have:=bt j hj
   rw[hL j this.2];simp;omega
  ·refine XF l fs (k+1) _ _ Qu qj (by simp[hs]) (fun j hj=>?_) g5 hp
   by_cases lA:j=k
   ·subst lA
    have:j<listed.size:=by omega
    simp[this]
   ·rw[getD_set_ne true (Ne.symm lA),hL j hj]
    by_cases h1:j<k
    ·simp[h1];omega
    ·simp[h1];omega
theorem cA{K:St→Prop}{st:St}(h:XI cx ops ops.toList [] st K):Region.noSelect ops=true∧∃FT,XE cx ops FT K ops.size (Array.replicate ops.size false) st:=by
 obtain⟨fs,h1,h2⟩:=SO _ _ _ h;simp only[Ti,List.reverse_nil,En,Ah]at h1;refine⟨h1.1,fun j=>fs.getD j default,?_⟩
 have:=XF (FT:=fun j=>fs.getD j default) ops.toList fs 0 (Array.replicate ops.size false) st (by simp) (fun j f hj=>by simp[hj]) (by simp) (fun j hj=>by simp[hj]) h1.2 h2
 simpa using this
end
end Go.Eng
