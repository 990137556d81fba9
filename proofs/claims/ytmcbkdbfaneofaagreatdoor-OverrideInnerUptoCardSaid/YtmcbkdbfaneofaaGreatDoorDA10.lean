/- Lemmas for the claims of this seat, without a condition: part 10 (EngX, EngY, EngZ). -/
import Derived.Test.YtmcbkdbfaneofaaGreatDoorDA09
namespace Go.Eng
section
variable {cx:Cx}{dst:Option Nat}{ty:Nat}{pos:String}{after:Array Edge}{gd:Option (Nat×Bool)}{st:St}{R:List Nat}{w:Option Nat}{K:HK}
theorem YS{t:Nat}{p:Operand}(hk:FL cx true ⟨dst,.load t p,ty,pos,after,gd⟩ st K)(hf:Fa cx ⟨dst,.load t p,ty,pos,after,gd⟩ st=some (R,w)):D7 cx ⟨dst,.load t p,ty,pos,after,gd⟩ st R w K:=by
 simp only[FL]at hk;have hn:∀st2,IE ⟨dst,.load t p,ty,pos,after,gd⟩ R st st2→ev st2.t p=ev st.t p:=fun st2 ha=>ha.t p (by simp[Op.operands]);simp only[Fa]at hf;unfold H2 at hk;split at hf
 ·rename_i cs hp;cases hf;rw[hp]at hk;simp only at hk;exact .pick (H7 _ _ _) hk fun st2 ha K' h=>by simp only[FL,H2,hn st2 ha,hp];exact h
 ·rename_i r off hp;cases hf;rw[hp]at hk;simp only at hk;split at hk
  ·rename_i cs hr;exact .pick (H7 _ _ _) hk fun st2 ha K' h=>by simp only[FL,H2,hn st2 ha,hp,ha.h r (Aa ..),hr];exact h
  ·rename_i cs hr;exact .pick (H7 _ _ _) hk fun st2 ha K' h=>by simp only[FL,H2,hn st2 ha,hp,ha.h r (Aa ..),hr];exact h
  ·exact hk.elim
 ·rename_i r n sz i off hp;cases hf;rw[hp]at hk;simp only at hk;split at hk
  ·rename_i Gm es hr;split at hk
   ·rename_i hs;exact .pick (DA (ME fun _=>DA (H7 _ _ _))) hk fun st2 ha K' h=>by simp only[FL,H2,hn st2 ha,hp,ha.h r (Aa ..),hr,hs];exact h
   ·exact hk.elim
  ·rename_i Gm es i' c av hr;split at hk
   ·rename_i hs;exact .pick (DA (H7 _ _ _)) hk fun st2 ha K' h=>by simp only[FL,H2,hn st2 ha,hp,ha.h r (Aa ..),hr,hs];exact h
   ·exact hk.elim
  ·exact hk.elim
 ·cases hf
theorem VU{x:Operand}(hk:FL cx true ⟨dst,.assign x,ty,pos,after,gd⟩ st K)(hf:Fa cx ⟨dst,.assign x,ty,pos,after,gd⟩ st=some (R,w)):D7 cx ⟨dst,.assign x,ty,pos,after,gd⟩ st R w K:=by
 simp only[FL]at hk;have hn:∀st2,IE ⟨dst,.assign x,ty,pos,after,gd⟩ R st st2→ev st2.t x=ev st.t x:=fun st2 ha=>ha.t x (by simp[Op.operands]);simp only[Fa]at hf;split at hf
 ·cases hf
 ·rename_i hx;cases hf;have same:∃y,∀(h:Nat→HO) (K:HK),N2 cx dst h (ev st.t x) K↔K y h:=by
   unfold N2;cases dst with
   |none=>exact⟨_,fun _ _=>Qh⟩
   |some d =>
    simp only;cases GA cx.pl.tok d with
    |some sz =>
     simp only;cases Nat.beq sz 0 with
     |true=>exact⟨_,fun _ _=>Qh⟩
     |false =>
      refine⟨ev st.t x,fun h K=>?_⟩;simp only;split
      ·rename_i e;exact absurd e (hx _ _ _)
      ·exact Qh
    |none =>
     simp only;cases GA cx.pl.arr d with
     |some sz =>
      refine⟨ev st.t x,fun h K=>?_⟩;simp only;split
      ·rename_i e;exact absurd e (hx _ _ _)
      ·exact Qh
     |none=>exact⟨_,fun _ _=>Qh⟩
  obtain⟨y,same⟩:=same;exact .pick (Dn y) ((same _ _).1 hk) fun st2 ha K' h=>by simp only[FL];rw[hn st2 ha];exact(same _ _).2 h
theorem Qw{t:Nat}{x:Operand}{lo hi mx:Option Operand}(hp:Ng cx.pl.tok dst=none)(hk:FL cx true ⟨dst,.slice t x lo hi mx,ty,pos,after,gd⟩ st K)(hf:Fa cx ⟨dst,.slice t x lo hi mx,ty,pos,after,gd⟩ st=some (R,w)) :
  D7 cx ⟨dst,.slice t x lo hi mx,ty,pos,after,gd⟩ st R w K:=by
 simp only[FL,hp]at hk;have hn:∀st2,IE ⟨dst,.slice t x lo hi mx,ty,pos,after,gd⟩ R st st2→ev st2.t x=ev st.t x∧B6 st2.t lo=B6 st.t lo∧B6 st2.t hi=B6 st.t hi∧B6 st2.t mx=B6 st.t mx:=by
  intro st2 ha;have vv:∀y:Option Operand,(∀z,y=some z→ev st2.t z=ev st.t z)→B6 st2.t y=B6 st.t y:=by
   intro y hy;cases y with
   |none=>rfl
   |some z=>simp only[B6];rw[hy z rfl]
  exact⟨ha.t x (by simp[Op.operands]),vv lo (fun z e=>ha.t z (by simp[Op.operands,e])),vv hi (fun z e=>ha.t z (by simp[Op.operands,e])),vv mx (fun z e=>ha.t z (by simp[Op.operands,e]))⟩
 simp only[Fa,hp]at hf;split at hf
 ·cases hf
 ·rename_i hx;cases hf;have e3:B6 st.t none=some none:=rfl
  have Ir:F5 (fun K1=>Gl cx dst st.h t (ev st.t x) (B6 st.t lo) (B6 st.t hi) (some none) fun v _=>K1 v) ∧
    ∀(h:Nat→HO) (K:HK),Gl cx dst h t (ev st.t x) (B6 st.t lo) (B6 st.t hi) (some none) K↔Gl cx dst st.h t (ev st.t x) (B6 st.t lo) (B6 st.t hi) (some none) (fun v _=>K v h):=by
   generalize ev st.t x=X at hx;unfold Gl;constructor
   ·repeat' split
    all_goals first | exact CA | exact DA (Dn _) | exact DA (DA (Dn _)) | skip
    all_goals first | (rename_i e;cases e;done) | skip
    all_goals (exfalso;exact hx _ _ rfl)
   ·intro h K
    repeat' split
    all_goals first | exact Qh | skip
    all_goals exfalso
    all_goals first | exact hx _ _ rfl | (rename some none=some (some _)=>e4;cases e4)
  rw[e3]at hk;exact .pick Ir.1 ((Ir.2 _ _).1 hk) fun st2 ha K' h=>by
   obtain⟨n1,n2,n3,n4⟩:=hn st2 ha;simp only[FL,hp];rw[n1,n2,n3,n4,e3];exact(Ir.2 _ _).2 h
 ·rename_i y tk es hx;obtain⟨d,rfl,e0⟩:=Ip hf;cases e0;rw[hx]at hk;unfold Gl at hk;split at hk
  ·rename_i HA LB lR e1 e2 e3;split at hk
   ·split at hk<;>first | exact hk.elim | (rename_i e;cases e)
   ·rename_i e he;split at hk
    ·exact hk.elim
    ·rename_i k EH;simp only at hk;split at hk
     ·exfalso
      rename_i e4;simp only[B6]at e3;split at e3<;>cases e3
     ·rename_i m;split at hk
      ·rename some d=some _=>e5
       cases e5
       split at hk
       ·rename_i mT;refine⟨_,none,hk.2.2,fun r o' e=>(by cases e),fun st2 GU K' h'=>?_⟩;obtain⟨n1,n2,n3,n4⟩:=hn st2 GU;simp only[FL,hp];rw[n1,n2,n3,n4,hx,e1,e2,e3];unfold Gl;simp only[he];split
        ·rename_i e0;rw[EH]at e0;cases e0
        ·simp only[mT];exact⟨hk.1,hk.2.1,h'⟩
       rename_i mT;split at hk
       ·rename_i hd;refine⟨_,some (d,_),hk.2.2,fun r o' e=>(by cases e;exact⟨rfl,Aa ..⟩),fun st2 GU K' h'=>?_⟩;obtain⟨n1,n2,n3,n4⟩:=hn st2 GU;simp only[FL,hp];rw[n1,n2,n3,n4,hx,e1,e2,e3];unfold Gl;simp only[he];split
        ·rename_i e0;rw[EH]at e0;cases e0
        ·simp only[mT];rw[GU.h d (Aa ..),hd];exact⟨hk.1,hk.2.1,h'⟩
       ·exact hk.elim
      ·exact hk.elim
   ·exact hk.elim
  ·exact hk.elim
 ·cases hf
theorem bH{t:Nat}{x:Operand}{lo hi mx:Option Operand}{p:Nat}(hp:Ng cx.pl.tok dst=some p)(hk:FL cx true ⟨dst,.slice t x lo hi mx,ty,pos,after,gd⟩ st K)(hf:Fa cx ⟨dst,.slice t x lo hi mx,ty,pos,after,gd⟩ st=some (R,w)) :
  Rf cx ⟨dst,.slice t x lo hi mx,ty,pos,after,gd⟩ st R w K:=by
 simp only[FL,hp]at hk;simp only[Fa,hp]at hf;obtain⟨d',r,n,hd,hx,e0⟩:=YQ hf;cases e0;cases dst with
 |none=>cases hd
 |some d =>
 cases hd
 unfold M6 at hk;split at hk
 ·rw[hx]at hk;unfold gO at hk;split at hk
  ·rename_i d0 LB e1 e2;cases e1;split at hk
   ·rename_i e he;split at hk
    ·exact hk.elim
    ·rename_i k EH;simp only at hk;split at hk
     ·rename_i sz es hr;split at hk
      ·rename_i hd;split at hk
       ·rename_i q1 q3;obtain⟨h1,hk⟩:=hk;have zS:r<10000000∧0<Kq cx d:=by simpa using q3
        obtain⟨xA,hz⟩:=zS;refine⟨_,[(r,.dead),(Kq cx d,_)],hk,fun r' o' e=>?_,fun st2 ha K' h'=>?_⟩
        ·rcases Au.1 e with e | e
         ·cases e
          refine⟨.inr (.inl ⟨by omega,.inl ?_⟩),Aa ..⟩;rw[Nat.add_mul_mod_self_left,Nat.mod_eq_of_lt xA]
         ·obtain e:=Ai.1 e;cases e;refine⟨.inr (.inl ⟨by omega,.inr ?_⟩),Af _ (Aa ..)⟩;rw[Nat.add_mul_div_left _ _ (by decide),Nat.div_eq_of_lt xA,Bk]
        ·have o1:B6 st2.t hi=B6 st.t hi:=by
          cases hi with
          |none=>rfl
          |some z=>simp only[B6];rw[ha.t z (by simp[Op.operands])]
         simp only[FL,hp];unfold M6;rw[ha.t x (by simp[Op.operands]),o1,hx,e2];unfold gO;simp only[he];split
         ·rename_i e0;rw[EH]at e0;cases e0
         ·simp only[ha.h r (Aa ..),hr,ha.h (Kq cx d) (Af _ (Aa ..)),hd,q1,q3];exact⟨h1,h'⟩
       ·exact hk.elim
      ·exact hk.elim
     ·exact hk.elim
   ·exact hk.elim
  ·exact hk.elim
 ·exact hk.elim
theorem VT{s x:Operand}{GJ:Array TypeId}(hk:FL cx true ⟨dst,.call ⟨.builtin .append,#[s,x],GJ⟩,ty,pos,after,gd⟩ st K)(hf:Fa cx ⟨dst,.call ⟨.builtin .append,#[s,x],GJ⟩,ty,pos,after,gd⟩ st=some (R,w)) :
  D7 cx ⟨dst,.call ⟨.builtin .append,#[s,x],GJ⟩,ty,pos,after,gd⟩ st R w K:=by
 have hk:FR cx dst st.h .append GJ.toList [ev st.t s,ev st.t x] K:=hk;have hf:VS cx dst (ev st.t s) (ev st.t x)=some (R,w):=hf;have hn:∀st2,IE ⟨dst,.call ⟨.builtin .append,#[s,x],GJ⟩,ty,pos,after,gd⟩ R st st2→ev st2.t s=ev st.t s∧ev st2.t x=ev st.t x:=fun st2 ha =>
  ⟨ha.t s (by simp[Op.operands,Call.operands]),ha.t x (by simp[Op.operands,Call.operands])⟩
 have JW:∀st2,IE ⟨dst,.call ⟨.builtin .append,#[s,x],GJ⟩,ty,pos,after,gd⟩ R st st2→∀K' : HK,FR cx dst st2.h .append GJ.toList [ev st.t s,ev st.t x] K'→FL cx true ⟨dst,.call ⟨.builtin .append,#[s,x],GJ⟩,ty,pos,after,gd⟩ st2 K':=by
  intro st2 ha K' h;rw[←(hn st2 ha).1,←(hn st2 ha).2]at h;exact h
 generalize GJ.toList=l at hk JW
 match l,hk,JW with
 | [t,t'],hk,JW =>
  simp only[FR]at hk JW;split at hk
  ·rename_i ht;simp only[ht]at JW;unfold H9 at hk JW;split at hk
   ·rename_i e he;simp only[he]at JW;split at hk
    ·exact hk.elim
    ·rename_i hz;simp only[hz]at JW;split at hk
     ·exact hk.elim
     ·rename_i k EH;obtain⟨es2,q1,q2⟩:=YK hk;have iO:∀d,R=d::co (ev st.t x)→∀st2,IE ⟨dst,.call ⟨.builtin .append,#[s,x],GJ⟩,ty,pos,after,gd⟩ R st st2→∀r n,ev st.t x=.msl r n→st2.h r=st.h r:=fun d hR st2 ha r n e=>ha.h r (by rw[hR,e];simp[co]);unfold VS at hf;split at hf
      ·rename_i hs;obtain⟨d,bM,e0⟩:=Ip hf;cases e0;rw[hs]at q1 JW;simp only at q1 JW;obtain⟨d',hd,v,y,q3,q4⟩:=Ie q1.2;rw[bM]at hd;cases hd;refine⟨v,some (d,y),q3,fun r o' e=>(by cases e;exact⟨rfl,Aa ..⟩),fun st2 GU K' h'=>JW st2 GU K' ?_⟩;split
       ·rename_i e0;rw[EH]at e0;cases e0
       ·exact q2 st2.h (iO d rfl st2 GU) _ ⟨q1.1,q4 st2.h (GU.h d (Aa ..)) K' h'⟩
      ·rename_i Gm es hs;obtain⟨d,bM,e0⟩:=Ip hf;cases e0;rw[hs]at q1 JW;simp only at q1 JW;split at q1
       ·rename_i h1;obtain⟨d',hd,v,y,q3,q4⟩:=Ie q1.2;rw[bM]at hd;cases hd;refine⟨v,some (d,y),q3,fun r o' e=>(by cases e;exact⟨rfl,Aa ..⟩),fun st2 GU K' h'=>JW st2 GU K' ?_⟩;split
        ·rename_i e0;rw[EH]at e0;cases e0
        ·refine q2 st2.h (iO d rfl st2 GU) _ ?_;simp only[h1];exact⟨q1.1,q4 st2.h (GU.h d (Aa ..)) K' h'⟩
       ·exact q1.elim
      ·rename_i r Gm es hs;cases hf;rw[hs]at q1 JW;simp only at q1 JW;split at q1
       ·rename_i sz n hr;split at q1
        ·rename_i h1 h2;refine⟨_,some (r,_),q1.2,fun r o' e=>(by cases e;exact⟨rfl,Aa ..⟩),fun st2 GU K' h'=>JW st2 GU K' ?_⟩;split
         ·rename_i e0;rw[EH]at e0;cases e0
         ·refine q2 st2.h (iO r rfl st2 GU) _ ?_;simp only[GU.h r (Aa ..),hr,h1,h2];exact⟨q1.1,h'⟩
        ·exact q1.elim
       ·exact q1.elim
      ·rename_i r n hs;cases hf;rw[hs]at q1 JW;simp only at q1 JW;split at q1
       ·rename_i sz es hr;split at q1
        ·rename_i h1;refine⟨_,some (r,_),q1.2,fun r o' e=>(by cases e;exact⟨rfl,Aa ..⟩),fun st2 GU K' h'=>JW st2 GU K' ?_⟩;split
         ·rename_i e0;rw[EH]at e0;cases e0
         ·refine q2 st2.h (iO r rfl st2 GU) _ ?_;simp only[GU.h r (Aa ..),hr,h1];exact⟨q1.1,h'⟩
        ·exact q1.elim
       ·exact q1.elim
      ·cases hf
   ·exact hk.elim
  ·exact hk.elim
 | [],hk,_=>exact hk.elim
 | [_],hk,_=>exact hk.elim
 |_::_::_::_,hk,_=>exact hk.elim
theorem Vb(T:Gq)(t:Nat):F5 (J8 T t):=by
 unfold J8
 repeat' split
 all_goals first | exact CA | exact Dn _
theorem Tp(T:Gq)(ty:Nat)(ok:Bool)(B4:List (Value×AV))(kx:Value):F5 (LR T ty ok B4 kx):=by
 unfold LR
 repeat' split
 ·refine aA (ME fun a=>DA (Dn _)) (DA ?_);intro K hk;obtain⟨v,h1,h2⟩:=Vb T _ _ hk;exact⟨_,h1,fun K' h=>h2 _ h⟩
 ·exact aA (ME fun a=>DA (Dn _)) (DA (Vb T _))
 ·exact CA
theorem X7(T:Gq)(ty:Nat)(sh:EG)(k:AV){F:Value→(AV→Prop)→Prop}(h:∀x,F5 (F x)):F5 fun K=>J0 T ty sh k fun kx=>F kx K:=by
 unfold J0
 repeat' split
 all_goals first | exact CA | exact h _
theorem VV{t:Nat}{m k:Operand}{ok:Bool}(hk:FL cx true ⟨dst,.lookup t m k ok,ty,pos,after,gd⟩ st K)(hf:Fa cx ⟨dst,.lookup t m k ok,ty,pos,after,gd⟩ st=some (R,w)) :
  D7 cx ⟨dst,.lookup t m k ok,ty,pos,after,gd⟩ st R w K:=by
 simp only[FL]at hk;have hn:∀st2,IE ⟨dst,.lookup t m k ok,ty,pos,after,gd⟩ R st st2→ev st2.t m=ev st.t m∧ev st2.t k=ev st.t k:=fun st2 ha=>⟨ha.t m (by simp[Op.operands]),ha.t k (by simp[Op.operands])⟩;simp only[Fa]at hf;unfold Mw at hk;split at hf
 ·rename_i sh B4 hm;cases hf;rw[hm]at hk;simp only at hk;exact .pick (X7 _ _ _ _ fun _=>Tp _ _ _ _ _) hk fun st2 ha K' h=>by simp only[FL,Mw,hn st2 ha,hm];exact h
 ·rename_i r hm;cases hf;rw[hm]at hk;simp only at hk;split at hk
  all_goals first | exact hk.elim | (rename_i e;exact .pick (X7 _ _ _ _ fun _=>Tp _ _ _ _ _) hk fun st2 ha K' h=>by simp only[FL,Mw,hn st2 ha,hm,ha.h r (Aa ..),e];exact h)
 ·cases hf
theorem gJ(T:Gq)(t:Nat)(h:Nat→HO)(x:AV):F5 (QD T t h x):=by
 unfold QD
 repeat' split
 all_goals first | exact CA | exact Dn _
theorem nE{T:Gq}{t:Nat}{h h2:Nat→HO}{x:AV}(e:∀r,x=.mref r→h2 r=h r){K:AV→Prop}:QD T t h2 x K=QD T t h x K:=by
 cases x<;>first | rfl | skip
 rename_i r;unfold QD;simp only[e r rfl]
theorem bG{x:Operand}{GJ:Array TypeId}(hk:FL cx true ⟨dst,.call ⟨.builtin .len,#[x],GJ⟩,ty,pos,after,gd⟩ st K)(hf:Fa cx ⟨dst,.call ⟨.builtin .len,#[x],GJ⟩,ty,pos,after,gd⟩ st=some (R,w)) :
  D7 cx ⟨dst,.call ⟨.builtin .len,#[x],GJ⟩,ty,pos,after,gd⟩ st R w K:=by
 have hk:FR cx dst st.h .len GJ.toList [ev st.t x] K:=hk;have hf:GP cx dst (.builtin .len) st.t [ev st.t x]=some (R,w):=hf;have hn:∀st2,IE ⟨dst,.call ⟨.builtin .len,#[x],GJ⟩,ty,pos,after,gd⟩ R st st2→ev st2.t x=ev st.t x:=fun st2 ha=>ha.t x (by simp[Op.operands,Call.operands]);have JW:∀st2,IE ⟨dst,.call ⟨.builtin .len,#[x],GJ⟩,ty,pos,after,gd⟩ R st st2→∀K' : HK,FR cx dst st2.h .len GJ.toList [ev st.t x] K'→FL cx true ⟨dst,.call ⟨.builtin .len,#[x],GJ⟩,ty,pos,after,gd⟩ st2 K':=by
  intro st2 ha K' h;rw[←hn st2 ha]at h;exact h
 generalize GJ.toList=l at hk JW
 match l,hk,JW with
 | [t],hk,JW =>
  have hR:∀r,ev st.t x=.mref r→r∈R:=fun r e=>by
   rw[e]at hf;cases hf;exact Aa ..
  have hw:w=none:=by
   unfold GP at hf;split at hf<;>first | (cases hf;rfl) | (rename_i e;cases e) | (rename_i e _;cases e) | skip
   all_goals (cases hf)
  subst hw;exact .pick (gJ _ _ _ _) hk fun st2 ha K' h=>JW st2 ha K' (by
   simp only[FR];rw[nE fun r e=>ha.h r (hR r e)];exact h)
 | [],hk,_=>exact hk.elim
 |_::_::_,hk,_=>exact hk.elim
end
theorem kf{l:List Nat}{n:Nat}(h:IC l n=true):n∈l:=by
 induction l with
 |nil=>cases h
 |cons a l ih =>
  unfold IC at h
  by_cases e:a=n
  ·exact e▸Aa ..
  ·rw[CJ e]at h;exact Af _ (ih h)
theorem W3(G:Nat→HO):∀(σ:IQ) (h:Nat→HO),Ei σ=true→(fun i=>match Ct σ i with | some j=>G j | none=>h i)=HZ h (σ.map fun p=>(p.1,G p.2))
 | [],h,_=>rfl
 |(i,j)::r,h,hσ=>by
  unfold Ei at hσ;simp only[Ag]at hσ;have ih:=W3 G r (AW h i (G j)) hσ.2;show _=HZ (AW h i (G j)) (r.map fun p=>(p.1,G p.2));rw[←ih]
  funext i'
  have hn:Ct r i=none:=by
   have:=hσ.1.1.1
   cases e:Ct r i with
   |none=>rfl
   |some k=>rw[e]at this;simp at this
  by_cases e:i'=i
  ·subst e;have e1:Ct ((i',j)::r) i'=some j:=by unfold Ct;rw[CV];rfl
   rw[e1,hn];show G j=AW h i' (G j) i';unfold AW;rw[CV];rfl
  ·have e1:Ct ((i,j)::r) i'=Ct r i':=by
    show(bif Nat.beq i i' then some j else Ct r i')=_;rw[CJ (Ne.symm e)];rfl
   rw[e1];cases Ct r i' with
   |some k=>rfl
   |none=>show h i'=AW h i (G j) i';unfold AW;rw[CJ e];rfl
theorem Us{σ:IQ}{d:Nat}(hσ:Ei σ=true){h h' : Nat→HO}:D0 σ d 0 h h'=HZ h (σ.map fun p=>(p.1,(h' p.2).ren (E1 σ d 0) h')):=by
 rw[←W3 (fun j=>(h' j).ren (E1 σ d 0) h') σ h hσ]
 funext i
 unfold D0;cases Ct σ i with
 |some j=>rfl
 |none =>
  have:(Nat.ble (Bp d 0) i&&Nat.blt i (Bp d 0))=false:=by
   rw[AI];simp only[U4,Ag,Db,Cj];omega
  simp only[this]
section
variable {cx:Cx}{op:Op}{dst:Option Nat}{ty:Nat}{pos:String}{after:Array Edge}{gd:Option (Nat×Bool)}{st:St}{R:List Nat}{w:Option Nat}{K:HK}
theorem D7.toL(h:D7 cx ⟨dst,op,ty,pos,after,gd⟩ st R w K):Rf cx ⟨dst,op,ty,pos,after,gd⟩ st R w K:=by
 obtain⟨v,e,h1,h2,h3⟩:=h;cases e with
 |none=>exact⟨v,[],h1,fun r o' e=>(by cases e),h3⟩
 |some p=>exact⟨v,[p],h1,fun r o' e=>by
   obtain rfl:=Ai.1 e;obtain⟨a,b⟩:=h2 r o' rfl;exact⟨by rw[a];exact .inl rfl,b⟩,h3⟩
theorem YR{c:Call}(hk:FL cx true ⟨dst,.call c,ty,pos,after,gd⟩ st K)(hf:Fa cx ⟨dst,.call c,ty,pos,after,gd⟩ st=some (R,w)):Rf cx ⟨dst,.call c,ty,pos,after,gd⟩ st R w K:=by
 obtain⟨mG,args,GJ⟩:=c;have I9:∀st2,IE ⟨dst,.call ⟨mG,args,GJ⟩,ty,pos,after,gd⟩ R st st2→args.toList.map (ev st2.t)=args.toList.map (ev st.t):=fun st2 ha =>
  Bf fun x hx=>ha.t x (by simp only[Op.operands,Call.operands,Rw];exact .inr (by simpa using hx))
 cases mG with
 |invoke r m=>exact hk.elim
 |value f =>
  have hk:Gb cx true dst st (ev st.t f) (args.toList.map (ev st.t)) K:=hk;have hf:GP cx dst (.value f) st.t (args.toList.map (ev st.t))=some (R,w):=hf;unfold GP at hf;unfold Gb at hk;simp only at hf hk;have hn:=I9;split at hf
  ·rename_i Z0;rw[Z0]at hk;cases hf;obtain⟨res,h1,h2⟩:=hk;refine D7.toL ⟨res,none,h2,fun r o' e=>(by cases e),fun st2 ha K' h'=>?_⟩;show Gb cx true dst st2 (ev st2.t f) (args.toList.map (ev st2.t)) K';rw[I9 st2 ha,ha.t f (by simp[Op.operands,Call.operands])];unfold Gb;simp only[Z0];refine⟨res,?_,h'⟩;rw[KI (h:=st.h) (fun r hr=>ha.h r (Bi _ hr)),PZ (h:=st.h) (fun r hr=>ha.h r (Bl _ hr))];exact h1
  ·rename_i Z0;rw[Z0]at hk;simp only at hk;cases dst with
   |none=>exact hk.elim
   |some d =>
    obtain⟨n,sz,es,h1,h2,h3⟩:=hk;have hf:some (Bp d 0::(WA (ev st.t f)++SD (args.toList.map (ev st.t))),some (Bp d 0))=some (R,w):=hf;cases hf;refine D7.toL ⟨_,some (Bp d 0,_),h3,fun r o' e=>(by cases e;exact⟨rfl,Aa ..⟩),fun st2 ha K' h'=>?_⟩;show Gb cx true (some d) st2 (ev st2.t f) (args.toList.map (ev st2.t)) K';rw[I9 st2 ha,ha.t f (by simp[Op.operands,Call.operands])];unfold Gb;simp only[Z0];refine⟨n,sz,es,?_,?_,h'⟩
    ·have:DF st2.h d 1=DF st.h d 1:=by simp only[DF,ha.h (Bp d 0) (Aa ..)]
     rw[this];exact h1
    ·rw[KI (h:=st.h) (fun r hr=>ha.h r (Af _ (Bi _ hr))),PZ (h:=st.h) (fun r hr=>ha.h r (Af _ (Bl _ hr)))];exact h2
  ·rename_i Z0;rw[Z0]at hk;have hk:QR cx 0 dst st.h (ev st.t f) (args.toList.map (ev st.t)) K:=hk;split at hf
   ·rename_i r n l hl;cases hf;have Ir:=hk;unfold QR at Ir;rw[hl]at Ir;split at Ir
    ·rename_i d0 f0 r0 n0 l0 e1 e2 z1 z2;cases e2;split at Ir
     ·rename_i vs dv;split at Ir
      ·rename_i sz es hr;obtain⟨n',FA,h1,h2⟩:=Ir;refine D7.toL ⟨_,some (r,_),h2,fun r o' e=>(by cases e;exact⟨rfl,Aa ..⟩),fun st2 ha K' h'=>?_⟩;show Gb cx true _ st2 (ev st2.t f) (args.toList.map (ev st2.t)) K';rw[I9 st2 ha,ha.t f (by simp[Op.operands,Call.operands]),hl,e1];unfold Gb;simp only[Z0];unfold OV;simp only;unfold QR;simp only[dv,ha.h r (Aa ..),hr];exact⟨n',FA,h1,h'⟩
      ·exact Ir.elim
     ·exact Ir.elim
    ·exact Ir.elim
   ·cases hf
  ·rename_i k Z0;rw[Z0]at hk;cases hb:Nat.beq k 1 with
   |true =>
    have T2:Nat.beq (k+1) 2=true:=hb;have hk:TJ cx dst st (ev st.t f) (args.toList.map (ev st.t)) K:=by
     have Ir:(match Nat.beq (k+1) 2 with | true=>TJ cx dst st (ev st.t f) (args.toList.map (ev st.t)) K | false=>match Nat.beq (k+1) 3 with | true=>Qf cx dst st (ev st.t f) (args.toList.map (ev st.t)) K | false=>OV cx (k+1) dst st (ev st.t f) (args.toList.map (ev st.t)) K):=hk;rw[T2]at Ir;exact Ir
    rw[hb]at hf;cases dst with
    |none=>exact hk.elim
    |some d =>
     obtain⟨sz,es,h1,h2,h3⟩:=hk;have hf:some (Bp d 0::(WA (ev st.t f)++SD (args.toList.map (ev st.t))),some (Bp d 0))=some (R,w):=hf;cases hf;refine D7.toL ⟨_,some (Bp d 0,_),h3,fun r o' e=>(by cases e;exact⟨rfl,Aa ..⟩),fun st2 ha K' h'=>?_⟩;show Gb cx true (some d) st2 (ev st2.t f) (args.toList.map (ev st2.t)) K';rw[I9 st2 ha,ha.t f (by simp[Op.operands,Call.operands])];unfold Gb;simp only[Z0,T2];refine⟨sz,es,?_,?_,h'⟩
     ·have:DF st2.h d 1=DF st.h d 1:=by simp only[DF,ha.h (Bp d 0) (Aa ..)]
      rw[this];exact h1
     ·rw[KI (h:=st.h) (fun r hr=>ha.h r (Af _ (Bi _ hr))),PZ (h:=st.h) (fun r hr=>ha.h r (Af _ (Bl _ hr)))];exact h2
   |false =>
    have T2:Nat.beq (k+1) 2=false:=hb;rw[hb]at hf;have Ir:(match Nat.beq (k+1) 2 with | true=>TJ cx dst st (ev st.t f) (args.toList.map (ev st.t)) K | false=>match Nat.beq (k+1) 3 with | true=>Qf cx dst st (ev st.t f) (args.toList.map (ev st.t)) K | false=>OV cx (k+1) dst st (ev st.t f) (args.toList.map (ev st.t)) K):=hk;rw[T2]at Ir;cases hc:Nat.beq k 2 with
    |true =>
     have ox:Nat.beq (k+1) 3=true:=hc;rw[hc]at hf;simp only[ox]at Ir;have hf:eG (args.toList.map (ev st.t))=some (R,w):=hf;unfold eG at hf;unfold Qf at Ir;split at hf
     ·rename_i vs dv;cases hf;split at Ir
      ·rename_i l dy e1 e2 z1 z2;rw[dv]at e2;cases e2;split at Ir
       ·rename_i r sz es aN n e3 e4;obtain⟨⟨rfl,rfl⟩,v,FA,n',h1,h2⟩:=Ir;refine⟨_,[(1001,_),(1000,_)],h2,fun r' o' e=>?_,fun st2 ha K' h'=>?_⟩
        ·rcases Au.1 e with e | e
         ·cases e
          exact⟨.inr (.inl ⟨by decide,.inr (by decide)⟩),by simp⟩
         ·obtain e:=Ai.1 e;cases e;exact⟨.inr (.inl ⟨by decide,.inl (by decide)⟩),by simp⟩
        show Gb cx true _ st2 (ev st2.t f) (args.toList.map (ev st2.t)) K';rw[I9 st2 ha,ha.t f (by simp[Op.operands,Call.operands]),e1];unfold Gb;simp only[Z0,T2,ox];unfold Qf;simp only[dv,ha.h 1000 (by simp),ha.h 1001 (by simp),e3,e4];exact⟨⟨trivial,trivial⟩,v,FA,n',h1,h'⟩
       ·exact Ir.elim
      ·exact Ir.elim
     ·cases hf
    |false =>
    have ox:Nat.beq (k+1) 3=false:=hc;rw[hc]at hf;have UO:OV cx (k+1) dst st (ev st.t f) (args.toList.map (ev st.t)) K:=by
     simp only[ox]at Ir;exact Ir
    have mW:eD k dst (args.toList.map (ev st.t))=some (R,w):=hf;unfold eD at mW;unfold OV at UO;cases he:Nat.beq k 3 with
    |true =>
     have iJ:Nat.beq (k+1) 4=true:=he;rw[he]at mW;rw[iJ]at UO;have mW:some (jx,some VA)=some (R,w):=mW;have UO:Xk cx dst st (ev st.t f) (args.toList.map (ev st.t)) K:=UO;cases mW;unfold Xk at UO;split at UO
     ·rename_i d f' e2 _ _ _;obtain⟨σ,H0,Hn,args',res,g1,g2,g3,g4⟩:=UO;simp only[Ag]at g2;refine⟨_,σ.map fun p=>(p.1,(Aj Hn Ab p.2).ren (E1 σ d 0) (Aj Hn Ab)),(Us (h:=st.h) (h':=Aj Hn Ab) (d:=d) g2.1.1)▸g4,fun r' o' e=>?_,fun st2 ha K' h'=>?_⟩
      ·obtain⟨p,hp,e⟩:=Am.1 e;cases e;exact⟨.inr (.inr rfl),kf (Bq.1 g2.2 p hp)⟩
      ·show Gb cx true _ st2 (ev st2.t f) (args.toList.map (ev st2.t)) K';rw[I9 st2 ha,ha.t f (by simp[Op.operands,Call.operands])];unfold Gb;simp only[Z0,T2,ox];unfold OV;simp only[iJ];unfold Xk;rw[e2];refine⟨σ,H0,Hn,args',res,fun h2 hh=>g1 h2 fun r hr=>(hh r hr).trans (ha.h r hr),by simp only[Ag];exact g2,g3,?_⟩;rw[Us (h:=st2.h) (h':=Aj Hn Ab) (d:=d) g2.1.1];exact h'
     ·exact UO.elim
    |false =>
    have iJ:Nat.beq (k+1) 4=false:=he;rw[he]at mW;rw[iJ]at UO;have hf:ZR dst (args.toList.map (ev st.t))=some (R,w):=mW;have hk:QR cx (k+1) dst st.h (ev st.t f) (args.toList.map (ev st.t)) K:=UO;obtain⟨d,r,n,l,rfl,hl,e0⟩:=YP hf;cases e0;unfold QR at hk;rw[hl]at hk;split at hk
    ·rename_i d0 f0 r0 n0 l0 e9 e1 e2;cases e9;cases e2;split at hk
     ·rename_i vs dv;split at hk
      ·rename_i sz es hr;obtain⟨n',FA,h0,h1,h2⟩:=hk;have tH:=h0;simp only[Ag,Cj]at tH;refine⟨_,[(r,.dead),(Bp d 0,_)],h2,fun r' o' e=>?_,fun st2 ha K' h'=>?_⟩
       ·rcases Au.1 e with e | e
        ·cases e
         refine⟨.inr (.inl ⟨by unfold Bp;omega,.inl ?_⟩),Aa ..⟩;rw[Nat.add_mul_mod_self_left,Nat.mod_eq_of_lt tH.1.2]
        ·obtain e:=Ai.1 e;cases e;refine⟨.inr (.inl ⟨by unfold Bp;omega,.inr ?_⟩),Af _ (Aa ..)⟩;rw[Nat.add_mul_div_left _ _ (by decide),Nat.div_eq_of_lt tH.1.2,Bk]
       show Gb cx true _ st2 (ev st2.t f) (args.toList.map (ev st2.t)) K';rw[I9 st2 ha,ha.t f (by simp[Op.operands,Call.operands]),hl,e1];unfold Gb;simp only[Z0,T2,ox];unfold OV;simp only[iJ];unfold QR;simp only[dv,ha.h r (Aa ..),hr]
       have:DF st2.h d 1=DF st.h d 1:=by simp only[DF,ha.h (Bp d 0) (Af _ (Aa ..))]
       exact⟨n',FA,by rw[this];exact h0,h1,h'⟩
      ·exact hk.elim
     ·exact hk.elim
    ·exact hk.elim
 |builtin b =>
  refine D7.toL ?_;have mm:∀f:Int→Int→Int,(∀(d:Option Nat) (h:Nat→HO) (GJ:List Nat) (args:List AV) (K:HK),FR cx d h b GJ args K=(match args with | [x,y]=>kh f x y fun v=>K v h | _=>False))→R=[]∧w=none→D7 cx ⟨dst,.call ⟨.builtin b,args,GJ⟩,ty,pos,after,gd⟩ st R w K:=by
   rintro f hb ⟨rfl,rfl⟩
   have hk:FR cx dst st.h b GJ.toList (args.toList.map (ev st.t)) K:=hk;rw[hb]at hk;split at hk
   ·rename_i x y e;refine .pick (kD f x y) hk fun st2 ha K' h=>?_;show FR cx dst st2.h b GJ.toList (args.toList.map (ev st2.t)) K';rw[hb,I9 st2 ha,e];exact h
   ·exact hk.elim
  cases b
  case max=>exact mm max (fun d h GJ args K=>by cases args with | nil=>rfl | cons x l=>cases l with | nil=>rfl | cons y l=>cases l<;>rfl) (by
   have hf:GP cx dst (.builtin .max) st.t (args.toList.map (ev st.t))=some (R,w):=hf;simp only[GP]at hf;cases hf;exact⟨rfl,rfl⟩)
  case min=>exact mm min (fun d h GJ args K=>by cases args with | nil=>rfl | cons x l=>cases l with | nil=>rfl | cons y l=>cases l<;>rfl) (by
   have hf:GP cx dst (.builtin .min) st.t (args.toList.map (ev st.t))=some (R,w):=hf;simp only[GP]at hf;cases hf;exact⟨rfl,rfl⟩)
  case append =>
   obtain⟨l⟩:=args
   match l,hk,hf with
   | [s,x],hk,hf=>exact VT hk hf
   | [],hk,hf=>cases GJ;exact hk.elim
   | [_],hk,hf=>exact hk.elim
   |_::_::_::_,hk,hf=>exact hk.elim
  case len =>
   obtain⟨l⟩:=args
   match l,hk,hf with
   | [x],hk,hf=>exact bG hk hf
   | [],hk,hf=>exact hk.elim
   |_::_::_,hk,hf=>exact hk.elim
  all_goals exact hk.elim
theorem Ys{o:Oper}(hc:∀c,o.op≠.call c)(hs:(∃t x lo hi mx,o.op=.slice t x lo hi mx)→Ng cx.pl.tok o.dst=none)(hk:FL cx true o st K)(hf:Fa cx o st=some (R,w)):D7 cx o st R w K:=by
 obtain⟨dst,op,ty,pos,after,gd⟩:=o;cases op with
 |call c=>exact absurd rfl (hc c)
 |alloc e=>exact Xg hk hf
 |box e x=>exact bF hk hf
 |buildSlice t n ps=>exact Px hk hf
 |makeSlice t n c=>exact QV hk hf
 |makeMap t r=>exact T0 hk hf
 |store t p x=>exact Xh hk hf
 |mapUpdate t m k x=>exact QW hk hf
 |makeFunc fn first cap=>exact So hk hf
 |load t p=>exact YS hk hf
 |assign x=>exact VU hk hf
 |slice t x lo hi mx=>exact Qw (hs ⟨t,x,lo,hi,mx,rfl⟩) hk hf
 |lookup t x i ok=>exact VV hk hf
 |move x =>
  cases hf
  exact .pick (Dn _) hk fun st2 ha K' h=>by simp only[FL,ha.t x (by simp[Op.operands])];exact h
 |pick c a b =>
  cases hf
  exact .pick (cQ _ _ _) hk fun st2 ha K' h=>by simp only[FL,ha.t c (by simp[Op.operands]),ha.t a (by simp[Op.operands]),ha.t b (by simp[Op.operands])];exact h
 |nilCheck x =>
  cases hf
  exact .pick (gK _) hk fun st2 ha K' h=>by simp only[FL,ha.t x (by simp[Op.operands])];exact h
 |binOp op t x y u =>
  simp only[Fa]at hf;split at hf
  ·cases hf
  ·rename_i hx;cases hf;exact .pick (cO _ _ _ _ _ _ hx) hk fun st2 ha K' h=>by simp only[FL,ha.t x (by simp[Op.operands]),ha.t y (by simp[Op.operands])];exact h
 |unOp op t x =>
  cases hf
  exact .pick (cR _ _) hk fun st2 ha K' h=>by simp only[FL,ha.t x (by simp[Op.operands])];exact h
 |convert s t x =>
  cases hf
  exact .pick (cP _ _ _ _) hk fun st2 ha K' h=>by simp only[FL,ha.t x (by simp[Op.operands])];exact h
 |fieldAddr s x f =>
  cases hf
  exact .pick (Zp _ _ _ _) hk fun st2 ha K' h=>by simp only[FL,ha.t x (by simp[Op.operands])];exact h
 |field s x f =>
  cases hf
  exact .pick (X6 _ _ _ _) hk fun st2 ha K' h=>by simp only[FL,ha.t x (by simp[Op.operands])];exact h
 |indexAddr t x i =>
  cases hf
  exact .pick (Tq _ _ _ _) hk fun st2 ha K' h=>by simp only[FL,ha.t x (by simp[Op.operands]),ha.t i (by simp[Op.operands])];exact h
 |index t x i =>
  cases hf
  exact .pick (Zq _ _ _ _) hk fun st2 ha K' h=>by simp only[FL,ha.t x (by simp[Op.operands]),ha.t i (by simp[Op.operands])];exact h
 |extract x i =>
  cases hf
  exact .pick (Wg _ _) hk fun st2 ha K' h=>by simp only[FL,ha.t x (by simp[Op.operands])];exact h
 |build t ps =>
  cases hf
  refine .pick (Zo _ _ _ _) hk fun st2 ha K' h=>?_;have hx:∀p∈ps.toList,ev st2.t p.2=ev st.t p.2:=fun p hp=>ha.t p.2 (by
   simp only[Op.operands,List.mem_toArray];exact Am.2 ⟨p,hp,rfl⟩)
  simp only[FL];have fill:∀(pl:Nat→Option (Nat×Nat)) (l:List (Nat×Operand)) (cs:List AV) (K:List AV→Prop),(∀p∈l,ev st2.t p.2=ev st.t p.2)→Ks pl cs st2.t l K=Ks pl cs st.t l K:=by
   intro pl l
   induction l with
   |nil=>intro cs K _;rfl
   |cons p l ih =>
    intro cs K hp;obtain⟨i,x⟩:=p;have h1:ev st2.t x=ev st.t x:=hp (i,x) (Aa ..);have h2:∀cs,Ks pl cs st2.t l K=Ks pl cs st.t l K:=fun cs=>ih cs K (fun p ng=>hp p (Af _ ng));simp only[Ks,h1,h2]
  unfold Po at h⊢;simp only[fill _ _ _ _ hx];exact h
 |_=>cases hf
theorem bc{o:Oper}(hk:FL cx true o st K)(hf:Fa cx o st=some (R,w)):Rf cx o st R w K:=by
 obtain⟨dst,op,ty,pos,after,gd⟩:=o
 by_cases h:∃c,op=.call c
 ·obtain⟨c,rfl⟩:=h;exact YR hk hf
 ·by_cases h2:∃t x lo hi mx,op=.slice t x lo hi mx
  ·obtain⟨t,x,lo,hi,mx,rfl⟩:=h2;cases hp:Ng cx.pl.tok dst with
   |none=>exact D7.toL (Qw hp hk hf)
   |some p=>exact bH hp hk hf
  ·exact D7.toL (Ys (fun c e=>h ⟨c,e⟩) (fun e=>absurd e h2) hk hf)
end
theorem UJ{cx:Cx}{o:Oper}{st st2:St}(h:∀x∈o.op.operands,ev st2.t x=ev st.t x):Fa cx o st2=Fa cx o st:=by
 obtain⟨dst,op,ty,pos,after,gd⟩:=o;cases op with
 |call c =>
  obtain⟨mG,args,GJ⟩:=c;have ha:args.toList.map (ev st2.t)=args.toList.map (ev st.t):=Bf fun x hx=>h x (by simp only[Op.operands,Call.operands,Rw];exact .inr (by simpa using hx));simp only[Fa];rw[ha];cases mG with
  |value f =>
   have hf:ev st2.t f=ev st.t f:=h f (by simp[Op.operands,Call.operands]);simp only[GP,hf]
  |builtin b =>
   generalize args.toList.map (ev st.t)=l
   match l with
   | []=>cases b<;>rfl
   | [x]=>cases b<;>cases x<;>rfl
   | [x,y]=>cases b<;>cases x<;>rfl
   |x::_::_::_=>cases b<;>cases x<;>rfl
  |invoke r m=>rfl
 |box e x=>simp only[Fa,h x (by simp[Op.operands])]
 |buildSlice t n ps =>
  have hx:ps.toList.map (fun p=>ev st2.t p.2)=ps.toList.map (fun p=>ev st.t p.2):=Bf fun p hp=>h p.2 (by
   simp only[Op.operands,List.mem_toArray];exact Am.2 ⟨p,hp,rfl⟩)
  simp only[Fa,hx]
 |store t p x=>simp only[Fa,h p (by simp[Op.operands]),h x (by simp[Op.operands])]
 |mapUpdate t m k x=>simp only[Fa,h m (by simp[Op.operands]),h x (by simp[Op.operands])]
 |makeFunc fn first cap =>
  have hx:cap.toList.map (ev st2.t)=cap.toList.map (ev st.t):=Bf fun x hx=>h x (by simp only[Op.operands,Rw];exact .inr (by simpa using hx));simp only[Fa,hx]
 |load t p=>simp only[Fa,h p (by simp[Op.operands])]
 |assign x=>simp only[Fa,h x (by simp[Op.operands])]
 |binOp op t x y u=>simp only[Fa,h x (by simp[Op.operands])]
 |slice t x lo hi mx=>simp only[Fa,h x (by simp[Op.operands])]
 |lookup t x i ok=>simp only[Fa,h x (by simp[Op.operands])]
 |_=>rfl
def Kg(ops:Array Oper)(o:Oper)(st st2:St):Prop:=∀d∈o.looksAt ops,st2.t d=st.t d
theorem Kg.operands{ops:Array Oper}{o:Oper}{st st2:St}(h:Kg ops o st st2):∀x∈o.op.operands,ev st2.t x=ev st.t x:=fun x hx=>by
 cases x with
 |tmp t=>exact h t (Bi _ (List.mem_filterMap.2 ⟨.tmp t,by simpa using hx,rfl⟩))
 |_=>rfl
theorem U7(ops:Array Oper)(j:Nat):J4 ops.toList j=(ops[j]?).bind (·.dst):=by
 have:∀(l:List Oper) (j:Nat),J4 l j=(l[j]?).bind (·.dst):=by
  intro l
  induction l with
  |nil=>intro j;simp[J4]
  |cons o l ih =>
   intro j;cases j with
   |zero=>simp[J4]
   |succ j=>simp[J4,ih]
 rw[this];simp
theorem Kg.guard{ops:Array Oper}{o:Oper}{st st2:St}(h:Kg ops o st st2){j:Nat}{b:Bool}(hg:o.guard=some (j,b)){d:Nat}(hd:J4 ops.toList j=some d):st2.t d=st.t d :=
 h d (Bl _ (by rw[hg];simp only;rw[←U7,hd];simp))
def St.after(st:St)(o:Oper)(v:AV)(e:List (Nat×HO)):St:=st.put o.dst v (HZ st.h e)
def Pj(cx:Cx)(ops:Array Oper)(o:Oper)(st:St)(f:Fr)(v:AV)(e:List (Nat×HO)):Prop :=
 (∀r o',(r,o')∈e→Ry f.2 r∧r∈f.1)∧∀st2,Kg ops o st st2→(∀r∈f.1,st2.h r=st.h r)→∀K:St→Prop,K (st2.after o v e)→G5 cx true ops.toList o st2 K
theorem Sn{cx:Cx}{ops:Array Oper}{o:Oper}{st st2:St}(h:Kg ops o st st2):MZ cx ops.toList o st2=MZ cx ops.toList o st:=by
 unfold MZ;split
 ·exact UJ h.operands
 ·rename_i j want hg;split
  ·rfl
  ·rename_i d hd;simp only[h.guard hg hd];split<;>first | exact UJ h.operands | rfl
theorem N1{cx:Cx}{ops:Array Oper}{o:Oper}{st:St}{f:Fr}{K:St→Prop}(hk:G5 cx true ops.toList o st K)(hf:MZ cx ops.toList o st=some f) :
  ∃v e,Pj cx ops o st f v e∧K (st.after o v e):=by
 obtain⟨R,w⟩:=f;have skip:R=[]∧w=none→K (st.put o.dst (.v undef) st.h)→(∀st2,Kg ops o st st2→∀K:St→Prop,K (st2.put o.dst (.v undef) st2.h)→G5 cx true ops.toList o st2 K)→∃v e,Pj cx ops o st (R,w) v e∧K (st.after o v e):=by
  rintro⟨rfl,rfl⟩ h1 h2
  exact⟨.v undef,[],⟨fun r o' e=>(by cases e),fun st2 hl _ K h=>h2 st2 hl K h⟩,h1⟩
 have run:Fa cx o st=some (R,w)→FL cx true o st (fun v h=>K (st.put o.dst v h))→(∀st2,Kg ops o st st2→∀K:St→Prop,FL cx true o st2 (fun v h=>K (st2.put o.dst v h))→G5 cx true ops.toList o st2 K)→∃v e,Pj cx ops o st (R,w) v e∧K (st.after o v e):=by
  intro hf hk h2;obtain⟨v,e,q1,q2,q3⟩:=bc hk hf;exact⟨v,e,⟨q2,fun st2 hl hh K h=>h2 st2 hl K (q3 st2 ⟨hl.operands,hh⟩ _ h)⟩,q1⟩
 unfold G5 at hk;unfold MZ at hf;cases hg:o.guard with
 |none =>
  rw[hg]at hk hf;exact run hf hk (fun st2 hl K h=>by unfold G5;rw[hg];exact h)
 |some p =>
  obtain⟨j,want⟩:=p;rw[hg]at hk hf;simp only at hk hf;cases hd:J4 ops.toList j with
  |none=>rw[hd]at hk;exact hk.elim
  |some d =>
   rw[hd]at hk hf;simp only at hk hf;have he:∀st2,Kg ops o st st2→st2.t d=st.t d:=fun st2 hl=>hl.guard hg hd;generalize hx:st.t d=x at hk hf he;split at hk
   ·exact run hf hk (fun st2 hl K h=>by unfold G5;simp only[hg,hd,he st2 hl];exact h)
   ·exact run hf hk (fun st2 hl K h=>by unfold G5;simp only[hg,hd,he st2 hl];exact h)
   ·exact skip (by cases hf;exact⟨rfl,rfl⟩) hk (fun st2 hl K h=>by unfold G5;simp only[hg,hd,he st2 hl];exact h)
   ·exact skip (by cases hf;exact⟨rfl,rfl⟩) hk (fun st2 hl K h=>by unfold G5;simp only[hg,hd,he st2 hl];exact h)
   ·exact skip (by cases hf;exact⟨rfl,rfl⟩) hk (fun st2 hl K h=>by unfold G5;simp only[hg,hd,he st2 hl];exact h)
   ·exact hk.elim
def oW(cx:Cx)(ops:Array Oper)(FT:Nat→Fr)(i:Nat)(K:St→Prop)(st:St):Prop :=
 match ops[i]? with
 |none=>K st
 |some o=>MZ cx ops.toList o st=some (FT i)∧G5 cx true ops.toList o st K
def WI(cx:Cx)(ops:Array Oper)(FT:Nat→Fr)(K:St→Prop):Nat→Array Bool→St→Prop
 |0,listed,st=>Region.ready .any ops listed=[]∧K st
 |fuel+1,listed,st =>
  (Region.ready .any ops listed=[]→K st)∧∀i∈Region.ready .any ops listed,oW cx ops FT i (WI cx ops FT K fuel (listed.setIfInBounds i true)) st
theorem dh(t:Nat→AV){d d' : Nat}(h:d'≠d)(v v' : AV):G2 (G2 t d v) d' v'=G2 (G2 t d' v') d v:=by
 funext i
 unfold G2
 by_cases h1:i=d<;>by_cases h2:i=d'
 ·exact absurd (h2.symm.trans h1) h
 ·subst h1;simp[CJ h2]
 ·subst h2;simp[CJ h1]
 ·simp[CJ h1,CJ h2]
theorem bP(t:Nat→HO){d d' : Nat}(h:d'≠d)(v v' : HO):AW (AW t d v) d' v'=AW (AW t d' v') d v:=by
 funext i
 unfold AW
 by_cases h1:i=d<;>by_cases h2:i=d'
 ·exact absurd (h2.symm.trans h1) h
 ·subst h1;simp[CJ h2]
 ·subst h2;simp[CJ h1]
 ·simp[CJ h1,CJ h2]
theorem OG{l:List Nat}{n:Nat}(h:n∈l):IC l n=true:=by
 induction l with
 |nil=>cases h
 |cons a l ih =>
  unfold IC
  by_cases e:a=n
  ·subst e;simp
  ·rw[CJ e];exact ih ((Au.1 h).resolve_left (fun q=>e q.symm))
theorem XO{l:List Nat}{n:Nat}(h:IC l n=true):n∈l:=by
 induction l with
 |nil=>cases h
 |cons a l ih =>
  unfold IC at h
  by_cases e:a=n
  ·exact e▸Aa ..
  ·rw[CJ e]at h;exact Af _ (ih h)
theorem X0{l:List Nat}{x:Nat}(h:XY l x=true):∀r,Ry (some x) r→r∉l:=by
 intro r hc hr;unfold XY at h
 by_cases hx:x=VA
 ·subst hx;rw[CV,JE]at h;cases l with
  |nil=>cases hr
  |cons a l=>cases h
 rw[CJ hx,El]at h;simp only[Ag,CE,CQ,Cj]at h;rcases hc with rfl | ⟨h1,h2⟩ | hc
 ·rw[OG hr]at h;cases h.1
 ·rcases h.2 with h3 | h3
  ·omega
  ·rcases h2 with rfl | rfl
   ·rw[OG hr]at h3;cases h3.1
   ·rw[OG hr]at h3;cases h3.2
 ·exact hx hc
theorem bx{a b:Fr}(h:RY a b=true):(∀r,Ry a.2 r→r∉b.1)∧∀r,Ry b.2 r→r∉a.1:=by
 obtain⟨a1,a2⟩:=a;obtain⟨b1,b2⟩:=b;simp only[RY,Ag]at h;refine⟨fun r e=>?_,fun r e=>?_⟩
 ·cases a2 with
  |none=>exact e.elim
  |some x=>exact X0 h.1 r e
 ·cases b2 with
  |none=>exact e.elim
  |some x=>exact X0 h.2 r e
section
variable {cx:Cx}{ops:Array Oper}{FT:Nat→Fr}
theorem QF{oi oj:Oper}(h:∀d,oi.dst=some d→d∉oj.looksAt ops)(st:St)(v:AV)(e:List (Nat×HO)):Kg ops oj st (st.after oi v e):=by
 intro d hd;cases hdst:oi.dst with
 |none=>simp[St.after,St.put,hdst]
 |some d' =>
  have:d≠d':=fun q=>h d' hdst (q▸hd)
  simp[St.after,St.put,hdst,G2,CJ this]
theorem Kg.symm{o:Oper}{st st2:St}(h:Kg ops o st st2):Kg ops o st2 st:=fun d hd=>(h d hd).symm
theorem ZX{o:Oper}{st:St}{v:AV}{e:List (Nat×HO)}:(st.after o v e).h=HZ st.h e:=by
 unfold St.after St.put;cases o.dst<;>rfl
theorem Pt{r:Nat}:∀{e:List (Nat×HO)} {h:Nat→HO},(∀o',(r,o')∉e)→HZ h e r=h r
 | [],_,_=>rfl
 |p::e,h,hr=>by
  have:r≠p.1:=fun q=>hr p.2 (by rw[q];exact Aa ..)
  show HZ (AW h p.1 p.2) e r=h r;rw[Pt fun o' ho=>hr o' (Af _ ho),B1 _ _ _ _ this]
theorem W4{r:Nat}{o:HO}:∀{e:List (Nat×HO)} {h:Nat→HO},(∀r' o',(r',o')∈e→r'≠r)→HZ (AW h r o) e=AW (HZ h e) r o
 | [],_,_=>rfl
 |p::e,h,hr=>by
  show HZ (AW (AW h r o) p.1 p.2) e=AW (HZ (AW h p.1 p.2) e) r o;rw[bP h (hr p.1 p.2 (Aa ..)),W4 fun r' o' ho=>hr r' o' (Af _ ho)]
theorem UF:∀{e e' : List (Nat×HO)} {h:Nat→HO},(∀r o r' o',(r,o)∈e→(r',o')∈e'→r'≠r)→HZ (HZ h e) e'=HZ (HZ h e') e
 | [],_,_,_=>rfl
 |p::e,e',h,hd=>by
  show HZ (HZ (AW h p.1 p.2) e) e'=HZ (AW (HZ h e') p.1 p.2) e;rw[←W4 fun r' o' ho=>hd p.1 p.2 r' o' (Aa ..) ho,UF fun r o r' o' h1 h2=>hd r o r' o' (Af _ h1) h2]
theorem Yr{oi oj:Oper}{st:St}{v v' : AV}{e e' : List (Nat×HO)}(h1:∀d,oi.dst=some d→oj.dst≠some d)(h2:∀r o r' o',(r,o)∈e→(r',o')∈e'→r'≠r) :
  (st.after oi v e).after oj v' e'=(st.after oj v' e').after oi v e:=by
 have hh:HZ (HZ st.h e) e'=HZ (HZ st.h e') e:=UF h2;have key:∀o:Oper,∀v e,∀st:St,st.after o v e=⟨match o.dst with | none=>st.t | some d=>G2 st.t d v,HZ st.h e⟩:=fun o v e st=>by
  unfold St.after St.put;cases o.dst<;>rfl
 rw[key,key,key,key];simp only[hh];cases hi:oi.dst with
 |none=>rfl
 |some d =>
  cases hj:oj.dst with
  |none=>rfl
  |some d' =>
   have DD:d'≠d:=fun q=>h1 d hi (by rw[hj,q]);simp only[dh st.t DD v v']
theorem Yq{K:St→Prop}{i:Nat}{oi:Oper}{v:AV}{e:List (Nat×HO)}(hi:ops[i]?=some oi)(D:Nat→Prop)
  (hD:∀j,D j→∃oj,ops[j]?=some oj∧∃ed∈oj.after,Region.binds .any ed=true∧(ed.on=i∨D ed.on)) :
  ∀(fuel:Nat) (listed:Array Bool) (st:St),
   (∀j oj,ops[j]?=some oj→j≠i→listed.getD j true=false→¬D j→oi.apart ops oj=true∧RY (FT i) (FT j)=true) →
   i∈Region.ready .any ops listed→(∀j,D j→listed.getD j true=false)→MZ cx ops.toList oi st=some (FT i)→Pj cx ops oi st (FT i) v e →
   WI cx ops FT K fuel (listed.setIfInBounds i true) (st.after oi v e)→WI cx ops FT K (fuel+1) listed st:=by
 have here:∀(fuel:Nat) (listed:Array Bool) (st:St),MZ cx ops.toList oi st=some (FT i)→Pj cx ops oi st (FT i) v e →
   WI cx ops FT K fuel (listed.setIfInBounds i true) (st.after oi v e)→oW cx ops FT i (WI cx ops FT K fuel (listed.setIfInBounds i true)) st:=by
  intro fuel listed st hf hy H;unfold oW;rw[hi];exact⟨hf,hy.2 st (fun _ _=>rfl) (fun _ _=>rfl) _ H⟩
 intro fuel
 induction fuel with
 |zero =>
  intro listed st _ hr _ hf hy H;refine⟨fun h=>(by rw[h]at hr;cases hr),fun j hj=>?_⟩
  by_cases HL:j=i
  ·subst HL;exact here 0 listed st hf hy H
  ·have:=ready_mono hj HL
   rw[H.1]at this;cases this
 |succ fuel ih =>
  intro listed st Ab hr wX hf hy H;refine⟨fun h=>(by rw[h]at hr;cases hr),fun j hj=>?_⟩
  by_cases HL:j=i
  ·subst HL;exact here (fuel+1) listed st hf hy H
  ·have h1:=H.2 j (ready_mono hj HL);obtain⟨qi,oj,jP,FS⟩:=mem_ready.1 hj;have pI:∀k,listed.getD k true=false→listed.getD k false=true→False:=fun k h0 h1=>by
    rcases EF k listed.size with h' | h'
    ·simp[h']at h0 h1;rw[h0]at h1;cases h1
    ·simp[Array.getElem?_eq_none h']at h1
   have sa:¬D j:=fun rX=>by
    obtain⟨oj',lC,ed,he,hb,zM⟩:=hD j rX;rw[jP]at lC;cases lC;have hl:=FS ed he hb;rcases zM with h2 | h2
    ·exact pI _ (by rw[h2];exact(mem_ready.1 hr).1) hl
    ·exact pI _ (wX _ h2) hl
   obtain⟨pW,rX⟩:=Ab j oj jP HL qi sa;obtain⟨a1,a2,a3⟩:=Oper.apart_spec pW;obtain⟨d1,d2⟩:=bx rX;unfold oW at h1⊢;rw[jP]at h1⊢;obtain⟨xj,zC⟩:=h1;have xr:=QF (ops:=ops) a1 st v e;obtain⟨vj,ej,xJ,hK⟩:=N1 zC xj;have zn:∀r o',(r,o')∈e→r∉(FT j).1:=fun r o' q=>d1 r (hy.1 r o' q).1;have iJ:∀r o',(r,o')∈ej→r∉(FT i).1:=fun r o' q=>d2 r (xJ.1 r o' q).1;refine⟨by rw[←Sn xr];exact xj,xJ.2 st xr.symm (fun r nh=>?_) _ ?_⟩
   ·rw[ZX,Pt (fun o' q=>zn r o' q nh)]
   ·have xq:=QF (ops:=ops) a3 st vj ej;refine ih (listed.setIfInBounds j true) (st.after oj vj ej) (fun k ok hk xp jT QZ=>?_) (ready_mono hr (Ne.symm HL)) (fun k hk=>?_) (by rw[Sn xq];exact hf) ⟨hy.1,fun st2 hl hh K' h'=>?_⟩ ?_
    ·by_cases jM:j=k
     ·subst jM;exact Ab _ ok hk xp qi QZ
     ·rw[getD_set_ne true jM]at jT;exact Ab k ok hk xp jT QZ
    ·by_cases jM:j=k
     ·subst jM;exact absurd hk sa
     ·rw[getD_set_ne true jM];exact wX k hk
    ·refine hy.2 st2 (fun d hd=>(hl d hd).trans (xq d hd)) (fun r nh=>?_) K' h';rw[hh r nh,ZX,Pt (fun o' q=>iJ r o' q nh)]
    ·rw[Array.setIfInBounds_comm _ _ (Ne.symm HL)]at hK;rw[←Yr a2 (fun r o r' o' q q' e2=>iJ r' o' q' (by rw[e2];exact(hy.1 r o q).2))];exact hK
def l8(cx:Cx)(ops:Array Oper)(K:St→Prop):List Oper→List Fr→St→Prop
 | [],[],st=>K st
 |o::r,f::fs,st=>MZ cx ops.toList o st=some f∧∃v e,Pj cx ops o st f v e∧l8 cx ops K r fs (st.after o v e)
 |_,_,_=>False
theorem RE{K:St→Prop}:∀(l:List Oper) (acc:List Fr) (st:St),WM cx ops l acc st K→∃fs,RZ ops (acc.reverse++fs)=true∧l8 cx ops K l fs st
 | [],acc,st,h=>⟨[],by simpa using h.1,h.2⟩
 |o::r,acc,st,h=>by
  unfold WM at h;split at h
  ·rename_i f hf;obtain⟨v,e,h1,h2⟩:=N1 h hf;obtain⟨fs,q1,q2⟩:=RE r _ _ h2;exact⟨f::fs,by simpa using q1,hf,v,e,h1,q2⟩
  ·exact h.elim
theorem VX{o:Oper}{i:Nat}{D:List Nat}(h:Ow o i D=true):∃ed∈o.after,Region.binds .any ed=true∧(ed.on=i∨ed.on∈D):=by
 unfold Ow at h;obtain⟨ed,h1,h2⟩:=A7.1 h;simp only[Ag,CE]at h2;exact⟨ed,by simpa using h1,h2.1,h2.2.imp AL XO⟩
theorem TE{i:Nat}{D:List Nat}:∀(l:List Oper) (k:Nat),TC i D k l=true→∀j o,l[j]?=some o→k+j∈D→Ow o i D=true
 | [],_,_,_,_,h,_=>by simp at h
 |o::l,k,hs,j,o',h,hm=>by
  simp only[TC,Ag]at hs;cases j with
  |zero =>
   simp only[A8,Bo]at h;subst h;have h1:=hs.1;rw[OG (by simpa using hm)]at h1;simpa using h1
  |succ j=>exact TE l (k+1) hs.2 j o' (by simpa using h) (by rw[Gp,Nat.add_comm 1 j];exact hm)
theorem Uo{oi:Oper}{fi:Fr}{D:List Nat}:∀(l:List Oper) (fs:List Fr) (k:Nat),Il ops oi fi D k l fs=true→l.length=fs.length∧∀j o f,l[j]?=some o→fs[j]?=some f→k+j∉D→oi.apart ops o=true∧RY fi f=true
 | [],[],_,_=>⟨rfl,fun _ _ _ h=>by simp at h⟩
 | [],_::_,_,h=>by simp[Il]at h
 |_::_,[],_,h=>by simp[Il]at h
 |o::l,f::fs,k,h=>by
  simp only[Il,Ag,CE]at h;obtain⟨h1,h2⟩:=Uo l fs (k+1) h.2;refine⟨by simp[h1],fun j o' f' q1 q2 hn=>?_⟩;cases j with
  |zero =>
   simp only[A8,Bo]at q1 q2;subst q1;subst q2;rcases h.1 with h3 | h3
   ·exact absurd (XO h3) hn
   ·exact h3
  |succ j=>exact h2 j o' f' (by simpa using q1) (by simpa using q2) (by simpa[Nat.add_assoc,Nat.add_comm 1 j]using hn)
theorem WJ{K:St→Prop}:∀(l:List Oper) (fs:List Fr) (k:Nat) (listed:Array Bool) (st:St),(∀j,l[j]?=ops[k+j]?)→(∀j f,fs[j]?=some f→FT (k+j)=f)→listed.size=ops.size →
  (∀j,j<ops.size→listed.getD j true=decide (j<k))→LK ops ops.toList k l fs=true→l8 cx ops K l fs st→WI cx ops FT K l.length listed st
 | [],[],k,listed,st,hl,_,hs,hL,_,h=>by
  refine⟨?_,h⟩;apply Ls.2;intro j hj;obtain⟨h1,o,ho,_⟩:=mem_ready.1 hj;have DI:=(By.1 ho).1;rw[hL j DI]at h1;have oD:k≤j:=by simpa using h1
  have:=hl (j-k)
  rw[show k+(j-k)=j by omega,ho]at this;simp at this
 | [],_::_,_,_,_,_,_,_,_,h,_=>by simp[LK]at h
 |_::_,[],_,_,_,_,_,_,_,h,_=>by simp[LK]at h
 |o::l,f::fs,k,listed,st,hl,hF,hs,hL,hg,h=>by
  simp only[LK,Ag]at hg;obtain⟨⟨⟨⟨g1,g2⟩,g3⟩,g4⟩,g5⟩:=hg;obtain⟨hf,v,e,hy,hp⟩:=h;have h0:ops[k]?=some o:=by simpa using(hl 0).symm
  have hk:=(By.1 h0).1;have tN:FT k=f:=by simpa using hF 0 f rfl
  have Py : ∀j,l[j]?=ops[k+1+j]?:=fun j=>by have:=hl (j+1);simpa[Nat.add_assoc,Nat.add_comm 1 j]using this
  have oq : ∀j f,fs[j]?=some f→FT (k+1+j)=f:=fun j f' hj=>by have:=hF (j+1) f' (by simpa using hj);simpa[Nat.add_assoc,Nat.add_comm 1 j]using this
  obtain⟨CB,pW⟩:=Uo l fs (k+1) g4;have ZV:∀j,j∈Pr k [] 0 ops.toList→k<j∧j<ops.size:=fun j hj=>by
   have:=(Bq.1 g3) j hj
   simp only[Ag,Cj,B5]at this;exact this
  refine Yq h0 (fun j=>j∈Pr k [] 0 ops.toList) (fun j hj=>?_) l.length listed st (fun j oj jP jM jT sa=>?_) ?_ (fun j hj=>?_) (by rw[tN];exact hf) (by rw[tN];exact hy) ?_
  ·have DI:=(ZV j hj).2
   have:=TE ops.toList 0 g2 j ops[j] (by simp[DI]) (by simpa using hj)
   obtain⟨ed,e1,e2,e3⟩:=VX this;exact⟨ops[j],by simp[DI],ed,e1,e2,e3⟩
  ·have DI:=(By.1 jP).1;rw[hL j DI]at jT;have oD:k<j:=by have q:k≤j:=(by simpa using jT);omega
   have e1:l[j-(k+1)]?=some oj:=by rw[Py,show k+1+(j-(k+1))=j by omega];exact jP
   have hfl:j-(k+1)<fs.length:=by rw[←CB];exact(As.1 e1).1
   have e2:fs[j-(k+1)]?=some fs[j-(k+1)]:=Ay hfl;have e3:=oq _ _ e2;rw[show k+1+(j-(k+1))=j by omega]at e3;rw[tN,e3];exact pW _ _ _ e1 e2 (by rw[show k+1+(j-(k+1))=j by omega];exact sa)
  ·refine mem_ready.2 ⟨by rw[hL k hk];simp,o,h0,fun ed he hb=>?_⟩
   have:=(Bq.1 g1) ed (by simpa using he)
   simp only[hb,Bool.not_true,LA,Cj]at this;have h1:=hL ed.on (by omega);have DI:ed.on<listed.size:=by omega
   simp[DI]at h1⊢;rw[h1];simpa using this
  ·have:=ZV j hj
   rw[hL j this.2];simp;omega
  ·refine WJ l fs (k+1) _ _ Py oq (by simp[hs]) (fun j hj=>?_) g5 hp
   by_cases jM:j=k
   ·subst jM
    have:j<listed.size:=by omega
    simp[this]
   ·rw[getD_set_ne true (Ne.symm jM),hL j hj]
    by_cases h1:j<k
    ·simp[h1];omega
    ·simp[h1];omega
theorem aX{K:St→Prop}{st:St}(h:WM cx ops ops.toList [] st K):Region.noSelect ops=true∧∃FT,WI cx ops FT K ops.size (Array.replicate ops.size false) st:=by
 obtain⟨fs,h1,h2⟩:=RE _ _ _ h;simp only[RZ,List.reverse_nil,D8,Ag]at h1;refine⟨h1.1,fun j=>fs.getD j default,?_⟩
 have:=WJ (FT:=fun j=>fs.getD j default) ops.toList fs 0 (Array.replicate ops.size false) st (by simp) (fun j f hj=>by simp[hj]) (by simp) (fun j hj=>by simp[hj]) h1.2 h2
 simpa using this
end
end Go.Eng
