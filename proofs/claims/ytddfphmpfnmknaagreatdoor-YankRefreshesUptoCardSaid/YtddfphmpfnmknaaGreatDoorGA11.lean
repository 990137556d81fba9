/- Lemmas for the claims of this seat, without a condition: part 11 (EngX, EngY, EngZ). -/
import Derived.Test.YtddfphmpfnmknaaGreatDoorGA10
namespace Go.Eng
variable {x:Operand}{l:List Nat}{o:Oper}{K:St→Prop}{st:St}{d n:Nat}{cx:Cx}{st2:St}{d':Nat}(ops:Array Oper)(T:G4)
section
variable {cx:Cx}{dst:Option Nat}{ty:Nat}{pos:String}{after:Array Edge}{gd:Option (Nat×Bool)}{st:St}{R:List Nat}{w:Option Nat}{K:HK}
theorem cd{t:Nat}{p:Operand}(hk:Gl cx true ⟨dst,.load t p,ty,pos,after,gd⟩ st K)(hf:FL cx ⟨dst,.load t p,ty,pos,after,gd⟩ st=some (R,w)):EC cx ⟨dst,.load t p,ty,pos,after,gd⟩ st R w K:=by
 simp only[Gl]at hk;have hn:∀st2,JG ⟨dst,.load t p,ty,pos,after,gd⟩ R st st2→ev st2.t p=ev st.t p:=fun st2 ha=>ha.t p (by simp[Op.operands]);simp only[FL]at hf;unfold IZ at hk;split at hf
 ·rename_i cs hp;cases hf;rw[hp]at hk;simp only at hk;exact .pick (I1 _ _ _) hk fun st2 ha K' h=>by simp only[Gl,IZ,hn st2 ha,hp];exact h
 ·rename_i r off hp;cases hf;rw[hp]at hk;simp only at hk;split at hk
  ·rename_i cs hr;exact .pick (I1 _ _ _) hk fun st2 ha K' h=>by simp only[Gl,IZ,hn st2 ha,hp,ha.h r (Aa ..),hr];exact h
  ·rename_i cs hr;exact .pick (I1 _ _ _) hk fun st2 ha K' h=>by simp only[Gl,IZ,hn st2 ha,hp,ha.h r (Aa ..),hr];exact h
  ·exact hk.elim
 ·rename_i r n sz i off hp;cases hf;rw[hp]at hk;simp only at hk;split at hk
  ·rename_i G2 es hr;split at hk
   ·rename_i hs;exact .pick (DE (NR fun _=>DE (I1 _ _ _))) hk fun st2 ha K' h=>by simp only[Gl,IZ,hn st2 ha,hp,ha.h r (Aa ..),hr,hs];exact h
   ·exact hk.elim
  ·rename_i G2 es i' c av hr;split at hk
   ·rename_i hs;exact .pick (DE (I1 _ _ _)) hk fun st2 ha K' h=>by simp only[Gl,IZ,hn st2 ha,hp,ha.h r (Aa ..),hr,hs];exact h
   ·exact hk.elim
  ·exact hk.elim
 ·cases hf
theorem X9(hk:Gl cx true ⟨dst,.assign x,ty,pos,after,gd⟩ st K)(hf:FL cx ⟨dst,.assign x,ty,pos,after,gd⟩ st=some (R,w)):EC cx ⟨dst,.assign x,ty,pos,after,gd⟩ st R w K:=by
 simp only[Gl]at hk;have hn:∀st2,JG ⟨dst,.assign x,ty,pos,after,gd⟩ R st st2→ev st2.t x=ev st.t x:=fun st2 ha=>ha.t x (by simp[Op.operands]);simp only[FL]at hf;split at hf
 ·cases hf
 ·rename_i hx;cases hf;have same:∃y,∀(h:Nat→HO) (K:HK),PA cx dst h (ev st.t x) K↔K y h:=by
   unfold PA;cases dst with
   |none=>exact⟨_,fun _ _=>Sg⟩
   |some d =>
    simp only;cases Hh cx.pl.tok d with
    |some sz =>
     simp only;cases Nat.beq sz 0 with
     |true=>exact⟨_,fun _ _=>Sg⟩
     |false =>
      refine⟨ev st.t x,fun h K=>?_⟩;simp only;split
      ·rename_i e;exact absurd e (hx _ _ _)
      ·exact Sg
    |none =>
     simp only;cases Hh cx.pl.arr d with
     |some sz =>
      refine⟨ev st.t x,fun h K=>?_⟩;simp only;split
      ·rename_i e;exact absurd e (hx _ _ _)
      ·exact Sg
     |none=>exact⟨_,fun _ _=>Sg⟩
  obtain⟨y,same⟩:=same;exact .pick (Di y) ((same _ _).1 hk) fun st2 ha K' h=>by simp only[Gl];rw[hn st2 ha];exact(same _ _).2 h
theorem Sv{t:Nat}{lo hi mx:Option Operand}(hp:Oz cx.pl.tok dst=none)(hk:Gl cx true ⟨dst,.slice t x lo hi mx,ty,pos,after,gd⟩ st K)(hf:FL cx ⟨dst,.slice t x lo hi mx,ty,pos,after,gd⟩ st=some (R,w)) :
  EC cx ⟨dst,.slice t x lo hi mx,ty,pos,after,gd⟩ st R w K:=by
 simp only[Gl,hp]at hk;have hn:∀st2,JG ⟨dst,.slice t x lo hi mx,ty,pos,after,gd⟩ R st st2→ev st2.t x=ev st.t x∧Cb st2.t lo=Cb st.t lo∧Cb st2.t hi=Cb st.t hi∧Cb st2.t mx=Cb st.t mx:=by
  intro st2 ha;have opt:∀y:Option Operand,(∀z,y=some z→ev st2.t z=ev st.t z)→Cb st2.t y=Cb st.t y:=by
   intro y hy;cases y with
   |none=>rfl
   |some z=>simp only[Cb];rw[hy z rfl]
  exact⟨ha.t x (by simp[Op.operands]),opt lo (fun z e=>ha.t z (by simp[Op.operands,e])),opt hi (fun z e=>ha.t z (by simp[Op.operands,e])),opt mx (fun z e=>ha.t z (by simp[Op.operands,e]))⟩
 simp only[FL,hp]at hf;split at hf
 ·cases hf
 ·rename_i hx;cases hf;have e3:Cb st.t none=some none:=rfl
  have H6:GE (fun K1=>G1 cx dst st.h t (ev st.t x) (Cb st.t lo) (Cb st.t hi) (some none) fun v _=>K1 v) ∧
    ∀(h:Nat→HO) (K:HK),G1 cx dst h t (ev st.t x) (Cb st.t lo) (Cb st.t hi) (some none) K↔G1 cx dst st.h t (ev st.t x) (Cb st.t lo) (Cb st.t hi) (some none) (fun v _=>K v h):=by
   generalize ev st.t x=X at hx;unfold G1;constructor
   ·repeat' split
    all_goals first | exact CN | exact DE (Di _) | exact DE (DE (Di _)) | skip
    all_goals first | (rename_i e;cases e;done) | skip
    all_goals (exfalso;exact hx _ _ rfl)
   ·intro h K
    repeat' split
    all_goals first | exact Sg | skip
    all_goals exfalso
    all_goals first | exact hx _ _ rfl | (rename some none=some (some _)=>e4;cases e4)
  rw[e3]at hk;exact .pick H6.1 ((H6.2 _ _).1 hk) fun st2 ha K' h=>by
   obtain⟨n1,n2,n3,n4⟩:=hn st2 ha;simp only[Gl,hp];rw[n1,n2,n3,n4,e3];exact(H6.2 _ _).2 h
 ·rename_i y tk es hx;obtain⟨d,rfl,e0⟩:=Jk hf;cases e0;rw[hx]at hk;unfold G1 at hk;split at hk
  ·rename_i It MJ qF e1 e2 e3;split at hk
   ·split at hk<;>first | exact hk.elim | (rename_i e;cases e)
   ·rename_i e he;split at hk
    ·exact hk.elim
    ·rename_i k Ev;simp only at hk;split at hk
     ·exfalso
      rename_i e4;simp only[Cb]at e3;split at e3<;>cases e3
     ·rename_i m;split at hk
      ·rename some d=some _=>e5
       cases e5
       split at hk
       ·rename_i rS;refine⟨_,none,hk.2.2,fun r o' e=>(by cases e),fun st2 Hx K' h'=>?_⟩;obtain⟨n1,n2,n3,n4⟩:=hn st2 Hx;simp only[Gl,hp];rw[n1,n2,n3,n4,hx,e1,e2,e3];unfold G1;simp only[he];split
        ·rename_i e0;rw[Ev]at e0;cases e0
        ·simp only[rS];exact⟨hk.1,hk.2.1,h'⟩
       rename_i rS;split at hk
       ·rename_i hd;refine⟨_,some (d,_),hk.2.2,fun r o' e=>(by cases e;exact⟨rfl,Aa ..⟩),fun st2 Hx K' h'=>?_⟩;obtain⟨n1,n2,n3,n4⟩:=hn st2 Hx;simp only[Gl,hp];rw[n1,n2,n3,n4,hx,e1,e2,e3];unfold G1;simp only[he];split
        ·rename_i e0;rw[Ev]at e0;cases e0
        ·simp only[rS];rw[Hx.h d (Aa ..),hd];exact⟨hk.1,hk.2.1,h'⟩
       ·exact hk.elim
      ·exact hk.elim
   ·exact hk.elim
  ·exact hk.elim
 ·cases hf
theorem gn{t:Nat}{lo hi mx:Option Operand}{p:Nat}(hp:Oz cx.pl.tok dst=some p)(hk:Gl cx true ⟨dst,.slice t x lo hi mx,ty,pos,after,gd⟩ st K)(hf:FL cx ⟨dst,.slice t x lo hi mx,ty,pos,after,gd⟩ st=some (R,w)) :
  Tn cx ⟨dst,.slice t x lo hi mx,ty,pos,after,gd⟩ st R w K:=by
 simp only[Gl,hp]at hk;simp only[FL,hp]at hf;obtain⟨d',r,n,hd,hx,e0⟩:=ca hf;cases e0;cases dst with
 |none=>cases hd
 |some d =>
 cases hd
 unfold Oq at hk;split at hk
 ·rw[hx]at hk;unfold l8 at hk;split at hk
  ·rename_i d0 MJ e1 e2;cases e1;split at hk
   ·rename_i e he;split at hk
    ·exact hk.elim
    ·rename_i k Ev;simp only at hk;split at hk
     ·rename_i sz es hr;split at hk
      ·rename_i hd;split at hk
       ·rename_i q1 q3;obtain⟨h1,hk⟩:=hk;have hr8:r<10000000∧0<Lr cx d:=by simpa using q3
        obtain⟨hr7,hz⟩:=hr8;refine⟨_,[(r,.dead),(Lr cx d,_)],hk,fun r' o' e=>?_,fun st2 ha K' h'=>?_⟩
        ·rcases AF.1 e with e | e
         ·cases e
          refine⟨.inr (.inl ⟨by omega,.inl ?_⟩),Aa ..⟩;rw[Nat.add_mul_mod_self_left,Nat.mod_eq_of_lt hr7]
         ·obtain e:=Ar.1 e;cases e;refine⟨.inr (.inl ⟨by omega,.inr ?_⟩),Ah _ (Aa ..)⟩;rw[Nat.add_mul_div_left _ _ Cl,Nat.div_eq_of_lt hr7,Bi]
        ·have o1:Cb st2.t hi=Cb st.t hi:=by
          cases hi with
          |none=>rfl
          |some z=>simp only[Cb];rw[ha.t z (by simp[Op.operands])]
         simp only[Gl,hp];unfold Oq;rw[ha.t x (by simp[Op.operands]),o1,hx,e2];unfold l8;simp only[he];split
         ·rename_i e0;rw[Ev]at e0;cases e0
         ·simp only[ha.h r (Aa ..),hr,ha.h (Lr cx d) (Ah _ (Aa ..)),hd,q1,q3];exact⟨h1,h'⟩
       ·exact hk.elim
      ·exact hk.elim
     ·exact hk.elim
   ·exact hk.elim
  ·exact hk.elim
 ·exact hk.elim
theorem X8{s:Operand}{Hp:Array TypeId}(hk:Gl cx true ⟨dst,.call ⟨.builtin .append,#[s,x],Hp⟩,ty,pos,after,gd⟩ st K)(hf:FL cx ⟨dst,.call ⟨.builtin .append,#[s,x],Hp⟩,ty,pos,after,gd⟩ st=some (R,w)) :
  EC cx ⟨dst,.call ⟨.builtin .append,#[s,x],Hp⟩,ty,pos,after,gd⟩ st R w K:=by
 have hk:Gw cx dst st.h .append Hp.toList [ev st.t s,ev st.t x] K:=hk;have hf:X7 cx dst (ev st.t s) (ev st.t x)=some (R,w):=hf;have hn:∀st2,JG ⟨dst,.call ⟨.builtin .append,#[s,x],Hp⟩,ty,pos,after,gd⟩ R st st2→ev st2.t s=ev st.t s∧ev st2.t x=ev st.t x:=fun st2 ha =>
  ⟨ha.t s (by simp[Op.operands,Call.operands]),ha.t x (by simp[Op.operands,Call.operands])⟩
 have H8:∀st2,JG ⟨dst,.call ⟨.builtin .append,#[s,x],Hp⟩,ty,pos,after,gd⟩ R st st2→∀K' : HK,Gw cx dst st2.h .append Hp.toList [ev st.t s,ev st.t x] K'→Gl cx true ⟨dst,.call ⟨.builtin .append,#[s,x],Hp⟩,ty,pos,after,gd⟩ st2 K':=by
  intro st2 ha K' h;rw[←(hn st2 ha).1,←(hn st2 ha).2]at h;exact h
 generalize Hp.toList=l at hk H8
 match l,hk,H8 with
 | [t,t'],hk,H8 =>
  simp only[Gw]at hk H8;split at hk
  ·rename_i ht;simp only[ht]at H8;unfold I4 at hk H8;split at hk
   ·rename_i e he;simp only[he]at H8;split at hk
    ·exact hk.elim
    ·rename_i hz;simp only[hz]at H8;split at hk
     ·exact hk.elim
     ·rename_i k Ev;obtain⟨es2,q1,q2⟩:=bU hk;have ua:∀d,R=d::gW (ev st.t x)→∀st2,JG ⟨dst,.call ⟨.builtin .append,#[s,x],Hp⟩,ty,pos,after,gd⟩ R st st2→∀r n,ev st.t x=.msl r n→st2.h r=st.h r:=fun d hR st2 ha r n e=>ha.h r (by rw[hR,e];simp[gW]);unfold X7 at hf;split at hf
      ·rename_i hs;obtain⟨d,gy,e0⟩:=Jk hf;cases e0;rw[hs]at q1 H8;simp only at q1 H8;obtain⟨d',hd,v,y,q3,q4⟩:=I7 q1.2;rw[gy]at hd;cases hd;refine⟨v,some (d,y),q3,fun r o' e=>(by cases e;exact⟨rfl,Aa ..⟩),fun st2 Hx K' h'=>H8 st2 Hx K' ?_⟩;split
       ·rename_i e0;rw[Ev]at e0;cases e0
       ·exact q2 st2.h (ua d rfl st2 Hx) _ ⟨q1.1,q4 st2.h (Hx.h d (Aa ..)) K' h'⟩
      ·rename_i G2 es hs;obtain⟨d,gy,e0⟩:=Jk hf;cases e0;rw[hs]at q1 H8;simp only at q1 H8;split at q1
       ·rename_i h1;obtain⟨d',hd,v,y,q3,q4⟩:=I7 q1.2;rw[gy]at hd;cases hd;refine⟨v,some (d,y),q3,fun r o' e=>(by cases e;exact⟨rfl,Aa ..⟩),fun st2 Hx K' h'=>H8 st2 Hx K' ?_⟩;split
        ·rename_i e0;rw[Ev]at e0;cases e0
        ·refine q2 st2.h (ua d rfl st2 Hx) _ ?_;simp only[h1];exact⟨q1.1,q4 st2.h (Hx.h d (Aa ..)) K' h'⟩
       ·exact q1.elim
      ·rename_i r G2 es hs;cases hf;rw[hs]at q1 H8;simp only at q1 H8;split at q1
       ·rename_i sz n hr;split at q1
        ·rename_i h1 h2;refine⟨_,some (r,_),q1.2,fun r o' e=>(by cases e;exact⟨rfl,Aa ..⟩),fun st2 Hx K' h'=>H8 st2 Hx K' ?_⟩;split
         ·rename_i e0;rw[Ev]at e0;cases e0
         ·refine q2 st2.h (ua r rfl st2 Hx) _ ?_;simp only[Hx.h r (Aa ..),hr,h1,h2];exact⟨q1.1,h'⟩
        ·exact q1.elim
       ·exact q1.elim
      ·rename_i r n hs;cases hf;rw[hs]at q1 H8;simp only at q1 H8;split at q1
       ·rename_i sz es hr;split at q1
        ·rename_i h1;refine⟨_,some (r,_),q1.2,fun r o' e=>(by cases e;exact⟨rfl,Aa ..⟩),fun st2 Hx K' h'=>H8 st2 Hx K' ?_⟩;split
         ·rename_i e0;rw[Ev]at e0;cases e0
         ·refine q2 st2.h (ua r rfl st2 Hx) _ ?_;simp only[Hx.h r (Aa ..),hr,h1];exact⟨q1.1,h'⟩
        ·exact q1.elim
       ·exact q1.elim
      ·cases hf
   ·exact hk.elim
  ·exact hk.elim
 | [],hk,_=>exact hk.elim
 | [_],hk,_=>exact hk.elim
 |_::_::_::_,hk,_=>exact hk.elim
theorem Xe(t:Nat):GE (La T t):=by
 unfold La
 repeat' split
 all_goals first | exact CN | exact Di _
theorem Vc(ty:Nat)(ok:Bool)(B8:List (Value×AV))(kx:Value):GE (MZ T ty ok B8 kx):=by
 unfold MZ
 repeat' split
 ·refine eH (NR fun a=>DE (Di _)) (DE ?_);intro K hk;obtain⟨v,h1,h2⟩:=Xe T _ _ hk;exact⟨_,h1,fun K' h=>h2 _ h⟩
 ·exact eH (NR fun a=>DE (Di _)) (DE (Xe T _))
 ·exact CN
theorem aS(ty:Nat)(sh:E7)(k:AV){F:Value→(AV→Prop)→Prop}(h:∀x,GE (F x)):GE fun K=>KZ T ty sh k fun kx=>F kx K:=by
 unfold KZ
 repeat' split
 all_goals first | exact CN | exact h _
theorem Ya{t:Nat}{m k:Operand}{ok:Bool}(hk:Gl cx true ⟨dst,.lookup t m k ok,ty,pos,after,gd⟩ st K)(hf:FL cx ⟨dst,.lookup t m k ok,ty,pos,after,gd⟩ st=some (R,w)) :
  EC cx ⟨dst,.lookup t m k ok,ty,pos,after,gd⟩ st R w K:=by
 simp only[Gl]at hk;have hn:∀st2,JG ⟨dst,.lookup t m k ok,ty,pos,after,gd⟩ R st st2→ev st2.t m=ev st.t m∧ev st2.t k=ev st.t k:=fun st2 ha=>⟨ha.t m (by simp[Op.operands]),ha.t k (by simp[Op.operands])⟩;simp only[FL]at hf;unfold NK at hk;split at hf
 ·rename_i sh B8 hm;cases hf;rw[hm]at hk;simp only at hk;exact .pick (aS _ _ _ _ fun _=>Vc _ _ _ _ _) hk fun st2 ha K' h=>by simp only[Gl,NK,hn st2 ha,hm];exact h
 ·rename_i r hm;cases hf;rw[hm]at hk;simp only at hk;split at hk
  all_goals first | exact hk.elim | (rename_i e;exact .pick (aS _ _ _ _ fun _=>Vc _ _ _ _ _) hk fun st2 ha K' h=>by simp only[Gl,NK,hn st2 ha,hm,ha.h r (Aa ..),e];exact h)
 ·cases hf
theorem l5(t:Nat)(h:Nat→HO)(x:AV):GE (SD T t h x):=by
 unfold SD
 repeat' split
 all_goals first | exact CN | exact Di _
theorem sJ{T:G4}{t:Nat}{h h2:Nat→HO}{x:AV}(e:∀r,x=.mref r→h2 r=h r){K:AV→Prop}:SD T t h2 x K=SD T t h x K:=by
 cases x<;>first | rfl | skip
 rename_i r;unfold SD;simp only[e r rfl]
theorem gm{Hp:Array TypeId}(hk:Gl cx true ⟨dst,.call ⟨.builtin .len,#[x],Hp⟩,ty,pos,after,gd⟩ st K)(hf:FL cx ⟨dst,.call ⟨.builtin .len,#[x],Hp⟩,ty,pos,after,gd⟩ st=some (R,w)) :
  EC cx ⟨dst,.call ⟨.builtin .len,#[x],Hp⟩,ty,pos,after,gd⟩ st R w K:=by
 have hk:Gw cx dst st.h .len Hp.toList [ev st.t x] K:=hk;have hf:Hs cx dst (.builtin .len) st.t [ev st.t x]=some (R,w):=hf;have hn:∀st2,JG ⟨dst,.call ⟨.builtin .len,#[x],Hp⟩,ty,pos,after,gd⟩ R st st2→ev st2.t x=ev st.t x:=fun st2 ha=>ha.t x (by simp[Op.operands,Call.operands]);have H8:∀st2,JG ⟨dst,.call ⟨.builtin .len,#[x],Hp⟩,ty,pos,after,gd⟩ R st st2→∀K' : HK,Gw cx dst st2.h .len Hp.toList [ev st.t x] K'→Gl cx true ⟨dst,.call ⟨.builtin .len,#[x],Hp⟩,ty,pos,after,gd⟩ st2 K':=by
  intro st2 ha K' h;rw[←hn st2 ha]at h;exact h
 generalize Hp.toList=l at hk H8
 match l,hk,H8 with
 | [t],hk,H8 =>
  have hR:∀r,ev st.t x=.mref r→r∈R:=fun r e=>by
   rw[e]at hf;cases hf;exact Aa ..
  have hw:w=none:=by
   unfold Hs at hf;split at hf<;>first | (cases hf;rfl) | (rename_i e;cases e) | (rename_i e _;cases e) | skip
   all_goals (cases hf)
  subst hw;exact .pick (l5 _ _ _ _) hk fun st2 ha K' h=>H8 st2 ha K' (by
   simp only[Gw];rw[sJ fun r e=>ha.h r (hR r e)];exact h)
 | [],hk,_=>exact hk.elim
 |_::_::_,hk,_=>exact hk.elim
end
theorem oZ(h:JB l n=true):n∈l:=by
 induction l with
 |nil=>cases h
 |cons a l ih =>
  unfold JB at h
  by_cases e:a=n
  ·exact e▸Aa ..
  ·rw[CX e]at h;exact Ah _ (ih h)
theorem Zg(G:Nat→HO):∀(σ:JO) (h:Nat→HO),EK σ=true→(fun i=>match CC σ i with | some j=>G j | none=>h i)=IV h (σ.map fun p=>(p.1,G p.2))
 | [],h,_=>rfl
 |(i,j)::r,h,hσ=>by
  unfold EK at hσ;simp only[Ai]at hσ;have ih:=Zg G r (A0 h i (G j)) hσ.2;show _=IV (A0 h i (G j)) (r.map fun p=>(p.1,G p.2));rw[←ih]
  funext i'
  have hn:CC r i=none:=by
   have:=hσ.1.1.1
   cases e:CC r i with
   |none=>rfl
   |some k=>rw[e]at this;simp at this
  by_cases e:i'=i
  ·subst e;have e1:CC ((i',j)::r) i'=some j:=by unfold CC;rw[Dh];rfl
   rw[e1,hn];show G j=A0 h i' (G j) i';unfold A0;rw[Dh];rfl
  ·have e1:CC ((i,j)::r) i'=CC r i':=by
    show(bif Nat.beq i i' then some j else CC r i')=_;rw[CX (VL e)];rfl
   rw[e1];cases CC r i' with
   |some k=>rfl
   |none=>show h i'=A0 h i (G j) i';unfold A0;rw[CX e];rfl
theorem Wr{σ:JO}(hσ:EK σ=true){h h' : Nat→HO}:Eu σ d 0 h h'=IV h (σ.map fun p=>(p.1,(h' p.2).ren (FC σ d 0) h')):=by
 rw[←Zg (fun j=>(h' j).ren (FC σ d 0) h') σ h hσ]
 funext i
 unfold Eu;cases CC σ i with
 |some j=>rfl
 |none =>
  have:(Nat.ble (BA d 0) i&&Nat.blt i (BA d 0))=false:=by
   rw[AI];simp only[W9,Ai,Do,Cm];omega
  simp only[this]
section
variable {cx:Cx}{op:Op}{dst:Option Nat}{ty:Nat}{pos:String}{after:Array Edge}{gd:Option (Nat×Bool)}{st:St}{R:List Nat}{w:Option Nat}{K:HK}
theorem EC.toL(h:EC cx ⟨dst,op,ty,pos,after,gd⟩ st R w K):Tn cx ⟨dst,op,ty,pos,after,gd⟩ st R w K:=by
 obtain⟨v,e,h1,h2,h3⟩:=h;cases e with
 |none=>exact⟨v,[],h1,fun r o' e=>(by cases e),h3⟩
 |some p=>exact⟨v,[p],h1,fun r o' e=>by
   obtain rfl:=Ar.1 e;obtain⟨a,b⟩:=h2 r o' rfl;exact⟨by rw[a];exact .inl rfl,b⟩,h3⟩
theorem cc{c:Call}(hk:Gl cx true ⟨dst,.call c,ty,pos,after,gd⟩ st K)(hf:FL cx ⟨dst,.call c,ty,pos,after,gd⟩ st=some (R,w)):Tn cx ⟨dst,.call c,ty,pos,after,gd⟩ st R w K:=by
 obtain⟨rD,args,Hp⟩:=c;have Ke:∀st2,JG ⟨dst,.call ⟨rD,args,Hp⟩,ty,pos,after,gd⟩ R st st2→args.toList.map (ev st2.t)=args.toList.map (ev st.t):=fun st2 ha =>
  Bd fun x hx=>ha.t x (by simp only[Op.operands,Call.operands,TJ];exact .inr (by simpa using hx))
 cases rD with
 |invoke r m=>exact hk.elim
 |value f =>
  have hk:GX cx true dst st (ev st.t f) (args.toList.map (ev st.t)) K:=hk;have hf:Hs cx dst (.value f) st.t (args.toList.map (ev st.t))=some (R,w):=hf;unfold Hs at hf;unfold GX at hk;simp only at hf hk;have hn:=Ke;split at hf
  ·rename_i dP;rw[dP]at hk;cases hf;obtain⟨res,h1,h2⟩:=hk;refine EC.toL ⟨res,none,h2,fun r o' e=>(by cases e),fun st2 ha K' h'=>?_⟩;show GX cx true dst st2 (ev st2.t f) (args.toList.map (ev st2.t)) K';rw[Ke st2 ha,ha.t f (by simp[Op.operands,Call.operands])];unfold GX;simp only[dP];refine⟨res,?_,h'⟩;rw[LK (h:=st.h) (fun r hr=>ha.h r (Bp _ hr)),RY (h:=st.h) (fun r hr=>ha.h r (Bj _ hr))];exact h1
  ·rename_i dP;rw[dP]at hk;simp only at hk;cases dst with
   |none=>exact hk.elim
   |some d =>
    obtain⟨n,sz,es,h1,h2,h3⟩:=hk;have hf:some (BA d 0::(YS (ev st.t f)++UE (args.toList.map (ev st.t))),some (BA d 0))=some (R,w):=hf;cases hf;refine EC.toL ⟨_,some (BA d 0,_),h3,fun r o' e=>(by cases e;exact⟨rfl,Aa ..⟩),fun st2 ha K' h'=>?_⟩;show GX cx true (some d) st2 (ev st2.t f) (args.toList.map (ev st2.t)) K';rw[Ke st2 ha,ha.t f (by simp[Op.operands,Call.operands])];unfold GX;simp only[dP];refine⟨n,sz,es,?_,?_,h'⟩
    ·have:DR st2.h d 1=DR st.h d 1:=by simp only[DR,ha.h (BA d 0) (Aa ..)]
     rw[this];exact h1
    ·rw[LK (h:=st.h) (fun r hr=>ha.h r (Ah _ (Bp _ hr))),RY (h:=st.h) (fun r hr=>ha.h r (Ah _ (Bj _ hr)))];exact h2
  ·rename_i dP;rw[dP]at hk;have hk:SV cx 0 dst st.h (ev st.t f) (args.toList.map (ev st.t)) K:=hk;split at hf
   ·rename_i r n l hl;cases hf;have H6:=hk;unfold SV at H6;rw[hl]at H6;split at H6
    ·rename_i d0 f0 r0 n0 l0 e1 e2 z1 z2;cases e2;split at H6
     ·rename_i vs je;split at H6
      ·rename_i sz es hr;obtain⟨n',F7,h1,h2⟩:=H6;refine EC.toL ⟨_,some (r,_),h2,fun r o' e=>(by cases e;exact⟨rfl,Aa ..⟩),fun st2 ha K' h'=>?_⟩;show GX cx true _ st2 (ev st2.t f) (args.toList.map (ev st2.t)) K';rw[Ke st2 ha,ha.t f (by simp[Op.operands,Call.operands]),hl,e1];unfold GX;simp only[dP];unfold QE;simp only;unfold SV;simp only[je,ha.h r (Aa ..),hr];exact⟨n',F7,h1,h'⟩
      ·exact H6.elim
     ·exact H6.elim
    ·exact H6.elim
   ·cases hf
  ·rename_i k dP;rw[dP]at hk;cases hb:Nat.beq k 1 with
   |true =>
    have Uy:Nat.beq (k+1) 2=true:=hb;have hk:VB cx dst st (ev st.t f) (args.toList.map (ev st.t)) K:=by
     have H6:(match Nat.beq (k+1) 2 with | true=>VB cx dst st (ev st.t f) (args.toList.map (ev st.t)) K | false=>match Nat.beq (k+1) 3 with | true=>Se cx dst st (ev st.t f) (args.toList.map (ev st.t)) K | false=>QE cx (k+1) dst st (ev st.t f) (args.toList.map (ev st.t)) K):=hk;rw[Uy]at H6;exact H6
    rw[hb]at hf;cases dst with
    |none=>exact hk.elim
    |some d =>
     obtain⟨sz,es,h1,h2,h3⟩:=hk;have hf:some (BA d 0::(YS (ev st.t f)++UE (args.toList.map (ev st.t))),some (BA d 0))=some (R,w):=hf;cases hf;refine EC.toL ⟨_,some (BA d 0,_),h3,fun r o' e=>(by cases e;exact⟨rfl,Aa ..⟩),fun st2 ha K' h'=>?_⟩;show GX cx true (some d) st2 (ev st2.t f) (args.toList.map (ev st2.t)) K';rw[Ke st2 ha,ha.t f (by simp[Op.operands,Call.operands])];unfold GX;simp only[dP,Uy];refine⟨sz,es,?_,?_,h'⟩
     ·have:DR st2.h d 1=DR st.h d 1:=by simp only[DR,ha.h (BA d 0) (Aa ..)]
      rw[this];exact h1
     ·rw[LK (h:=st.h) (fun r hr=>ha.h r (Ah _ (Bp _ hr))),RY (h:=st.h) (fun r hr=>ha.h r (Ah _ (Bj _ hr)))];exact h2
   |false =>
    have Uy:Nat.beq (k+1) 2=false:=hb;rw[hb]at hf;have H6:(match Nat.beq (k+1) 2 with | true=>VB cx dst st (ev st.t f) (args.toList.map (ev st.t)) K | false=>match Nat.beq (k+1) 3 with | true=>Se cx dst st (ev st.t f) (args.toList.map (ev st.t)) K | false=>QE cx (k+1) dst st (ev st.t f) (args.toList.map (ev st.t)) K):=hk;rw[Uy]at H6;cases hc:Nat.beq k 2 with
    |true =>
     have i7:Nat.beq (k+1) 3=true:=hc;rw[hc]at hf;simp only[i7]at H6;have hf:kb (args.toList.map (ev st.t))=some (R,w):=hf;unfold kb at hf;unfold Se at H6;split at hf
     ·rename_i vs je;cases hf;split at H6
      ·rename_i l ji e1 e2 z1 z2;rw[je]at e2;cases e2;split at H6
       ·rename_i r sz es ff n e3 e4;obtain⟨⟨rfl,rfl⟩,v,F7,n',h1,h2⟩:=H6;refine⟨_,[(1001,_),(1000,_)],h2,fun r' o' e=>?_,fun st2 ha K' h'=>?_⟩
        ·rcases AF.1 e with e | e
         ·cases e
          exact⟨.inr (.inl ⟨by decide,.inr Cl⟩),by simp⟩
         ·obtain e:=Ar.1 e;cases e;exact⟨.inr (.inl ⟨by decide,.inl Cl⟩),by simp⟩
        show GX cx true _ st2 (ev st2.t f) (args.toList.map (ev st2.t)) K';rw[Ke st2 ha,ha.t f (by simp[Op.operands,Call.operands]),e1];unfold GX;simp only[dP,Uy,i7];unfold Se;simp only[je,ha.h 1000 B0,ha.h 1001 B0,e3,e4];exact⟨⟨trivial,trivial⟩,v,F7,n',h1,h'⟩
       ·exact H6.elim
      ·exact H6.elim
     ·cases hf
    |false =>
    have i7:Nat.beq (k+1) 3=false:=hc;rw[hc]at hf;have WQ:QE cx (k+1) dst st (ev st.t f) (args.toList.map (ev st.t)) K:=by
     simp only[i7]at H6;exact H6
    have rW:j9 k dst (args.toList.map (ev st.t))=some (R,w):=hf;unfold j9 at rW;unfold QE at WQ;cases he:Nat.beq k 3 with
    |true =>
     have dQ:Nat.beq (k+1) 4=true:=he;rw[he]at rW;rw[dQ]at WQ;have rW:some (nX,some XP)=some (R,w):=rW;have WQ:ZA cx dst st (ev st.t f) (args.toList.map (ev st.t)) K:=WQ;cases rW;unfold ZA at WQ;split at WQ
     ·rename_i d f' e2 _ _ _;obtain⟨σ,H0,Hn,args',res,g1,g2,g3,g4⟩:=WQ;simp only[Ai]at g2;refine⟨_,σ.map fun p=>(p.1,(Ak Hn Af p.2).ren (FC σ d 0) (Ak Hn Af)),(Wr (h:=st.h) (h':=Ak Hn Af) (d:=d) g2.1.1)▸g4,fun r' o' e=>?_,fun st2 ha K' h'=>?_⟩
      ·obtain⟨p,hp,e⟩:=Am.1 e;cases e;exact⟨.inr (.inr rfl),oZ (AZ.1 g2.2 p hp)⟩
      ·show GX cx true _ st2 (ev st2.t f) (args.toList.map (ev st2.t)) K';rw[Ke st2 ha,ha.t f (by simp[Op.operands,Call.operands])];unfold GX;simp only[dP,Uy,i7];unfold QE;simp only[dQ];unfold ZA;rw[e2];refine⟨σ,H0,Hn,args',res,fun h2 hh=>g1 h2 fun r hr=>(hh r hr).trans (ha.h r hr),by simp only[Ai];exact g2,g3,?_⟩;rw[Wr (h:=st2.h) (h':=Ak Hn Af) (d:=d) g2.1.1];exact h'
     ·exact WQ.elim
    |false =>
    have dQ:Nat.beq (k+1) 4=false:=he;rw[he]at rW;rw[dQ]at WQ;have hf:dF dst (args.toList.map (ev st.t))=some (R,w):=rW;have hk:SV cx (k+1) dst st.h (ev st.t f) (args.toList.map (ev st.t)) K:=WQ;obtain⟨d,r,n,l,rfl,hl,e0⟩:=bZ hf;cases e0;unfold SV at hk;rw[hl]at hk;split at hk
    ·rename_i d0 f0 r0 n0 l0 e9 e1 e2;cases e9;cases e2;split at hk
     ·rename_i vs je;split at hk
      ·rename_i sz es hr;obtain⟨n',F7,h0,h1,h2⟩:=hk;have zY:=h0;simp only[Ai,Cm]at zY;refine⟨_,[(r,.dead),(BA d 0,_)],h2,fun r' o' e=>?_,fun st2 ha K' h'=>?_⟩
       ·rcases AF.1 e with e | e
        ·cases e
         refine⟨.inr (.inl ⟨by unfold BA;omega,.inl ?_⟩),Aa ..⟩;rw[Nat.add_mul_mod_self_left,Nat.mod_eq_of_lt zY.1.2]
        ·obtain e:=Ar.1 e;cases e;refine⟨.inr (.inl ⟨by unfold BA;omega,.inr ?_⟩),Ah _ (Aa ..)⟩;rw[Nat.add_mul_div_left _ _ Cl,Nat.div_eq_of_lt zY.1.2,Bi]
       show GX cx true _ st2 (ev st2.t f) (args.toList.map (ev st2.t)) K';rw[Ke st2 ha,ha.t f (by simp[Op.operands,Call.operands]),hl,e1];unfold GX;simp only[dP,Uy,i7];unfold QE;simp only[dQ];unfold SV;simp only[je,ha.h r (Aa ..),hr]
       have:DR st2.h d 1=DR st.h d 1:=by simp only[DR,ha.h (BA d 0) (Ah _ (Aa ..))]
       exact⟨n',F7,by rw[this];exact h0,h1,h'⟩
      ·exact hk.elim
     ·exact hk.elim
    ·exact hk.elim
 |builtin b =>
  refine EC.toL ?_;have mm:∀f:Int→Int→Int,(∀(d:Option Nat) (h:Nat→HO) (Hp:List Nat) (args:List AV) (K:HK),Gw cx d h b Hp args K=(match args with | [x,y]=>o5 f x y fun v=>K v h | _=>False))→R=[]∧w=none→EC cx ⟨dst,.call ⟨.builtin b,args,Hp⟩,ty,pos,after,gd⟩ st R w K:=by
   rintro f hb ⟨rfl,rfl⟩
   have hk:Gw cx dst st.h b Hp.toList (args.toList.map (ev st.t)) K:=hk;rw[hb]at hk;split at hk
   ·rename_i x y e;refine .pick (pq f x y) hk fun st2 ha K' h=>?_;show Gw cx dst st2.h b Hp.toList (args.toList.map (ev st2.t)) K';rw[hb,Ke st2 ha,e];exact h
   ·exact hk.elim
  cases b
  case max=>exact mm max (fun d h Hp args K=>by cases args with | nil=>rfl | cons x l=>cases l with | nil=>rfl | cons y l=>cases l<;>rfl) (by
   have hf:Hs cx dst (.builtin .max) st.t (args.toList.map (ev st.t))=some (R,w):=hf;simp only[Hs]at hf;cases hf;exact⟨rfl,rfl⟩)
  case min=>exact mm min (fun d h Hp args K=>by cases args with | nil=>rfl | cons x l=>cases l with | nil=>rfl | cons y l=>cases l<;>rfl) (by
   have hf:Hs cx dst (.builtin .min) st.t (args.toList.map (ev st.t))=some (R,w):=hf;simp only[Hs]at hf;cases hf;exact⟨rfl,rfl⟩)
  case append =>
   obtain⟨l⟩:=args
   match l,hk,hf with
   | [s,x],hk,hf=>exact X8 hk hf
   | [],hk,hf=>cases Hp;exact hk.elim
   | [_],hk,hf=>exact hk.elim
   |_::_::_::_,hk,hf=>exact hk.elim
  case len =>
   obtain⟨l⟩:=args
   match l,hk,hf with
   | [x],hk,hf=>exact gm hk hf
   | [],hk,hf=>exact hk.elim
   |_::_::_,hk,hf=>exact hk.elim
  all_goals exact hk.elim
theorem bH(hc:∀c,o.op≠.call c)(hs:(∃t x lo hi mx,o.op=.slice t x lo hi mx)→Oz cx.pl.tok o.dst=none)(hk:Gl cx true o st K)(hf:FL cx o st=some (R,w)):EC cx o st R w K:=by
 obtain⟨dst,op,ty,pos,after,gd⟩:=o;cases op with
 |call c=>exact absurd rfl (hc c)
 |alloc e=>exact Zv hk hf
 |box e x=>exact gl hk hf
 |buildSlice t n ps=>exact Ro hk hf
 |makeSlice t n c=>exact SZ hk hf
 |makeMap t r=>exact VS hk hf
 |store t p x=>exact Zw hk hf
 |mapUpdate t m k x=>exact S0 hk hf
 |makeFunc fn first cap=>exact Us hk hf
 |load t p=>exact cd hk hf
 |assign x=>exact X9 hk hf
 |slice t x lo hi mx=>exact Sv (hs ⟨t,x,lo,hi,mx,rfl⟩) hk hf
 |lookup t x i ok=>exact Ya hk hf
 |move x =>
  cases hf
  exact .pick (Di _) hk fun st2 ha K' h=>by simp only[Gl,ha.t x (by simp[Op.operands])];exact h
 |pick c a b =>
  cases hf
  exact .pick (iB _ _ _) hk fun st2 ha K' h=>by simp only[Gl,ha.t c (by simp[Op.operands]),ha.t a (by simp[Op.operands]),ha.t b (by simp[Op.operands])];exact h
 |nilCheck x =>
  cases hf
  exact .pick (l6 _) hk fun st2 ha K' h=>by simp only[Gl,ha.t x (by simp[Op.operands])];exact h
 |binOp op t x y u =>
  simp only[FL]at hf;split at hf
  ·cases hf
  ·rename_i hx;cases hf;exact .pick (iz _ _ _ _ _ _ hx) hk fun st2 ha K' h=>by simp only[Gl,ha.t x (by simp[Op.operands]),ha.t y (by simp[Op.operands])];exact h
 |unOp op t x =>
  cases hf
  exact .pick (iC _ _) hk fun st2 ha K' h=>by simp only[Gl,ha.t x (by simp[Op.operands])];exact h
 |convert s t x =>
  cases hf
  exact .pick (iA _ _ _ _) hk fun st2 ha K' h=>by simp only[Gl,ha.t x (by simp[Op.operands])];exact h
 |fieldAddr s x f =>
  cases hf
  exact .pick (cY _ _ _ _) hk fun st2 ha K' h=>by simp only[Gl,ha.t x (by simp[Op.operands])];exact h
 |field s x f =>
  cases hf
  exact .pick (aR _ _ _ _) hk fun st2 ha K' h=>by simp only[Gl,ha.t x (by simp[Op.operands])];exact h
 |indexAddr t x i =>
  cases hf
  exact .pick (Vd _ _ _ _) hk fun st2 ha K' h=>by simp only[Gl,ha.t x (by simp[Op.operands]),ha.t i (by simp[Op.operands])];exact h
 |index t x i =>
  cases hf
  exact .pick (cZ _ _ _ _) hk fun st2 ha K' h=>by simp only[Gl,ha.t x (by simp[Op.operands]),ha.t i (by simp[Op.operands])];exact h
 |extract x i =>
  cases hf
  exact .pick (Yz _ _) hk fun st2 ha K' h=>by simp only[Gl,ha.t x (by simp[Op.operands])];exact h
 |build t ps =>
  cases hf
  refine .pick (cX _ _ _ _) hk fun st2 ha K' h=>?_;have hx:∀p∈ps.toList,ev st2.t p.2=ev st.t p.2:=fun p hp=>ha.t p.2 (by
   simp only[Op.operands,List.mem_toArray];exact Am.2 ⟨p,hp,rfl⟩)
  simp only[Gl];have fill:∀(pl:Nat→Option (Nat×Nat)) (l:List (Nat×Operand)) (cs:List AV) (K:List AV→Prop),(∀p∈l,ev st2.t p.2=ev st.t p.2)→Lt pl cs st2.t l K=Lt pl cs st.t l K:=by
   intro pl l
   induction l with
   |nil=>intro cs K _;rfl
   |cons p l ih =>
    intro cs K hp;obtain⟨i,x⟩:=p;have h1:ev st2.t x=ev st.t x:=hp (i,x) (Aa ..);have h2:∀cs,Lt pl cs st2.t l K=Lt pl cs st.t l K:=fun cs=>ih cs K (fun p sd=>hp p (Ah _ sd));simp only[Lt,h1,h2]
  unfold Rf at h⊢;simp only[fill _ _ _ _ hx];exact h
 |_=>cases hf
theorem fD(hk:Gl cx true o st K)(hf:FL cx o st=some (R,w)):Tn cx o st R w K:=by
 obtain⟨dst,op,ty,pos,after,gd⟩:=o
 by_cases h:∃c,op=.call c
 ·obtain⟨c,rfl⟩:=h;exact cc hk hf
 ·by_cases h2:∃t x lo hi mx,op=.slice t x lo hi mx
  ·obtain⟨t,x,lo,hi,mx,rfl⟩:=h2;cases hp:Oz cx.pl.tok dst with
   |none=>exact EC.toL (Sv hp hk hf)
   |some p=>exact gn hp hk hf
  ·exact EC.toL (bH (fun c e=>h ⟨c,e⟩) (fun e=>absurd e h2) hk hf)
end
theorem WJ(h:∀x∈o.op.operands,ev st2.t x=ev st.t x):FL cx o st2=FL cx o st:=by
 obtain⟨dst,op,ty,pos,after,gd⟩:=o;cases op with
 |call c =>
  obtain⟨rD,args,Hp⟩:=c;have ha:args.toList.map (ev st2.t)=args.toList.map (ev st.t):=Bd fun x hx=>h x (by simp only[Op.operands,Call.operands,TJ];exact .inr (by simpa using hx));simp only[FL];rw[ha];cases rD with
  |value f =>
   have hf:ev st2.t f=ev st.t f:=h f (by simp[Op.operands,Call.operands]);simp only[Hs,hf]
  |builtin b =>
   generalize args.toList.map (ev st.t)=l
   match l with
   | []=>cases b<;>rfl
   | [x]=>cases b<;>cases x<;>rfl
   | [x,y]=>cases b<;>cases x<;>rfl
   |x::_::_::_=>cases b<;>cases x<;>rfl
  |invoke r m=>rfl
 |box e x=>simp only[FL,h x (by simp[Op.operands])]
 |buildSlice t n ps =>
  have hx:ps.toList.map (fun p=>ev st2.t p.2)=ps.toList.map (fun p=>ev st.t p.2):=Bd fun p hp=>h p.2 (by
   simp only[Op.operands,List.mem_toArray];exact Am.2 ⟨p,hp,rfl⟩)
  simp only[FL,hx]
 |store t p x=>simp only[FL,h p (by simp[Op.operands]),h x (by simp[Op.operands])]
 |mapUpdate t m k x=>simp only[FL,h m (by simp[Op.operands]),h x (by simp[Op.operands])]
 |makeFunc fn first cap =>
  have hx:cap.toList.map (ev st2.t)=cap.toList.map (ev st.t):=Bd fun x hx=>h x (by simp only[Op.operands,TJ];exact .inr (by simpa using hx));simp only[FL,hx]
 |load t p=>simp only[FL,h p (by simp[Op.operands])]
 |assign x=>simp only[FL,h x (by simp[Op.operands])]
 |binOp op t x y u=>simp only[FL,h x (by simp[Op.operands])]
 |slice t x lo hi mx=>simp only[FL,h x (by simp[Op.operands])]
 |lookup t x i ok=>simp only[FL,h x (by simp[Op.operands])]
 |_=>rfl
def Lj(o:Oper)(st st2:St):Prop:=∀d∈o.looksAt ops,st2.t d=st.t d
theorem Lj.operands{ops:Array Oper}{o:Oper}{st st2:St}(h:Lj ops o st st2):∀x∈o.op.operands,ev st2.t x=ev st.t x:=fun x hx=>by
 cases x with
 |tmp t=>exact h t (Bp _ (List.mem_filterMap.2 ⟨.tmp t,by simpa using hx,rfl⟩))
 |_=>rfl
theorem Xb(j:Nat):K5 ops.toList j=(ops[j]?).bind (·.dst):=by
 have:∀(l:List Oper) (j:Nat),K5 l j=(l[j]?).bind (·.dst):=by
  intro l
  induction l with
  |nil=>intro j;simp[K5]
  |cons o l ih =>
   intro j;cases j with
   |zero=>simp[K5]
   |succ j=>simp[K5,ih]
 rw[this];simp
theorem Lj.guard{ops:Array Oper}(h:Lj ops o st st2){j:Nat}{b:Bool}(hg:o.guard=some (j,b))(hd:K5 ops.toList j=some d):st2.t d=st.t d :=
 h d (Bj _ (by rw[hg];simp only;rw[←Xb,hd];simp))
def St.after(st:St)(o:Oper)(v:AV)(e:List (Nat×HO)):St:=st.put o.dst v (IV st.h e)
def Rb(cx:Cx)(ops:Array Oper)(o:Oper)(st:St)(f:FZ)(v:AV)(e:List (Nat×HO)):Prop :=
 (∀r o',(r,o')∈e→TL f.2 r∧r∈f.1)∧∀st2,Lj ops o st st2→(∀r∈f.1,st2.h r=st.h r)→∀K:St→Prop,K (st2.after o v e)→HN cx true ops.toList o st2 K
theorem Ur{ops:Array Oper}(h:Lj ops o st st2):Og cx ops.toList o st2=Og cx ops.toList o st:=by
 unfold Og;split
 ·exact WJ h.operands
 ·rename_i j want hg;split
  ·rfl
  ·rename_i d hd;simp only[h.guard hg hd];split<;>first | exact WJ h.operands | rfl
theorem Pz{ops:Array Oper}{f:FZ}(hk:HN cx true ops.toList o st K)(hf:Og cx ops.toList o st=some f) :
  ∃v e,Rb cx ops o st f v e∧K (st.after o v e):=by
 obtain⟨R,w⟩:=f;have skip:R=[]∧w=none→K (st.put o.dst (.v undef) st.h)→(∀st2,Lj ops o st st2→∀K:St→Prop,K (st2.put o.dst (.v undef) st2.h)→HN cx true ops.toList o st2 K)→∃v e,Rb cx ops o st (R,w) v e∧K (st.after o v e):=by
  rintro⟨rfl,rfl⟩ h1 h2
  exact⟨.v undef,[],⟨fun r o' e=>(by cases e),fun st2 hl _ K h=>h2 st2 hl K h⟩,h1⟩
 have run:FL cx o st=some (R,w)→Gl cx true o st (fun v h=>K (st.put o.dst v h))→(∀st2,Lj ops o st st2→∀K:St→Prop,Gl cx true o st2 (fun v h=>K (st2.put o.dst v h))→HN cx true ops.toList o st2 K)→∃v e,Rb cx ops o st (R,w) v e∧K (st.after o v e):=by
  intro hf hk h2;obtain⟨v,e,q1,q2,q3⟩:=fD hk hf;exact⟨v,e,⟨q2,fun st2 hl hh K h=>h2 st2 hl K (q3 st2 ⟨hl.operands,hh⟩ _ h)⟩,q1⟩
 unfold HN at hk;unfold Og at hf;cases hg:o.guard with
 |none =>
  rw[hg]at hk hf;exact run hf hk (fun st2 hl K h=>by unfold HN;rw[hg];exact h)
 |some p =>
  obtain⟨j,want⟩:=p;rw[hg]at hk hf;simp only at hk hf;cases hd:K5 ops.toList j with
  |none=>rw[hd]at hk;exact hk.elim
  |some d =>
   rw[hd]at hk hf;simp only at hk hf;have he:∀st2,Lj ops o st st2→st2.t d=st.t d:=fun st2 hl=>hl.guard hg hd;generalize hx:st.t d=x at hk hf he;split at hk
   ·exact run hf hk (fun st2 hl K h=>by unfold HN;simp only[hg,hd,he st2 hl];exact h)
   ·exact run hf hk (fun st2 hl K h=>by unfold HN;simp only[hg,hd,he st2 hl];exact h)
   ·exact skip (by cases hf;exact⟨rfl,rfl⟩) hk (fun st2 hl K h=>by unfold HN;simp only[hg,hd,he st2 hl];exact h)
   ·exact skip (by cases hf;exact⟨rfl,rfl⟩) hk (fun st2 hl K h=>by unfold HN;simp only[hg,hd,he st2 hl];exact h)
   ·exact skip (by cases hf;exact⟨rfl,rfl⟩) hk (fun st2 hl K h=>by unfold HN;simp only[hg,hd,he st2 hl];exact h)
   ·exact hk.elim
def uk(cx:Cx)(ops:Array Oper)(FT:Nat→FZ)(i:Nat)(K:St→Prop)(st:St):Prop :=
 match ops[i]? with
 |none=>K st
 |some o=>Og cx ops.toList o st=some (FT i)∧HN cx true ops.toList o st K
def YX(cx:Cx)(ops:Array Oper)(FT:Nat→FZ)(K:St→Prop):Nat→Array Bool→St→Prop
 |0,listed,st=>Region.ready .any ops listed=[]∧K st
 |fuel+1,listed,st =>
  (Region.ready .any ops listed=[]→K st)∧∀i∈Region.ready .any ops listed,uk cx ops FT i (YX cx ops FT K fuel (listed.setIfInBounds i true)) st
theorem iQ(t:Nat→AV)(h:d'≠d)(v v' : AV):HI (HI t d v) d' v'=HI (HI t d' v') d v:=by
 funext i
 unfold HI
 by_cases h1:i=d<;>by_cases h2:i=d'
 ·exact absurd (h2.symm.trans h1) h
 ·subst h1;simp[CX h2]
 ·subst h2;simp[CX h1]
 ·simp[CX h1,CX h2]
theorem gE(t:Nat→HO)(h:d'≠d)(v v' : HO):A0 (A0 t d v) d' v'=A0 (A0 t d' v') d v:=by
 funext i
 unfold A0
 by_cases h1:i=d<;>by_cases h2:i=d'
 ·exact absurd (h2.symm.trans h1) h
 ·subst h1;simp[CX h2]
 ·subst h2;simp[CX h1]
 ·simp[CX h1,CX h2]
theorem Qp(h:n∈l):JB l n=true:=by
 induction l with
 |nil=>cases h
 |cons a l ih =>
  unfold JB
  by_cases e:a=n
  ·subst e;simp
  ·rw[CX e];exact ih ((AF.1 h).resolve_left (fun q=>e q.symm))
theorem aw(h:JB l n=true):n∈l:=by
 induction l with
 |nil=>cases h
 |cons a l ih =>
  unfold JB at h
  by_cases e:a=n
  ·exact e▸Aa ..
  ·rw[CX e]at h;exact Ah _ (ih h)
theorem aJ{x:Nat}(h:aH l x=true):∀r,TL (some x) r→r∉l:=by
 intro r hc hr;unfold aH at h
 by_cases hx:x=XP
 ·subst hx;rw[Dh,KF]at h;cases l with
  |nil=>cases hr
  |cons a l=>cases h
 rw[CX hx,EM]at h;simp only[Ai,Cq,Dd,Cm]at h;rcases hc with rfl | ⟨h1,h2⟩ | hc
 ·rw[Qp hr]at h;cases h.1
 ·rcases h.2 with h3 | h3
  ·omega
  ·rcases h2 with rfl | rfl
   ·rw[Qp hr]at h3;cases h3.1
   ·rw[Qp hr]at h3;cases h3.2
 ·exact hx hc
theorem fU{a b:FZ}(h:Ue a b=true):(∀r,TL a.2 r→r∉b.1)∧∀r,TL b.2 r→r∉a.1:=by
 obtain⟨a1,a2⟩:=a;obtain⟨b1,b2⟩:=b;simp only[Ue,Ai]at h;refine⟨fun r e=>?_,fun r e=>?_⟩
 ·cases a2 with
  |none=>exact e.elim
  |some x=>exact aJ h.1 r e
 ·cases b2 with
  |none=>exact e.elim
  |some x=>exact aJ h.2 r e
section
variable {cx:Cx}{ops:Array Oper}{FT:Nat→FZ}
theorem SF{oi oj:Oper}(h:∀d,oi.dst=some d→d∉oj.looksAt ops)(st:St)(v:AV)(e:List (Nat×HO)):Lj ops oj st (st.after oi v e):=by
 intro d hd;cases hdst:oi.dst with
 |none=>simp[St.after,St.put,hdst]
 |some d' =>
  have:d≠d':=fun q=>h d' hdst (q▸hd)
  simp[St.after,St.put,hdst,HI,CX this]
theorem Lj.symm{o:Oper}{st st2:St}(h:Lj ops o st st2):Lj ops o st2 st:=fun d hd=>(h d hd).symm
theorem dL{o:Oper}{v:AV}{e:List (Nat×HO)}:(st.after o v e).h=IV st.h e:=by
 unfold St.after St.put;cases o.dst<;>rfl
theorem Rk{r:Nat}:∀{e:List (Nat×HO)} {h:Nat→HO},(∀o',(r,o')∉e)→IV h e r=h r
 | [],_,_=>rfl
 |p::e,h,hr=>by
  have:r≠p.1:=fun q=>hr p.2 (by rw[q];exact Aa ..)
  show IV (A0 h p.1 p.2) e r=h r;rw[Rk fun o' ho=>hr o' (Ah _ ho),B7 _ _ _ _ this]
theorem Zh{r:Nat}{o:HO}:∀{e:List (Nat×HO)} {h:Nat→HO},(∀r' o',(r',o')∈e→r'≠r)→IV (A0 h r o) e=A0 (IV h e) r o
 | [],_,_=>rfl
 |p::e,h,hr=>by
  show IV (A0 (A0 h r o) p.1 p.2) e=A0 (IV (A0 h p.1 p.2) e) r o;rw[gE h (hr p.1 p.2 (Aa ..)),Zh fun r' o' ho=>hr r' o' (Ah _ ho)]
theorem WG:∀{e e' : List (Nat×HO)} {h:Nat→HO},(∀r o r' o',(r,o)∈e→(r',o')∈e'→r'≠r)→IV (IV h e) e'=IV (IV h e') e
 | [],_,_,_=>rfl
 |p::e,e',h,hd=>by
  show IV (IV (A0 h p.1 p.2) e) e'=IV (A0 (IV h e') p.1 p.2) e;rw[←Zh fun r' o' ho=>hd p.1 p.2 r' o' (Aa ..) ho,WG fun r o r' o' h1 h2=>hd r o r' o' (Ah _ h1) h2]
theorem bG{oi oj:Oper}{v v' : AV}{e e' : List (Nat×HO)}(h1:∀d,oi.dst=some d→oj.dst≠some d)(h2:∀r o r' o',(r,o)∈e→(r',o')∈e'→r'≠r) :
  (st.after oi v e).after oj v' e'=(st.after oj v' e').after oi v e:=by
 have hh:IV (IV st.h e) e'=IV (IV st.h e') e:=WG h2;have key:∀o:Oper,∀v e,∀st:St,st.after o v e=⟨match o.dst with | none=>st.t | some d=>HI st.t d v,IV st.h e⟩:=fun o v e st=>by
  unfold St.after St.put;cases o.dst<;>rfl
 rw[key,key,key,key];simp only[hh];cases hi:oi.dst with
 |none=>rfl
 |some d =>
  cases hj:oj.dst with
  |none=>rfl
  |some d' =>
   have DM:d'≠d:=fun q=>h1 d hi (by rw[hj,q]);simp only[iQ st.t DM v v']
theorem bE{i:Nat}{oi:Oper}{v:AV}{e:List (Nat×HO)}(hi:ops[i]?=some oi)(D:Nat→Prop)(hD:∀j,D j→∃oj,ops[j]?=some oj∧∃ed∈oj.after,Region.binds .any ed=true∧(ed.on=i∨D ed.on)) :
  ∀(fuel:Nat) (listed:Array Bool) (st:St),
   (∀j oj,ops[j]?=some oj→j≠i→listed.getD j true=false→¬D j→oi.apart ops oj=true∧Ue (FT i) (FT j)=true) →
   i∈Region.ready .any ops listed→(∀j,D j→listed.getD j true=false)→Og cx ops.toList oi st=some (FT i)→Rb cx ops oi st (FT i) v e →
   YX cx ops FT K fuel (listed.setIfInBounds i true) (st.after oi v e)→YX cx ops FT K (fuel+1) listed st:=by
 have here:∀(fuel:Nat) (listed:Array Bool) (st:St),Og cx ops.toList oi st=some (FT i)→Rb cx ops oi st (FT i) v e →
   YX cx ops FT K fuel (listed.setIfInBounds i true) (st.after oi v e)→uk cx ops FT i (YX cx ops FT K fuel (listed.setIfInBounds i true)) st:=by
  intro fuel listed st hf hy H;unfold uk;rw[hi];exact⟨hf,hy.2 st (fun _ _=>rfl) (fun _ _=>rfl) _ H⟩
 intro fuel
 induction fuel with
 |zero =>
  intro listed st _ hr _ hf hy H;refine⟨fun h=>(by rw[h]at hr;cases hr),fun j hj=>?_⟩
  by_cases Iq:j=i
  ·subst Iq;exact here 0 listed st hf hy H
  ·have:=ready_mono hj Iq
   rw[H.1]at this;cases this
 |succ fuel ih =>
  intro listed st Af hr hDl hf hy H;refine⟨fun h=>(by rw[h]at hr;cases hr),fun j hj=>?_⟩
  by_cases Iq:j=i
  ·subst Iq;exact here (fuel+1) listed st hf hy H
  ·have h1:=H.2 j (ready_mono hj Iq);obtain⟨vQ,oj,oC,Gr⟩:=mem_ready.1 hj;have uY:∀k,listed.getD k true=false→listed.getD k false=true→False:=fun k h0 h1=>by
    rcases BY k listed.size with h' | h'
    ·simp[h']at h0 h1;rw[h0]at h1;cases h1
    ·simp[Array.getElem?_eq_none h']at h1
   have yd:¬D j:=fun x5=>by
    obtain⟨oj',qr,ed,he,hb,hon⟩:=hD j x5;rw[oC]at qr;cases qr;have hl:=Gr ed he hb;rcases hon with h2 | h2
    ·exact uY _ (by rw[h2];exact(mem_ready.1 hr).1) hl
    ·exact uY _ (hDl _ h2) hl
   obtain⟨vr,x5⟩:=Af j oj oC Iq vQ yd;obtain⟨a1,a2,a3⟩:=Oper.apart_spec vr;obtain⟨d1,d2⟩:=fU x5;unfold uk at h1⊢;rw[oC]at h1⊢;obtain⟨hfj,hkj⟩:=h1;have hlj:=SF (ops:=ops) a1 st v e;obtain⟨vj,ej,hyj,hK⟩:=Pz hkj hfj;have vF:∀r o',(r,o')∈e→r∉(FT j).1:=fun r o' q=>d1 r (hy.1 r o' q).1;have dQ:∀r o',(r,o')∈ej→r∉(FT i).1:=fun r o' q=>d2 r (hyj.1 r o' q).1;refine⟨by rw[←Ur hlj];exact hfj,hyj.2 st hlj.symm (fun r oE=>?_) _ ?_⟩
   ·rw[dL,Rk (fun o' q=>vF r o' q oE)]
   ·have hli:=SF (ops:=ops) a3 st vj ej;refine ih (listed.setIfInBounds j true) (st.after oj vj ej) (fun k ok hk hki oJ Tb=>?_) (ready_mono hr (VL Iq)) (fun k hk=>?_) (by rw[Ur hli];exact hf) ⟨hy.1,fun st2 hl hh K' h'=>?_⟩ ?_
    ·by_cases ox:j=k
     ·subst ox;exact Af _ ok hk hki vQ Tb
     ·rw[getD_set_ne true ox]at oJ;exact Af k ok hk hki oJ Tb
    ·by_cases ox:j=k
     ·subst ox;exact absurd hk yd
     ·rw[getD_set_ne true ox];exact hDl k hk
    ·refine hy.2 st2 (fun d hd=>(hl d hd).trans (hli d hd)) (fun r oE=>?_) K' h';rw[hh r oE,dL,Rk (fun o' q=>dQ r o' q oE)]
    ·rw[Array.setIfInBounds_comm _ _ (VL Iq)]at hK;rw[←bG a2 (fun r o r' o' q q' e2=>dQ r' o' q' (by rw[e2];exact(hy.1 r o q).2))];exact hK
def qT(cx:Cx)(ops:Array Oper)(K:St→Prop):List Oper→List FZ→St→Prop
 | [],[],st=>K st
 |o::r,f::fs,st=>Og cx ops.toList o st=some f∧∃v e,Rb cx ops o st f v e∧qT cx ops K r fs (st.after o v e)
 |_,_,_=>False
theorem TS{K:St→Prop}:∀(l:List Oper) (acc:List FZ) (st:St),Y2 cx ops l acc st K→∃fs,Uf ops (acc.reverse++fs)=true∧qT cx ops K l fs st
 | [],acc,st,h=>⟨[],by simpa using h.1,h.2⟩
 |o::r,acc,st,h=>by
  unfold Y2 at h;split at h
  ·rename_i f hf;obtain⟨v,e,h1,h2⟩:=Pz h hf;obtain⟨fs,q1,q2⟩:=TS r _ _ h2;exact⟨f::fs,by simpa using q1,hf,v,e,h1,q2⟩
  ·exact h.elim
theorem Yd{o:Oper}{i:Nat}{D:List Nat}(h:Qe o i D=true):∃ed∈o.after,Region.binds .any ed=true∧(ed.on=i∨ed.on∈D):=by
 unfold Qe at h;obtain⟨ed,h1,h2⟩:=A5.1 h;simp only[Ai,Cq]at h2;exact⟨ed,by simpa using h1,h2.1,h2.2.imp AM aw⟩
theorem Vx{i:Nat}{D:List Nat}:∀(l:List Oper) (k:Nat),Vw i D k l=true→∀j o,l[j]?=some o→k+j∈D→Qe o i D=true
 | [],_,_,_,_,h,_=>by simp at h
 |o::l,k,hs,j,o',h,hm=>by
  simp only[Vw,Ai]at hs;cases j with
  |zero =>
   simp only[A9,Bq]at h;subst h;have h1:=hs.1;rw[Qp (by simpa using hm)]at h1;simpa using h1
  |succ j=>exact Vx l (k+1) hs.2 j o' (by simpa using h) (by rw[G3,Nat.add_comm 1 j];exact hm)
theorem Wn{oi:Oper}{fi:FZ}{D:List Nat}:∀(l:List Oper) (fs:List FZ) (k:Nat),Jf ops oi fi D k l fs=true→l.length=fs.length∧∀j o f,l[j]?=some o→fs[j]?=some f→k+j∉D→oi.apart ops o=true∧Ue fi f=true
 | [],[],_,_=>⟨rfl,fun _ _ _ h=>by simp at h⟩
 | [],_::_,_,h=>by simp[Jf]at h
 |_::_,[],_,h=>by simp[Jf]at h
 |o::l,f::fs,k,h=>by
  simp only[Jf,Ai,Cq]at h;obtain⟨h1,h2⟩:=Wn l fs (k+1) h.2;refine⟨by simp[h1],fun j o' f' q1 q2 hn=>?_⟩;cases j with
  |zero =>
   simp only[A9,Bq]at q1 q2;subst q1;subst q2;rcases h.1 with h3 | h3
   ·exact absurd (aw h3) hn
   ·exact h3
  |succ j=>exact h2 j o' f' (by simpa using q1) (by simpa using q2) (by simpa[Nat.add_assoc,Nat.add_comm 1 j]using hn)
theorem YY{K:St→Prop}:∀(l:List Oper) (fs:List FZ) (k:Nat) (listed:Array Bool) (st:St),(∀j,l[j]?=ops[k+j]?)→(∀j f,fs[j]?=some f→FT (k+j)=f)→listed.size=ops.size →
  (∀j,j<ops.size→listed.getD j true=decide (j<k))→MU ops ops.toList k l fs=true→qT cx ops K l fs st→YX cx ops FT K l.length listed st
 | [],[],k,listed,st,hl,_,hs,hL,_,h=>by
  refine⟨?_,h⟩;apply MC.2;intro j hj;obtain⟨h1,o,ho,_⟩:=mem_ready.1 hj;have DJ:=(Bw.1 ho).1;rw[hL j DJ]at h1;have tT:k≤j:=by simpa using h1
  have:=hl (j-k)
  rw[show k+(j-k)=j by omega,ho]at this;simp at this
 | [],_::_,_,_,_,_,_,_,_,h,_=>by simp[MU]at h
 |_::_,[],_,_,_,_,_,_,_,h,_=>by simp[MU]at h
 |o::l,f::fs,k,listed,st,hl,hF,hs,hL,hg,h=>by
  simp only[MU,Ai]at hg;obtain⟨⟨⟨⟨g1,g2⟩,g3⟩,g4⟩,g5⟩:=hg;obtain⟨hf,v,e,hy,hp⟩:=h;have h0:ops[k]?=some o:=by simpa using(hl 0).symm
  have hk:=(Bw.1 h0).1;have hFk:FT k=f:=by simpa using hF 0 f rfl
  have Rs : ∀j,l[j]?=ops[k+1+j]?:=fun j=>by have:=hl (j+1);simpa[Nat.add_assoc,Nat.add_comm 1 j]using this
  have tL : ∀j f,fs[j]?=some f→FT (k+1+j)=f:=fun j f' hj=>by have:=hF (j+1) f' (by simpa using hj);simpa[Nat.add_assoc,Nat.add_comm 1 j]using this
  obtain⟨CB,vr⟩:=Wn l fs (k+1) g4;have dJ:∀j,j∈Rj k [] 0 ops.toList→k<j∧j<ops.size:=fun j hj=>by
   have:=(AZ.1 g3) j hj
   simp only[Ai,Cm,B9]at this;exact this
  refine bE h0 (fun j=>j∈Rj k [] 0 ops.toList) (fun j hj=>?_) l.length listed st (fun j oj oC ox oJ yd=>?_) ?_ (fun j hj=>?_) (by rw[hFk];exact hf) (by rw[hFk];exact hy) ?_
  ·have DJ:=(dJ j hj).2
   have:=Vx ops.toList 0 g2 j ops[j] (by simp[DJ]) (by simpa using hj)
   obtain⟨ed,e1,e2,e3⟩:=Yd this;exact⟨ops[j],by simp[DJ],ed,e1,e2,e3⟩
  ·have DJ:=(Bw.1 oC).1;rw[hL j DJ]at oJ;have tT:k<j:=by have q:k≤j:=(by simpa using oJ);omega
   have e1:l[j-(k+1)]?=some oj:=by rw[Rs,show k+1+(j-(k+1))=j by omega];exact oC
   have hfl:j-(k+1)<fs.length:=by rw[←CB];exact(Aw.1 e1).1
   have e2:fs[j-(k+1)]?=some fs[j-(k+1)]:=AE hfl;have e3:=tL _ _ e2;rw[show k+1+(j-(k+1))=j by omega]at e3;rw[hFk,e3];exact vr _ _ _ e1 e2 (by rw[show k+1+(j-(k+1))=j by omega];exact yd)
  ·refine mem_ready.2 ⟨by rw[hL k hk];simp,o,h0,fun ed he hb=>?_⟩
   have:=(AZ.1 g1) ed (by simpa using he)
   simp only[hb,Bool.not_true,J7,Cm]at this;have h1:=hL ed.on ch;have DJ:ed.on<listed.size:=by omega
   simp[DJ]at h1⊢;rw[h1];simpa using this
  ·have:=dJ j hj
   rw[hL j this.2];simp;omega
  ·refine YY l fs (k+1) _ _ Rs tL (by simp[hs]) (fun j hj=>?_) g5 hp
   by_cases ox:j=k
   ·subst ox
    have:j<listed.size:=by omega
    simp[this]
   ·rw[getD_set_ne true (VL ox),hL j hj]
    by_cases h1:j<k
    ·simp[h1];omega
    ·simp[h1];omega
theorem fA(h:Y2 cx ops ops.toList [] st K):Region.noSelect ops=true∧∃FT,YX cx ops FT K ops.size (Array.replicate ops.size false) st:=by
 obtain⟨fs,h1,h2⟩:=TS _ _ _ h;simp only[Uf,List.reverse_nil,Fi,Ai]at h1;refine⟨h1.1,fun j=>fs.getD j default,?_⟩
 have:=YY (FT:=fun j=>fs.getD j default) ops.toList fs 0 (Array.replicate ops.size false) st B0 (fun j f hj=>by simp[hj]) B0 (fun j hj=>by simp[hj]) h1.2 h2
 simpa using this
end
end Go.Eng
