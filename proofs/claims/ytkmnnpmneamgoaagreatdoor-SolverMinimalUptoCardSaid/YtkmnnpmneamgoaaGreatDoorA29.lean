/- Lemmas for the claims of this seat, without a condition: part 29 (S29, S30, S31). -/
import Derived.Test.YtkmnnpmneamgoaaGreatDoorA28
namespace Go.Eng
open Go.Proofs
theorem s39 (n:Nat) (h0:0<n) (h1:n≤1000000):ACall Tryz.prog 39 [.v (.slice none 0 0),.v (.int .i64 (n:Int))] hfree fun r h'=>r=.slice (.id 2000 2) []∧h'=heapOf [(2000,.tok 2 0)] hfree:=by
 obtain ⟨i0,hi0⟩ : ∃ i0,Tryz.prog.info? 45=some i0:=Option.isSome_iff_exists.1 (by kernel_rfl);have hs3:i0.size=2:=by
  have q:(Tryz.prog.info? 45).map (·.size)=some 2:=by kernel_rfl
  rw [hi0] at q; exact Option.some.inj q
 have hb:i0.bytes=40:=by
  have q:(Tryz.prog.info? 45).map (·.bytes)=some 40:=by kernel_rfl
  rw [hi0] at q; exact Option.some.inj q
 obtain ⟨z,hz⟩ : ∃ z,i0.zero=some z∧z.cells.size=2:=by
  have q:((Tryz.prog.info? 45).bind (·.zero)).map (·.cells.size)=some 2:=by kernel_rfl
  rw [hi0] at q;cases e:i0.zero with
  | none=>simp [e] at q
  | some z=>simp [e] at q; exact ⟨z,rfl,q⟩
 refine acall_grow (ent 39 Tryz.func39 (by kernel_rfl) rfl) fun w=>?_;refine (Any8.slices_Grow_grow Tryz.layGrow i0 z hi0 hz.1 (by rw [hs3]; decide) none 0 0 n [] w (Nat.le_refl _) (by omega) (by rw [hb]; omega) (by omega) (by simp) (fun _=>rfl) (fun a e=>by cases e)).mono ?_
 rintro e w' ⟨rfl,rfl⟩
 obtain ⟨G,hG⟩ : ∃ G,G=Go.grownCap w (0+n) 0 45:=⟨_,rfl⟩;have hGn:0+n≤G:=hG▸Go.grownCap_ge w _ _ _;have e45:(Tryz.layGrow_ren.t 25)=45:=rfl;rw [e45,← hG];refine ⟨G,_,_,rfl,?_,rfl⟩;have zc:∀ (c:Array Value) (k:Nat),(Builtin.zeroCells c k).size=c.size*k:=fun c k=>by
  unfold Builtin.zeroCells; simp [Nat.mul_comm]
 rw [Array.size_append,Array.size_append,zc,zc,hz.2];simp only [List.size_toArray,List.length_nil];omega
theorem s39z:PC 39 [.v (.slice none 0 0),.v (.int .i64 0)] (.v (.slice none 0 0)) :=
 pcall_same [.slice none 0 0,.int .i64 0] (.slice none 0 0) (ent 39 Tryz.func39 (by kernel_rfl) rfl) rfl (fun g w=>.v _ _) fun w _=>Any8.slices_Grow_room Tryz.layGrow none 0 0 0 w (by omega) (by omega) (by omega) (by omega)
def two (x y:List Rq) (i:Nat):List Rq:=if i=0 then x else y
def pre2 (x y:List Rq) (i:Nat):List Rq:=if i=0 then [] else if i=1 then x else x++y
theorem pre2_succ (x y:List Rq) (i:Nat) (h:i<2):pre2 x y (i+1)=pre2 x y i++two x y i:=by
 match i,h with
 | 0,_=>rfl
 | 1,_=>rfl
 | _+2,h=>omega
theorem two_at (x y:List Rq) (i:Nat) (h:i<2):([[sl encRq x],[sl encRq y]]:List (List AV))[((i:Nat):Int).toNat]?=some [sl encRq (two x y i)]:=by
 match i,h with
 | 0,_=>rfl
 | 1,_=>rfl
 | _+2,h=>omega
theorem two_len {x y:List Rq} {n:Nat} (hx:x.length≤n) (hy:y.length≤n) (i:Nat):(two x y i).length≤n:=by
 unfold two; split <;> assumption
theorem pre2_len {x y:List Rq} {n:Nat} (hx:x.length≤n) (hy:y.length≤n) (i:Nat):(pre2 x y i).length≤n+n:=by
 unfold pre2;split
 ·simp
 ·split
  ·omega
  ·rw [List.length_append]; omega
set_option maxHeartbeats 4000000 in
theorem s17n (x y:List Rq) (hx:x.length≤1000) (hy:y.length≤1000) (hz:0<(x++y).length):PC 17 [.slice .none [[sl encRq x],[sl encRq y]]] (sl encRq (x++y)):=by
 refine Ps ⟨[],[],[],[],[],[],[],[],[],[],[2,5,6,9,10,13,15]⟩ Tryz.func17 rfl (Nz rfl) ?_;refine Xi ⟨[(0,.slice .none [[sl encRq x],[sl encRq y]]),(3,vi 0)],[],hfree⟩ (Yi ⟨Z2,Tv,Fh,Tv⟩ ?_)
 refine Xi {i:Nat // i≤2} (Xi (fun q=>⟨[(0,.slice .none [[sl encRq x],[sl encRq y]]),(3,vi (pre2 x y q.1).length),(9,.slice .none [[sl encRq x],[sl encRq y]]),(10,vi 2),(11,vi q.1)],[],hfree⟩) (Xi (fun q=>2 - q.1) (Yi (Xi ⟨0,Nat.zero_le _⟩ ?_) ?_)))
 ·exact ⟨Z5,Tv,Fh,Tv⟩
 intro ⟨i,i1⟩;have i1:i≤2:=i1;have hp2:=pre2_len hx hy i;have ht2:=two_len hx hy i;have hm2:((two x y i).map encRq).length=(two x y i).length:=Lm _;refine Yi (fun h1=>?_) (fun h1=>?_)
 ·have h1:(i:Int)<(2:Int):=h1;refine Xi [sl encRq (two x y i)] (Yi (Yi (show (0:Int)≤(i:Nat) by omega) (two_at x y i (by omega))) (Yi rfl ?_));refine Xi ⟨[(0,.slice .none [[sl encRq x],[sl encRq y]]),(3,vi (pre2 x y i).length),(5,sl encRq (two x y i)),(9,.slice .none [[sl encRq x],[sl encRq y]]),(10,vi 2),(11,vi i)],[],hfree⟩ (Yi ⟨Z6,Tv,Fh,Tv⟩ ?_)
  refine Yi (by show InI64 (((pre2 x y i).length:Int)+(((two x y i).map encRq).length:Int)); unfold InI64; omega) ?_;refine Xi ⟨[(0,.slice .none [[sl encRq x],[sl encRq y]]),(3,vi ((pre2 x y i).length+((two x y i).map encRq).length)),(9,.slice .none [[sl encRq x],[sl encRq y]]),(10,vi 2),(11,vi i)],[],hfree⟩ (Yi ⟨Z5,Tv,Fh,Tv⟩ ?_)
  refine Yi (fun h2=>?_) (fun h2=>?_)
  ·have h2:((pre2 x y i).length+((two x y i).map encRq).length:Int)<(0:Int):=h2;exact absurd h2 (by omega)
  have h2:¬ (((pre2 x y i).length+((two x y i).map encRq).length:Int)<(0:Int)):=h2;refine Yi (Ii i (by omega)) ?_;refine Xi ⟨i+1,by omega⟩ ?_;exact ⟨Dl 2 i (by omega),⟨Zr,⟨(show vi (((pre2 x y i).length:Int)+(((two x y i).map encRq).length:Int))=vi ((pre2 x y (i+1)).length:Nat) by rw [pre2_succ x y i (by omega),List.length_append,Lm]; rfl),rfl⟩,Zr,Zr,Zr,Tv⟩,Tv,Fh,Tv⟩
 have h1:¬ ((i:Int)<(2:Int)):=h1;refine Xi ⟨[(0,.slice .none [[sl encRq x],[sl encRq y]]),(3,vi (pre2 x y i).length)],[],hfree⟩ (Yi ⟨Z2,Tv,Fh,Tv⟩ ?_)
 have hi2:i=2:=by omega
 refine Xi (.gen [] 1) (Yi rfl (ACall.imp (show ACall Tryz.prog 39 [.v (.slice none 0 0),.v (.int .i64 ((pre2 x y i).length:Int))] hfree _ by rw [hi2]; exact s39 (x++y).length hz (by rw [List.length_append]; omega)) ?_));intro v4 g4 q4;have q4a:=q4.1;have q4b:=q4.2;subst q4a;subst q4b;refine Xi ⟨[(0,.slice .none [[sl encRq x],[sl encRq y]]),(6,.slice (.id 12400 2) [])],[(12400,.tok 2 ([]:List (List AV)).length)],hfree⟩ (Yi ⟨Z2,Z1,Fh,Tv⟩ ?_)
 refine Xi {k:Nat // k≤2} (Xi (fun q=>⟨[(6,.slice (.id 12400 2) ((pre2 x y q.1).map encRq)),(25,.slice .none [[sl encRq x],[sl encRq y]]),(26,vi 2),(27,vi q.1)],[(12400,.tok 2 (pre2 x y q.1).length)],hfree⟩) (Xi (fun q=>2 - q.1) (Yi (Xi ⟨0,Nat.zero_le _⟩ ?_) ?_)))
 ·exact ⟨Z4,Z1,Fh,Tv⟩
 intro ⟨k,k1⟩;have k1:k≤2:=k1;have hp3:=pre2_len hx hy k;have ht3:=two_len hx hy k;have hm3:((two x y k).map encRq).length=(two x y k).length:=Lm _;refine Yi (fun h5=>?_) (fun h5=>?_)
 ·have h5:(k:Int)<(2:Int):=h5;refine Xi [sl encRq (two x y k)] (Yi (Yi (show (0:Int)≤(k:Nat) by omega) (two_at x y k (by omega))) (Yi rfl ?_));refine Xi ⟨[(6,.slice (.id 12400 2) ((pre2 x y k).map encRq)),(8,sl encRq (two x y k)),(25,.slice .none [[sl encRq x],[sl encRq y]]),(26,vi 2),(27,vi k)],[(12400,.tok 2 (pre2 x y k).length)],hfree⟩ (Yi ⟨Z5,Z1,Fh,Tv⟩ ?_)
  have b6:AllLen 2 ((two x y k).map encRq)∧((pre2 x y k).map encRq).length=(pre2 x y k).length∧(((pre2 x y k).map encRq).length+((two x y k).map encRq).length)*40≤140737488355328∧((pre2 x y k).map encRq).length+((two x y k).map encRq).length≤9223372036854775807:=⟨(allLen_map (enc:=encRq) (n:=2) (fun _=>rfl) (two x y k)),(by rw [Lm]),(by simp only [Lm]; omega),(by simp only [Lm]; omega)⟩;refine Yi b6 ?_;refine Yi (Ii k (by omega)) ?_;refine Xi ⟨k+1,by omega⟩ ?_;exact ⟨Dl 2 k (by omega),⟨⟨(show AV.slice (.id 12400 2) ((pre2 x y k).map encRq++(two x y k).map encRq)=.slice (.id 12400 2) ((pre2 x y (k+1)).map encRq) by rw [pre2_succ x y k (by omega),List.map_append]),rfl⟩,Zr,Zr,Zr,Tv⟩,⟨⟨(show HO.tok 2 (((pre2 x y k).map encRq).length+((two x y k).map encRq).length)=.tok 2 (pre2 x y (k+1)).length by rw [pre2_succ x y k (by omega),List.length_append,Lm,Lm]),rfl⟩,Tv⟩,Fh,Tv⟩
 have h5:¬ ((k:Int)<(2:Int)):=h5;refine Xi ⟨[(6,.slice (.id 12400 2) ((pre2 x y k).map encRq))],[(12400,.tok 2 (pre2 x y k).length)],hfree⟩ (Yi ⟨Z1,Z1,Fh,Tv⟩ ?_)
 exact .of_eq (show sl encRq (pre2 x y k)=sl encRq (x++y) by rw [show k=2 by omega]; rfl)
set_option maxHeartbeats 4000000 in
theorem s17z (x y:List Rq) (hx:x.length≤1000) (hy:y.length≤1000) (hz:(x++y).length=0):PC 17 [.slice .none [[sl encRq x],[sl encRq y]]] (sl encRq (x++y)):=by
 refine Ps ⟨[],[(6,2)],[],[],[],[],[],[],[],[],[2,5,6,9,10,13,15]⟩ Tryz.func17 rfl (Nz rfl) ?_;refine Xi ⟨[(0,.slice .none [[sl encRq x],[sl encRq y]]),(3,vi 0)],[],hfree⟩ (Yi ⟨Z2,Tv,Fh,Tv⟩ ?_)
 refine Xi {i:Nat // i≤2} (Xi (fun q=>⟨[(0,.slice .none [[sl encRq x],[sl encRq y]]),(3,vi (pre2 x y q.1).length),(9,.slice .none [[sl encRq x],[sl encRq y]]),(10,vi 2),(11,vi q.1)],[],hfree⟩) (Xi (fun q=>2 - q.1) (Yi (Xi ⟨0,Nat.zero_le _⟩ ?_) ?_)))
 ·exact ⟨Z5,Tv,Fh,Tv⟩
 intro ⟨i,i1⟩;have i1:i≤2:=i1;have hp2:=pre2_len hx hy i;have ht2:=two_len hx hy i;have hm2:((two x y i).map encRq).length=(two x y i).length:=Lm _;refine Yi (fun h1=>?_) (fun h1=>?_)
 ·have h1:(i:Int)<(2:Int):=h1;refine Xi [sl encRq (two x y i)] (Yi (Yi (show (0:Int)≤(i:Nat) by omega) (two_at x y i (by omega))) (Yi rfl ?_));refine Xi ⟨[(0,.slice .none [[sl encRq x],[sl encRq y]]),(3,vi (pre2 x y i).length),(5,sl encRq (two x y i)),(9,.slice .none [[sl encRq x],[sl encRq y]]),(10,vi 2),(11,vi i)],[],hfree⟩ (Yi ⟨Z6,Tv,Fh,Tv⟩ ?_)
  refine Yi (by show InI64 (((pre2 x y i).length:Int)+(((two x y i).map encRq).length:Int)); unfold InI64; omega) ?_;refine Xi ⟨[(0,.slice .none [[sl encRq x],[sl encRq y]]),(3,vi ((pre2 x y i).length+((two x y i).map encRq).length)),(9,.slice .none [[sl encRq x],[sl encRq y]]),(10,vi 2),(11,vi i)],[],hfree⟩ (Yi ⟨Z5,Tv,Fh,Tv⟩ ?_)
  refine Yi (fun h2=>?_) (fun h2=>?_)
  ·have h2:((pre2 x y i).length+((two x y i).map encRq).length:Int)<(0:Int):=h2;exact absurd h2 (by omega)
  have h2:¬ (((pre2 x y i).length+((two x y i).map encRq).length:Int)<(0:Int)):=h2;refine Yi (Ii i (by omega)) ?_;refine Xi ⟨i+1,by omega⟩ ?_;exact ⟨Dl 2 i (by omega),⟨Zr,⟨(show vi (((pre2 x y i).length:Int)+(((two x y i).map encRq).length:Int))=vi ((pre2 x y (i+1)).length:Nat) by rw [pre2_succ x y i (by omega),List.length_append,Lm]; rfl),rfl⟩,Zr,Zr,Zr,Tv⟩,Tv,Fh,Tv⟩
 have h1:¬ ((i:Int)<(2:Int)):=h1;refine Xi ⟨[(0,.slice .none [[sl encRq x],[sl encRq y]]),(3,vi (pre2 x y i).length)],[],hfree⟩ (Yi ⟨Z2,Tv,Fh,Tv⟩ ?_)
 have hi2:i=2:=by omega
 refine Xi .pure (Xi _ (Yi (show PC 39 [.v (.slice none 0 0),vi ((pre2 x y i).length:Nat)] (.v (.slice none 0 0)) by rw [hi2]; show PC 39 [.v (.slice none 0 0),vi (((x++y).length:Nat):Int)] _; rw [hz]; exact s39z) ?_));refine Xi ⟨[(0,.slice .none [[sl encRq x],[sl encRq y]]),(6,.slice (.id 6 2) [])],[(6,.tok 2 0)],hfree⟩ (Yi ⟨Z2,Z1,Fh,Tv⟩ ?_)
 refine Xi {k:Nat // k≤2} (Xi (fun q=>⟨[(6,.slice (.id 6 2) ((pre2 x y q.1).map encRq)),(25,.slice .none [[sl encRq x],[sl encRq y]]),(26,vi 2),(27,vi q.1)],[(6,.tok 2 (pre2 x y q.1).length)],hfree⟩) (Xi (fun q=>2 - q.1) (Yi (Xi ⟨0,Nat.zero_le _⟩ ?_) ?_)))
 ·exact ⟨Z4,Z1,Fh,Tv⟩
 intro ⟨k,k1⟩;have k1:k≤2:=k1;have hp3:=pre2_len hx hy k;have ht3:=two_len hx hy k;have hm3:((two x y k).map encRq).length=(two x y k).length:=Lm _;refine Yi (fun h4=>?_) (fun h4=>?_)
 ·have h4:(k:Int)<(2:Int):=h4;refine Xi [sl encRq (two x y k)] (Yi (Yi (show (0:Int)≤(k:Nat) by omega) (two_at x y k (by omega))) (Yi rfl ?_));refine Xi ⟨[(6,.slice (.id 6 2) ((pre2 x y k).map encRq)),(8,sl encRq (two x y k)),(25,.slice .none [[sl encRq x],[sl encRq y]]),(26,vi 2),(27,vi k)],[(6,.tok 2 (pre2 x y k).length)],hfree⟩ (Yi ⟨Z5,Z1,Fh,Tv⟩ ?_)
  have b5:AllLen 2 ((two x y k).map encRq)∧((pre2 x y k).map encRq).length=(pre2 x y k).length∧(((pre2 x y k).map encRq).length+((two x y k).map encRq).length)*40≤140737488355328∧((pre2 x y k).map encRq).length+((two x y k).map encRq).length≤9223372036854775807:=⟨(allLen_map (enc:=encRq) (n:=2) (fun _=>rfl) (two x y k)),(by rw [Lm]),(by simp only [Lm]; omega),(by simp only [Lm]; omega)⟩;refine Yi b5 ?_;refine Yi (Ii k (by omega)) ?_;refine Xi ⟨k+1,by omega⟩ ?_;exact ⟨Dl 2 k (by omega),⟨⟨(show AV.slice (.id 6 2) ((pre2 x y k).map encRq++(two x y k).map encRq)=.slice (.id 6 2) ((pre2 x y (k+1)).map encRq) by rw [pre2_succ x y k (by omega),List.map_append]),rfl⟩,Zr,Zr,Zr,Tv⟩,⟨⟨(show HO.tok 2 (((pre2 x y k).map encRq).length+((two x y k).map encRq).length)=.tok 2 (pre2 x y (k+1)).length by rw [pre2_succ x y k (by omega),List.length_append,Lm,Lm]),rfl⟩,Tv⟩,Fh,Tv⟩
 have h4:¬ ((k:Int)<(2:Int)):=h4;refine Xi ⟨[(6,.slice (.id 6 2) ((pre2 x y k).map encRq))],[(6,.tok 2 (pre2 x y k).length)],hfree⟩ (Yi ⟨Z1,Z1,Fh,Tv⟩ ?_)
 exact .of_eq (show sl encRq (pre2 x y k)=sl encRq (x++y) by rw [show k=2 by omega]; rfl)
theorem s17 (x y:List Rq) (hx:x.length≤1000) (hy:y.length≤1000):PC 17 [.slice .none [[sl encRq x],[sl encRq y]]] (sl encRq (x++y)) :=
 (Nat.eq_zero_or_pos (x++y).length).elim (s17z x y hx hy) (s17n x y hx hy)
end Go.Eng

namespace Go.Eng
open Go.Proofs
section
variable {x:List Rl} {roots:List Rq}
theorem rqOk_of {b:Option ByteArray} {q:Rq} : rqOk b q=0↔rqOk none q=0∧∀ c,b=some c→blt c q.path=true:=by
 unfold rqOk;cases b with
 | none=>simp
 | some c =>
  by_cases h1:(pathMajor q.path).isNone=true
  ·simp [h1]
  ·simp only [h1]
   by_cases h2:(q.set.isEmpty||!decide (q.set=canon q.set))=true
   ·simp [h2]
   ·have h2:(q.set.isEmpty||!decide (q.set=canon q.set))=false:=by simpa using h2
    rw [h2]
    by_cases h3:blt c q.path=true
    ·simp [h3]
    ·simp [h3]
theorem rqGo_iff:∀ {l:List Rq} {b:Option ByteArray},checkRqsGo b l=0↔(∀ q ∈ l,rqOk none q=0)∧l.Pairwise (fun p q=>blt p.path q.path=true)∧∀ c,b=some c→∀ q ∈ l,blt c q.path=true
 | [],b=>by simp [checkRqsGo]
 | q :: l,b=>by
  unfold checkRqsGo
  by_cases h:rqOk b q=0
  ·rw [if_pos h,rqGo_iff,List.pairwise_cons];obtain ⟨h1,h2⟩:=rqOk_of.1 h;constructor
   ·rintro ⟨a1,a2,a3⟩
    refine ⟨fun p hp=>?_,⟨fun p hp=>a3 _ rfl p hp,a2⟩,fun c hc p hp=>?_⟩
    ·rcases List.mem_cons.1 hp with rfl | hp
     ·exact h1
     ·exact a1 p hp
    ·rcases List.mem_cons.1 hp with rfl | hp
     ·exact h2 c hc
     ·exact blt_trans (h2 c hc) (a3 _ rfl p hp)
   ·rintro ⟨a1,⟨a2,a3⟩,a4⟩
    exact ⟨fun p hp=>a1 p (List.mem_cons_of_mem _ hp),a3,fun c hc p hp=>by cases hc; exact a2 p hp⟩
  ·rw [if_neg h];refine ⟨fun e=>absurd e h,fun ⟨a1,_,a4⟩=>absurd (rqOk_of.2 ⟨a1 q (List.mem_cons_self ..),fun c hc=>a4 c hc q (List.mem_cons_self ..)⟩) h⟩
theorem rqs_sub {l l' : List Rq} (h:l'.Sublist l) (hl:checkRqs l=0):checkRqs l'=0:=by
 unfold checkRqs at hl ⊢;have hlen:=h.length_le;split at hl
 ·cases hl
 ·rw [if_neg (by omega)];obtain ⟨a1,a2,_⟩:=rqGo_iff.1 hl;exact rqGo_iff.2 ⟨fun q hq=>a1 q (h.subset hq),a2.sublist h,fun c hc=>by cases hc⟩
theorem valid_sub {l:List Rq} (h:l.Sublist roots) (hv:validS x roots=true):validS x l=true:=by
 obtain ⟨h0,h1⟩:=valid_of hv;unfold validS;rw [h0,rqs_sub h h1]; rfl
def FoundP (x:List Rl) (roots:List Rq):Prop:=∃ s,Sol x roots s
theorem FoundP.mono {l:List Rq} (h:FoundP x roots) (hl:∀ q ∈ l,q ∈ roots):FoundP x l:=by
 obtain ⟨s,hs⟩:=h;exact ⟨s,hs.ix,hs.inc,hs.fnd,fun q hq=>hs.root q (hl q hq),hs.req⟩
theorem solveE_zero (hv:validS x roots=true) (hx:x.length≤16):solveE x roots=0:=by
 unfold solveE;rw [if_pos hv,solveX_few hx]; rfl
theorem solveA_eq (hv:validS x roots=true) (hx:x.length≤16):solveA x roots=ansX x roots:=by
 unfold solveA;rw [if_pos ⟨hv,solveX_few hx⟩]
theorem found_iff (hv:validS x roots=true) (hx:x.length≤16):(solveA x roots).found=true↔FoundP x roots:=by
 obtain ⟨h0,h1⟩:=valid_of hv;have hR:=solveX_ok h0 h1;have hf:=solveX_few (roots:=roots) hx;rw [solveA_eq hv hx];unfold ansX;generalize solveX x roots=o at *
 constructor
 ·intro h
  by_cases hfo:o.found=true
  ·obtain ⟨_,t,sl,y2,y3,y4,y5⟩:=hR.yes hfo;have hm:o.dec ∈ leaves x roots (x.length+1) []:=List.mem_of_head? y5;exact ⟨_,(leaves_lf (.nil x) (.nil roots) _ hm).sol h0⟩
  ·rw [if_neg hfo] at h; cases h
 ·rintro ⟨s,hs⟩
  by_cases hfo:o.found=true
  ·rw [if_pos hfo]
  ·have hfo:o.found=false:=by simpa using hfo
   obtain ⟨n4,n5⟩:=(hR.no hfo).2.2 hf;have hnil:atD o.ss o.res=[]:=by
    cases h:atD o.ss o.res with
    | nil=>rfl
    | cons u l =>
     rw [h] at n5
     have:=(ent_iff.1 n5).2 u (List.mem_cons_self ..)
     cases this
   have hmem:atD o.ss o.res ∈ o.ss.drv:=List.mem_of_getElem? (atD_get n4)
   have:=deriveGo_sound hs (fun _ h=>by cases h) hR.der.der _ hmem
   rw [hnil] at this;cases this
theorem selE_eq (hv:validS x roots=true) (hx:x.length≤16):(selE x roots=0↔FoundP x roots)∧(selE x roots=17↔¬ FoundP x roots):=by
 unfold selE;rw [solveE_zero hv hx,if_neg (fun h=>h rfl),← found_iff hv hx]
 by_cases h:(solveA x roots).found=true
 ·rw [if_pos h]; simp [h]
 ·rw [if_neg h]; simp [h]
-- numbers and roots
theorem idI_pair (n:Nat):(idI n n).Pairwise (· < ·):=by
 unfold idI;rw [List.pairwise_map];refine List.Pairwise.imp_of_mem ?_ (List.pairwise_lt_range (n:=n));intro a b ha hb hab;rw [List.mem_range] at ha hb;rw [if_pos ha,if_pos hb]; omega
theorem pickR_take {l:List Int} (h:∀ z ∈ l,0≤z∧z<roots.length):∀ i,(pickR roots l).take i=pickR roots (l.take i)∧(pickR roots l).drop i=pickR roots (l.drop i):=by
 induction l with
 | nil=>intro i; simp [pickR]
 | cons z l ih =>
  intro i;have hz:=h z (List.mem_cons_self ..);have hg:roots[z.toNat]?=some roots[z.toNat]:=Ge (by omega);have e:pickR roots (z :: l)=roots[z.toNat] :: pickR roots l:=by unfold pickR; rw [List.filterMap_cons,hg]
  cases i with
  | zero=>simp [pickR]
  | succ i =>
   obtain ⟨a,b⟩:=ih (fun y hy=>h y (List.mem_cons_of_mem _ hy)) i;rw [e,List.take_succ_cons,List.drop_succ_cons,List.take_succ_cons,List.drop_succ_cons,b];refine ⟨?_,rfl⟩;rw [a];unfold pickR;rw [List.filterMap_cons,hg]
theorem pickR_app (l m:List Int):pickR roots (l++m)=pickR roots l++pickR roots m:=List.filterMap_append
theorem fm_congr {α β:Type} {f g:α→Option β} : ∀ {l:List α},(∀ a ∈ l,f a=g a)→l.filterMap f=l.filterMap g
 | [],_=>rfl
 | a :: l,h=>by
  rw [List.filterMap_cons,List.filterMap_cons,h a (List.mem_cons_self ..),fm_congr fun b hb=>h b (List.mem_cons_of_mem _ hb)]
theorem pickR_id:pickR roots (idI roots.length roots.length)=roots:=by
 have key:∀ m,m≤roots.length→(List.range m).filterMap (fun k=>roots[k]?)=roots.take m:=fun m=>by
  induction m with
  | zero=>intro _; simp
  | succ m ih =>
   intro hm;have hg:roots[m]?=some roots[m]:=Ge (by omega);rw [List.range_succ,List.filterMap_append,ih (by omega),List.take_add_one,hg];simp [hg]
 unfold pickR idI;rw [List.filterMap_map];have e:(List.range roots.length).filterMap ((fun k:Int=>roots[k.toNat]?) ∘ fun k:Nat=>if k<roots.length then (k:Int) else 0)=(List.range roots.length).filterMap (fun k=>roots[k]?):=by
  refine fm_congr fun k hk=>?_;rw [List.mem_range] at hk;simp only [Function.comp];rw [if_pos hk,Int.toNat_natCast]
 rw [e,key _ (Nat.le_refl _),List.take_length]
theorem pickR_sub {l m:List Int} (h:l.Sublist m):(pickR roots l).Sublist (pickR roots m):=List.Sublist.filterMap _ h
theorem less_sub (l:List Int) (z:Int):(lessI l z).Sublist l:=List.filter_sublist
theorem pickR_mono {l m:List Int} (h:∀ z ∈ l,z ∈ m):∀ q ∈ pickR roots l,q ∈ pickR roots m:=fun q hq=>by
 obtain ⟨k,hk,e⟩:=List.mem_filterMap.1 hq;exact List.mem_filterMap.2 ⟨k,h k hk,e⟩
structure CInv (x:List Rl) (roots:List Rq) (i:Nat) (kept:List Int):Prop where
 sub:kept.Sublist (idI roots.length roots.length)
 no:¬ FoundP x (pickR roots kept)
 crit:∀ z ∈ kept,(i:Int)≤z→FoundP x (pickR roots (lessI kept z))
theorem CInv.step (hv:validS x roots=true) (hx:x.length≤16) {i:Nat} {kept:List Int} (h:CInv x roots (i+1) kept):CInv x roots i (coreStep x roots kept (i:Nat)):=by
 have hsub:(lessI kept (i:Nat)).Sublist (idI roots.length roots.length):=(less_sub _ _).trans h.sub;have hval:validS x (pickR roots (lessI kept (i:Nat)))=true:=valid_sub (by have:=pickR_sub (roots:=roots) hsub; rwa [pickR_id] at this) hv;have hE:=solveE_zero hval hx;have hF:=found_iff hval hx;unfold coreStep
 by_cases hf:(solveA x (pickR roots (lessI kept (i:Nat)))).found=true
 ·rw [if_neg (by rw [hf]; simp)];refine ⟨h.sub,h.no,fun z hz hi=>?_⟩
  by_cases e:z=(i:Nat)
  ·subst e; exact hF.1 hf
  ·exact h.crit z hz (by omega)
 ·have hf' : (solveA x (pickR roots (lessI kept (i:Nat)))).found=false:=by simpa using hf
  rw [if_pos ⟨hE,hf'⟩];refine ⟨hsub,fun hc=>hf (hF.2 hc),fun z hz hi=>?_⟩;obtain ⟨hz1,hz2⟩:=List.mem_filter.1 hz;have hne:¬ z=(i:Nat):=by simpa using hz2
  refine (h.crit z hz1 (by omega)).mono (pickR_mono fun y hy=>?_);obtain ⟨hy1,hy2⟩:=List.mem_filter.1 hy;exact List.mem_filter.2 ⟨(List.mem_filter.1 hy1).1,hy2⟩
theorem CInv.go (hv:validS x roots=true) (hx:x.length≤16):∀ {i:Nat} {kept:List Int},CInv x roots i kept→CInv x roots 0 (coreGo x roots i kept)
 | 0,_,h=>h
 | i+1,_,h=>CInv.go (i:=i) hv hx (CInv.step hv hx h)
theorem core_inv (hv:validS x roots=true) (hx:x.length≤16) (hn:¬ FoundP x roots):CInv x roots 0 (coreL x roots):=by
 refine CInv.go hv hx ⟨List.Sublist.refl _,by rw [pickR_id]; exact hn,fun z hz hi=>?_⟩
 have:=(KOk.id roots.length).rng z hz
 omega
theorem less_at {l:List Int} (h:l.Pairwise (· < ·)) {i:Nat} (hi:i<l.length):lessI l l[i]=l.take i++l.drop (i+1):=by
 induction l generalizing i with
 | nil=>simp at hi
 | cons z l ih =>
  obtain ⟨h1,h2⟩:=List.pairwise_cons.1 h;cases i with
  | zero =>
   show lessI (z :: l) z=l;unfold lessI;rw [List.filter_cons_of_neg (by simp),List.filter_eq_self];intro y hy
   have:=h1 y hy
   simp; omega
  | succ i =>
   have hi:i<l.length:=by simpa using hi
   have:=h1 _ (List.getElem_mem hi)
   show lessI (z :: l) l[i]=z :: (l.take i++l.drop (i+1));have e:=ih h2 hi;unfold lessI at e ⊢;rw [List.filter_cons_of_pos (by simp; omega),e]
theorem core_min (hx:x.length≤16) (hc:coreE x roots=0) :
  (∀ z ∈ coreA x roots,0≤z∧z<roots.length)∧(coreA x roots).Pairwise (· < ·)∧selE x (pickR roots (coreA x roots))=17∧selE x roots=17 ∧
  ∀ i,i<(coreA x roots).length→selE x ((pickR roots (coreA x roots)).take i++(pickR roots (coreA x roots)).drop (i+1))=0:=by
 have hv:validS x roots=true:=by
  cases h:validS x roots with
  | true=>rfl
  | false =>
   unfold coreE solveE at hc;rw [h] at hc;simp at hc
 have hE:=solveE_zero hv hx;have hf:(solveA x roots).found=false:=by
  cases h:(solveA x roots).found with
  | false=>rfl
  | true =>
   unfold coreE at hc;rw [hE,h] at hc;simp at hc
 have hn:¬ FoundP x roots:=fun h=>by rw [(found_iff hv hx).2 h] at hf; cases hf
 have hA:coreA x roots=coreL x roots:=by unfold coreA; rw [if_pos hc]
 rw [hA];have hI:=core_inv hv hx hn;have hrng:∀ z ∈ coreL x roots,0≤z∧z<roots.length:=fun z hz=>(KOk.id roots.length).rng z (hI.sub.subset hz);have hp:(coreL x roots).Pairwise (· < ·):=(idI_pair roots.length).sublist hI.sub;have hvs:∀ {l:List Int},l.Sublist (coreL x roots)→validS x (pickR roots l)=true:=fun hl=>valid_sub (by have:=pickR_sub (roots:=roots) (hl.trans hI.sub); rwa [pickR_id] at this) hv;refine ⟨hrng,hp,(selE_eq (hvs (List.Sublist.refl _)) hx).2.2 hI.no,(selE_eq hv hx).2.2 hn,fun i hi=>?_⟩;rw [(pickR_take hrng i).1,(pickR_take hrng (i+1)).2,← pickR_app,← less_at hp hi];refine (selE_eq (hvs (less_sub _ _)) hx).1.2 (hI.crit _ (List.getElem_mem hi) (hrng _ (List.getElem_mem hi)).1)
end
end Go.Eng

namespace Go.Eng
open Go.Proofs
theorem core_bad {x:List Rl} {roots:List Rq} (h:coreE x roots≠0):coreA x roots=[]∧(coreE x roots=8↔selE x roots=0):=by
 refine ⟨by unfold coreA; rw [if_neg h],?_⟩;unfold coreE selE at *
 by_cases h1:solveE x roots=0
 ·simp only [h1,ne_eq,not_true_eq_false,if_false] at h ⊢
  by_cases h2:(solveA x roots).found=true
  ·simp [h2]
  ·simp [h2] at h
 ·simp only [h1,ne_eq,not_false_eq_true,if_true] at h ⊢;constructor
  ·intro e;unfold solveE at e;split at e
   ·split at e <;> cases e
   ·cases e
  ·intro e; first | exact e.elim | exact absurd e h1
theorem coreGo_ok {x:List Rl} {roots:List Rq} {n:Nat} : ∀ {i:Nat} {kept:List Int},KOk n kept→KOk n (coreGo x roots i kept)
 | 0,_,h=>h
 | i+1,kept,h=>show KOk n (coreGo x roots i (coreStep x roots kept (i:Nat))) from coreGo_ok (h.step x roots _)
theorem core_len (x:List Rl) (roots:List Rq):(coreA x roots).length≤roots.length:=by
 unfold coreA;split
 ·exact (coreGo_ok (KOk.id _)).len
 ·exact Nat.zero_le _
theorem small_len {x:List Rl} {roots:List Rq} (h:(smallX x 16&&smallQs roots)=true):x.length≤16:=by
 simp only [Bool.and_eq_true,smallX,decide_eq_true_eq] at h;exact h.1.2
theorem mem_cut {P:List Rq} {j:Nat} {q:Rq} (h:q ∈ P.take j++P.drop (j+1)):q ∈ P:=(List.mem_append.1 h).elim List.mem_of_mem_take List.mem_of_mem_drop
theorem selA_nil {x:List Rl} {roots:List Rq} (h:selE x roots≠0):selA x roots=[]:=by unfold selA; rw [if_neg h]
set_option maxHeartbeats 4000000 in
theorem s5 (x:List Rl) (ifs:List (List AV)) (roots:List Rq) (hL:Lim x roots):PC 5 [ixV x ifs,sl encRq roots] (vb true):=by
 have hx:=hL.x;have hr:=hL.rq;have h8:=s8;have h9:=hL.c11 ifs;have h16:=s16 x ifs roots hx hr;obtain ⟨c,hc⟩ : ∃ c,c=coreA x roots:=⟨_,rfl⟩;obtain ⟨ce,hce⟩ : ∃ ce,ce=coreE x roots:=⟨_,rfl⟩;obtain ⟨sa,hsa⟩ : ∃ sa,sa=selA x roots:=⟨_,rfl⟩;obtain ⟨se,hse⟩ : ∃ se,se=selE x roots:=⟨_,rfl⟩;rw [← hsa,← hse] at h16;refine Ps ⟨[2],[(9,2)],[],[],[],[],[],[],[],[],[4,5,6,7,9,13,14,15,16,17,18,22,24]⟩ Tryz.func5 rfl (Nz rfl) ?_;refine Xi .pure (Xi _ (Yi h8 ?_));refine Yi (Nz rfl) ?_;refine Or.elim (Bt (smallX x 16&&smallQs roots)) (fun h1=>?_) (fun h1=>?_)
 ·have h1:(smallX x 16&&smallQs roots)=true:=h1;have hc2:=h9;rw [show (smallX x 16&&smallQs roots)=true from h1] at hc2;refine Xi .pure (Xi _ (Yi hc2 ?_));refine Xi ⟨[(1,sl encRq roots),(2,.ref 2 0)],[(2,.ro (Ic x ifs))],hfree⟩ (Yi ⟨Z2,Z1,Fh,Tv⟩ ?_)
  refine Yi (Nz rfl) ?_;have hsm:=h1;have hxl:x.length≤16:=small_len hsm;have hrl:=few_roots hsm;have h13:=s13 x ifs roots hx hr (by omega);rw [← hc,← hce] at h13;have hcl:c.length≤roots.length:=by rw [hc]; exact core_len x roots
  refine Xi .pure (Xi _ (Yi h13 ?_));refine Xi ⟨[(1,sl encRq roots),(2,.ref 2 0),(5,sl encI c),(6,vi (ce:Int))],[(2,.ro (Ic x ifs))],hfree⟩ (Yi ⟨Z4,Z1,Fh,Tv⟩ ?_)
  refine Yi (Nz rfl) ?_;refine Xi .pure (Xi _ (Yi h16 ?_));refine Xi ⟨[(1,sl encRq roots),(2,.ref 2 0),(5,sl encI c),(6,vi (ce:Int)),(7,sl encSl sa),(8,vi (se:Int))],[(2,.ro (Ic x ifs))],hfree⟩ (Yi ⟨Z6,Z1,Fh,Tv⟩ ?_)
  refine Yi (fun h3=>?_) (fun h3=>?_)
  ·have h3:((ce:Int):Int)≠(0:Int):=h3;have hbad:=core_bad (x:=x) (roots:=roots) (by rw [← hce]; exact h3);have hAc:c=[]:=by rw [hc]; exact hbad.1
   have hA8:ce=8↔se=0:=by rw [hce,hse]; exact hbad.2
   refine Yi (fun h4=>?_) (fun h4=>?_)
   ·have h4:((c.map encI).length:Int)=(0:Int):=h4;refine Yi (fun h5=>?_) (fun h5=>?_)
    ·have h5:((ce:Int):Int)=(8:Int):=h5;refine Yi (fun h6=>?_) (fun h6=>?_)
     ·have h6:((se:Int):Int)=(0:Int):=h6;exact .refl _
     have h6:¬ (((se:Int):Int)=(0:Int)):=h6;exact absurd (hA8.1 h5) h6
    have h5:¬ (((ce:Int):Int)=(8:Int)):=h5;refine Yi (fun h9=>?_) (fun h9=>?_)
    ·have h9:((se:Int):Int)=(0:Int):=h9;exact absurd (hA8.2 h9) h5
    have h9:¬ (((se:Int):Int)=(0:Int)):=h9;exact .refl _
   have h4:¬ (((c.map encI).length:Int)=(0:Int)):=h4;exact absurd (by rw [hAc]; rfl) h4
  have h3:((ce:Int):Int)=(0:Int):=Classical.byContradiction h3;obtain ⟨hB1,hB2,hB3,hB4,hB5⟩:=core_min (roots:=roots) hxl (by rw [← hce]; exact h3);rw [← hc] at hB1;rw [← hc] at hB2;rw [← hc] at hB3;rw [← hse] at hB4;rw [← hc] at hB5;refine Xi ⟨[(1,sl encRq roots),(2,.ref 2 0),(5,sl encI c),(7,sl encSl sa),(8,vi (se:Int))],[(2,.ro (Ic x ifs))],hfree⟩ (Yi ⟨Z5,Z1,Fh,Tv⟩ ?_)
  refine Xi {q:Nat // q≤c.length} (Xi (fun q=>⟨[(1,sl encRq roots),(2,.ref 2 0),(5,sl encI c),(7,sl encSl sa),(8,vi (se:Int)),(9,.slice (.id 9 2) ((pickR roots (c.take q.1)).map encRq)),(47,sl encI c),(48,vi (c.map encI).length),(49,vi q.1)],[(2,.ro (Ic x ifs)),(9,.tok 2 (pickR roots (c.take q.1)).length)],hfree⟩) (Xi (fun q=>c.length - q.1) (Yi (Xi ⟨0,Nat.zero_le _⟩ ?_) ?_)))
  ·exact ⟨Z9,Z2,Fh,Tv⟩
  intro ⟨k,k1⟩;have k1:k≤c.length:=k1;refine Yi (fun h13=>?_) (fun h13=>?_)
  ·have h13:(k:Int)<((c.map encI).length:Int):=h13;have n13:k<c.length:=by have q:=h13; rw [Lm] at q; omega
   have g13:c[k]?=some c[k]:=Ge n13;have nk:k<c.length:=by have q:=h13; rw [Lm] at q; omega
   have hz:=hB1 _ (List.getElem_mem nk);refine Xi [vi c[k]] (Yi (Yi (Nn k) (map_at (Ge nk))) (Yi rfl ?_));refine Xi ⟨[(1,sl encRq roots),(2,.ref 2 0),(5,sl encI c),(7,sl encSl sa),(8,vi (se:Int)),(9,.slice (.id 9 2) ((pickR roots (c.take k)).map encRq)),(10,vi k),(11,vi c[k]),(47,sl encI c),(48,vi (c.map encI).length),(49,vi k)],[(2,.ro (Ic x ifs)),(9,.tok 2 (pickR roots (c.take k)).length)],hfree⟩ (Yi ⟨Z11,Z2,Fh,Tv⟩ ?_)
   refine Yi (fun h14=>?_) (fun h14=>?_)
   ·have h14:(c[k]:Int)<(0:Int):=h14;refine Xi ⟨[],[],hfree⟩ (Yi ⟨Tv,Tv,Fh,Tv⟩ ?_)
    exact absurd h14 (by have q:=hz.1; omega)
   have h14:¬ ((c[k]:Int)<(0:Int)):=h14;refine Yi (fun h16=>?_) (fun h16=>?_)
   ·have h16:((roots.map encRq).length:Int)≤(c[k]:Int):=h16;refine Xi ⟨[],[],hfree⟩ (Yi ⟨Tv,Tv,Fh,Tv⟩ ?_)
    exact absurd h16 (by have q:=hz.2; rw [Lm]; omega)
   have h16:¬ (((roots.map encRq).length:Int)≤(c[k]:Int)):=h16;refine Yi (fun h18=>?_) (fun h18=>?_)
   ·have h18:(0:Int)<(k:Int):=h18;refine Yi (by show InI64 ((k:Int) - (1:Int)); unfold InI64; omega) ?_;have nk1:k - 1<c.length:=by omega
    have hk0:0<k:=by omega
    have hlt:c[k - 1]<c[k]:=(List.pairwise_iff_getElem.1 hB2) (k - 1) k nk1 nk (by omega);refine Xi [vi (c[k - 1])] (Yi (Yi (show (0:Int)≤(k:Int) - 1 by omega) (by rw [show ((k:Int) - 1).toNat=k - 1 by omega]; exact map_at (Ge nk1))) (Yi rfl ?_));refine Yi (fun h19=>?_) (fun h19=>?_)
    ·have h19:(c[k]:Int)≤(c[k - 1]:Int):=h19;refine Xi ⟨[],[],hfree⟩ (Yi ⟨Tv,Tv,Fh,Tv⟩ ?_)
     exact absurd h19 (by omega)
    have h19:¬ ((c[k]:Int)≤(c[k - 1]:Int)):=h19;refine Xi ⟨[(1,sl encRq roots),(2,.ref 2 0),(5,sl encI c),(7,sl encSl sa),(8,vi (se:Int)),(9,.slice (.id 9 2) ((pickR roots (c.take k)).map encRq)),(11,vi c[k]),(47,sl encI c),(48,vi (c.map encI).length),(49,vi k)],[(2,.ro (Ic x ifs)),(9,.tok 2 (pickR roots (c.take k)).length)],hfree⟩ (Yi ⟨Z10,Z2,Fh,Tv⟩ ?_)
    have hpl:(pickR roots (c.take k)).length≤roots.length:=by have a:=pickR_len roots (c.take k); rw [List.length_take] at a; omega
    refine Exists.elim (show ∃ rq,roots[(c[k]).toNat]?=some rq from ⟨_,Ge (show (c[k]).toNat<roots.length by omega)⟩) (fun rq hrq=>?_);refine Xi (encRq rq) (Yi (Yi hz.1 (map_at hrq)) (Yi rfl ?_));refine Yi (Nz rfl) ?_;have b21:AllLen 2 [(encRq rq)]∧((pickR roots (c.take k)).map encRq).length=(pickR roots (c.take k)).length∧(((pickR roots (c.take k)).map encRq).length+([(encRq rq)]:List (List AV)).length)*40≤140737488355328∧((pickR roots (c.take k)).map encRq).length+([(encRq rq)]:List (List AV)).length≤9223372036854775807:=⟨⟨rfl,trivial⟩,(by rw [Lm]),(by simp only [Lm,List.length_cons,List.length_nil]; omega),(by simp only [Lm,List.length_cons,List.length_nil]; omega)⟩;refine Yi b21 ?_;refine Xi ⟨[(1,sl encRq roots),(2,.ref 2 0),(5,sl encI c),(7,sl encSl sa),(8,vi (se:Int)),(9,.slice (.id 9 2) (((pickR roots (c.take k)).map encRq)++[(encRq rq)])),(47,sl encI c),(48,vi (c.map encI).length),(49,vi k)],[(2,.ro (Ic x ifs)),(9,.tok 2 (((pickR roots (c.take k)).map encRq).length+([(encRq rq)]:List (List AV)).length))],hfree⟩ (Yi ⟨Z9,Z2,Fh,Tv⟩ ?_)
    refine Yi (Ii k (by omega)) ?_;have hps:pickR roots (c.take (k+1))=pickR roots (c.take k)++[rq]:=pickR_succ (Ge nk) hrq;refine Xi ⟨k+1,nk⟩ ?_;exact ⟨Dl c.length k (by omega),⟨Zr,Zr,Zr,Zr,Zr,⟨(show AV.slice (.id 9 2) ((pickR roots (c.take k)).map encRq++[encRq rq])=.slice (.id 9 2) ((pickR roots (c.take (k+1))).map encRq) by rw [hps,List.map_append]; rfl),rfl⟩,Zr,Zr,Zr,Tv⟩,⟨Zr,⟨(show HO.tok 2 (((pickR roots (c.take k)).map encRq).length+([encRq rq]:List (List AV)).length)=.tok 2 (pickR roots (c.take (k+1))).length by rw [hps,List.length_append,Lm]; rfl),rfl⟩,Tv⟩,Fh,Tv⟩
   have h18:¬ ((0:Int)<(k:Int)):=h18;refine Xi ⟨[(1,sl encRq roots),(2,.ref 2 0),(5,sl encI c),(7,sl encSl sa),(8,vi (se:Int)),(9,.slice (.id 9 2) ((pickR roots (c.take k)).map encRq)),(11,vi c[k]),(47,sl encI c),(48,vi (c.map encI).length),(49,vi k)],[(2,.ro (Ic x ifs)),(9,.tok 2 (pickR roots (c.take k)).length)],hfree⟩ (Yi ⟨Z10,Z2,Fh,Tv⟩ ?_)
   have hpl:(pickR roots (c.take k)).length≤roots.length:=by have a:=pickR_len roots (c.take k); rw [List.length_take] at a; omega
   refine Exists.elim (show ∃ rq,roots[(c[k]).toNat]?=some rq from ⟨_,Ge (show (c[k]).toNat<roots.length by omega)⟩) (fun rq hrq=>?_);refine Xi (encRq rq) (Yi (Yi hz.1 (map_at hrq)) (Yi rfl ?_));refine Yi (Nz rfl) ?_;have b23:AllLen 2 [(encRq rq)]∧((pickR roots (c.take k)).map encRq).length=(pickR roots (c.take k)).length∧(((pickR roots (c.take k)).map encRq).length+([(encRq rq)]:List (List AV)).length)*40≤140737488355328∧((pickR roots (c.take k)).map encRq).length+([(encRq rq)]:List (List AV)).length≤9223372036854775807:=⟨⟨rfl,trivial⟩,(by rw [Lm]),(by simp only [Lm,List.length_cons,List.length_nil]; omega),(by simp only [Lm,List.length_cons,List.length_nil]; omega)⟩;refine Yi b23 ?_;refine Xi ⟨[(1,sl encRq roots),(2,.ref 2 0),(5,sl encI c),(7,sl encSl sa),(8,vi (se:Int)),(9,.slice (.id 9 2) (((pickR roots (c.take k)).map encRq)++[(encRq rq)])),(47,sl encI c),(48,vi (c.map encI).length),(49,vi k)],[(2,.ro (Ic x ifs)),(9,.tok 2 (((pickR roots (c.take k)).map encRq).length+([(encRq rq)]:List (List AV)).length))],hfree⟩ (Yi ⟨Z9,Z2,Fh,Tv⟩ ?_)
   refine Yi (Ii k (by omega)) ?_;have hps:pickR roots (c.take (k+1))=pickR roots (c.take k)++[rq]:=pickR_succ (Ge nk) hrq;refine Xi ⟨k+1,nk⟩ ?_;exact ⟨Dl c.length k (by omega),⟨Zr,Zr,Zr,Zr,Zr,⟨(show AV.slice (.id 9 2) ((pickR roots (c.take k)).map encRq++[encRq rq])=.slice (.id 9 2) ((pickR roots (c.take (k+1))).map encRq) by rw [hps,List.map_append]; rfl),rfl⟩,Zr,Zr,Zr,Tv⟩,⟨Zr,⟨(show HO.tok 2 (((pickR roots (c.take k)).map encRq).length+([encRq rq]:List (List AV)).length)=.tok 2 (pickR roots (c.take (k+1))).length by rw [hps,List.length_append,Lm]; rfl),rfl⟩,Tv⟩,Fh,Tv⟩
  have h13:¬ ((k:Int)<((c.map encI).length:Int)):=h13;have n13:¬ k<c.length:=by have q:=h13; rw [Lm] at q; omega
  have hkc:k=c.length:=by have q:=h13; rw [Lm] at q; omega
  refine Exists.elim (show ∃ P,P=pickR roots c from ⟨_,rfl⟩) (fun P hP=>?_);have hPk:pickR roots (c.take k)=P:=by rw [hP,List.take_of_length_le (by omega)]
  have hrP:∀ q ∈ P,FewQ q:=fun q hq=>hr q (pickR_mem (by rw [← hP]; exact hq));have hPr:P.length≤1000:=by have q:=pickR_len roots c; rw [← hP] at q; omega
  rw [← hP] at hB3;rw [← hP] at hB5;have hB5:∀ i,i<P.length→selE x (P.take i++P.drop (i+1))=0:=fun i hi=>hB5 i (by rw [hP] at hi; exact Nat.lt_of_lt_of_le hi (pickR_len _ _));refine Xi ⟨[(2,.ref 2 0),(7,sl encSl sa),(8,vi (se:Int)),(9,.slice (.id 9 2) (P.map encRq))],[(2,.ro (Ic x ifs)),(9,.tok 2 P.length)],hfree⟩ (Yi ⟨⟨Zr,Zr,Zr,⟨(show AV.slice (.id 9 2) ((pickR roots (c.take k)).map encRq)=.slice (.id 9 2) (P.map encRq) by rw [hPk]),rfl⟩,Tv⟩,⟨Zr,⟨(show HO.tok 2 (pickR roots (c.take k)).length=.tok 2 P.length by rw [hPk]),rfl⟩,Tv⟩,Fh,Tv⟩ ?_)
  refine Yi (Nz rfl) ?_;have h17:=s16 x ifs P hx hrP;rw [hB3] at h17;refine Xi .pure (Xi _ (Yi h17 ?_));refine Xi ⟨[(2,.ref 2 0),(7,sl encSl sa),(8,vi (se:Int)),(9,.slice (.id 9 2) (P.map encRq)),(13,vi 17)],[(2,.ro (Ic x ifs)),(9,.tok 2 P.length)],hfree⟩ (Yi ⟨Z5,Z2,Fh,Tv⟩ ?_)
  refine Yi (fun h=>absurd h (by decide)) (fun _=>?_);refine Xi {q:Nat // q≤P.length} (Xi (fun q=>⟨[(2,.ref 2 0),(7,sl encSl sa),(8,vi (se:Int)),(9,.slice (.id 9 2) (P.map encRq)),(92,vi (P.map encRq).length),(93,vi q.1)],[(2,.ro (Ic x ifs)),(9,.tok 2 P.length)],hfree⟩) (Xi (fun q=>P.length - q.1) (Yi (Xi ⟨0,Nat.zero_le _⟩ ?_) ?_)))
  ·exact ⟨Z6,Z2,Fh,Tv⟩
  intro ⟨j,j1⟩;have j1:j≤P.length:=j1;refine Yi (fun h25=>?_) (fun h25=>?_)
  ·have h25:(j:Int)<((P.map encRq).length:Int):=h25;have n25:j<P.length:=by have q:=h25; rw [Lm] at q; omega
   have g25:P[j]?=some P[j]:=Ge n25;refine Xi ⟨[(2,.ref 2 0),(7,sl encSl sa),(8,vi (se:Int)),(9,.slice (.id 9 2) (P.map encRq)),(92,vi (P.map encRq).length),(93,vi j)],[(2,.ro (Ic x ifs)),(9,.tok 2 P.length)],hfree⟩ (Yi ⟨Z6,Z2,Fh,Tv⟩ ?_)
   refine Yi (Nz rfl) ?_;have nj:j<P.length:=by have q:=h25; rw [Lm] at q; omega
   have hPl:(P.map encRq).length=P.length:=Lm _;have eS1:(((P.map encRq).take ((j:Nat):Int).toNat).drop (0:Int).toNat)=(P.take j).map encRq:=by rw [Int.toNat_natCast]; simp
   have eS2:(((P.map encRq).take (((P.map encRq).length:Nat):Int).toNat).drop ((j:Int)+1).toNat)=(P.drop (j+1)).map encRq:=by rw [Int.toNat_natCast,List.take_length,show ((j:Int)+1).toNat=j+1 by omega]; simp
   refine Yi ⟨Int.le_refl _,by show (0:Int)≤(j:Nat); omega,by show ((j:Nat):Int)≤((P.map encRq).length:Nat); omega⟩ (Yi (fun cs hcs=>by obtain ⟨q,_,rfl⟩:=List.mem_map.1 hcs; rfl) ?_);refine Yi (Ii j (by omega)) ?_;refine Yi ⟨by show (0:Int)≤(j:Int)+1; omega,by show (j:Int)+1≤((P.map encRq).length:Nat); omega,Int.le_refl _⟩ (Yi (fun cs hcs=>by obtain ⟨q,_,rfl⟩:=List.mem_map.1 hcs; rfl) ?_);have hs17:PC 17 [.slice .none [[.slice .none (((P.map encRq).take ((j:Nat):Int).toNat).drop (0:Int).toNat)],[.slice .none (((P.map encRq).take (((P.map encRq).length:Nat):Int).toNat).drop ((j:Int)+1).toNat)]]] (sl encRq (P.take j++P.drop (j+1))):=by rw [eS1,eS2]; exact s17 _ _ (by rw [List.length_take]; omega) (by rw [List.length_drop]; omega)
   refine Xi _ (Yi hs17 ?_);have h18:=s16 x ifs (P.take j++P.drop (j+1)) hx (fun q hq=>hrP q (mem_cut hq));rw [hB5 j nj] at h18;refine Xi _ (Yi h18 ?_);refine Yi (by kernel_rfl) ?_;refine Xi ⟨[(2,.ref 2 0),(7,sl encSl sa),(8,vi (se:Int)),(9,.slice (.id 9 2) (P.map encRq)),(16,vi 0),(92,vi (P.map encRq).length),(93,vi j)],[(2,.ro (Ic x ifs)),(9,.tok 2 P.length)],hfree⟩ (Yi ⟨Z7,Z2,Fh,Tv⟩ ?_)
   refine Yi (fun h=>absurd h (by decide)) (fun _=>?_);refine Yi (Ii j (by omega)) ?_;refine Xi ⟨j+1,nj⟩ ?_;exact ⟨Dl P.length j (by omega),Z6,Z2,Fh,Tv⟩
  have h25:¬ ((j:Int)<((P.map encRq).length:Int)):=h25;have n25:¬ j<P.length:=by have q:=h25; rw [Lm] at q; omega
  refine Yi (fun h27=>?_) (fun h27=>?_)
  ·have h27:((se:Int):Int)=(17:Int):=h27;refine Yi (fun h28=>?_) (fun h28=>?_)
   ·have h28:((sa.map encSl).length:Int)=(0:Int):=h28;exact .refl _
   have h28:¬ (((sa.map encSl).length:Int)=(0:Int)):=h28;exact absurd (by rw [hsa,selA_nil (by rw [← hse,hB4]; decide)]; rfl) h28
  have h27:¬ (((se:Int):Int)=(17:Int)):=h27;exact absurd hB4 h27
 have h1:(smallX x 16&&smallQs roots)=false:=h1;have hc32:=h9;rw [show (smallX x 16&&smallQs roots)=false from h1] at hc32;refine Xi .pure (Xi _ (Yi hc32 ?_));refine Xi ⟨[],[],hfree⟩ (Yi ⟨Tv,Tv,Fh,Tv⟩ ?_)
 exact .refl _
end Go.Eng
