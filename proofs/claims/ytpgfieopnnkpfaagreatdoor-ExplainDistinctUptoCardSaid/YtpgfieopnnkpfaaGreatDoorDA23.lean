/- Lemmas for the claims of this seat, without a condition: part 23 (E23, E12, E13, R1, R2, R3, R4, R5, C60, C61, C62, C63, C64, R6, R7, R8, R9, R10, R11, R12, R13, R14, R15, R16, R17, R18, R19, R20, R21, R22, R23, E14, E15, E16, E17, E18, E24). -/
import Derived.Test.YtpgfieopnnkpfaaGreatDoorDA22
namespace Go.Eng
open Go.Proofs
theorem e72 (n:Nat) (h0:0<n) (h1:n≤1000000):ACall Tryz.prog 72 [.v (.slice none 0 0),.v (.int .i64 (n:Int))] hfree fun r h'=>r=.slice (.id 2000 3) []∧h'=heapOf [(2000,.tok 3 0)] hfree:=by
 obtain ⟨i0,hi0⟩ : ∃ i0,Tryz.prog.info? 29=some i0:=Option.isSome_iff_exists.1 (by kernel_rfl);have hs3:i0.size=3:=by
  have q:(Tryz.prog.info? 29).map (·.size)=some 3:=by kernel_rfl
  rw [hi0] at q; exact Option.some.inj q
 have hb:i0.bytes=48:=by
  have q:(Tryz.prog.info? 29).map (·.bytes)=some 48:=by kernel_rfl
  rw [hi0] at q; exact Option.some.inj q
 obtain ⟨z,hz⟩ : ∃ z,i0.zero=some z∧z.cells.size=3:=by
  have q:((Tryz.prog.info? 29).bind (·.zero)).map (·.cells.size)=some 3:=by kernel_rfl
  rw [hi0] at q;cases e:i0.zero with
  | none=>simp [e] at q
  | some z=>simp [e] at q; exact ⟨z,rfl,q⟩
 refine acall_grow (ent 72 Tryz.func72 (by kernel_rfl) rfl) fun w=>?_;refine (Any8.slices_Grow_grow Tryz.layGrow i0 z hi0 hz.1 (by rw [hs3]; decide) none 0 0 n [] w (Nat.le_refl _) (by omega) (by rw [hb]; omega) (by omega) (by simp) (fun _=>rfl) (fun a e=>by cases e)).mono ?_
 rintro e w' ⟨rfl,rfl⟩
 obtain ⟨G,hG⟩ : ∃ G,G=Go.grownCap w (0+n) 0 29:=⟨_,rfl⟩;have hGn:0+n≤G:=hG▸Go.grownCap_ge w _ _ _;have e29:(Tryz.layGrow_ren.t 25)=29:=rfl;rw [e29,← hG];refine ⟨G,_,_,rfl,?_,rfl⟩;have zc:∀ (c:Array Value) (k:Nat),(Builtin.zeroCells c k).size=c.size*k:=fun c k=>by
  unfold Builtin.zeroCells; simp [Nat.mul_comm]
 rw [Array.size_append,Array.size_append,zc,zc,hz.2];simp only [List.size_toArray,List.length_nil];omega
theorem e72z:PC 72 [.v (.slice none 0 0),.v (.int .i64 0)] (.v (.slice none 0 0)) :=
 pcall_same [.slice none 0 0,.int .i64 0] (.slice none 0 0) (ent 72 Tryz.func72 (by kernel_rfl) rfl) rfl (fun g w=>.v _ _) fun w _=>Any8.slices_Grow_room Tryz.layGrow none 0 0 0 w (by omega) (by omega) (by omega) (by omega)
def two (x y:List Tm) (i:Nat):List Tm:=if i=0 then x else y
def pre2 (x y:List Tm) (i:Nat):List Tm:=if i=0 then [] else if i=1 then x else x++y
theorem pre2_succ (x y:List Tm) (i:Nat) (h:i<2):pre2 x y (i+1)=pre2 x y i++two x y i:=by
 match i,h with
 | 0,_=>rfl
 | 1,_=>rfl
 | _+2,h=>omega
theorem two_at (x y:List Tm) (i:Nat) (h:i<2):([[sl encTm x],[sl encTm y]]:List (List AV))[((i:Nat):Int).toNat]?=some [sl encTm (two x y i)]:=by
 match i,h with
 | 0,_=>rfl
 | 1,_=>rfl
 | _+2,h=>omega
theorem two_len {x y:List Tm} {n:Nat} (hx:x.length≤n) (hy:y.length≤n) (i:Nat):(two x y i).length≤n:=by
 unfold two; split <;> assumption
theorem pre2_len {x y:List Tm} {n:Nat} (hx:x.length≤n) (hy:y.length≤n) (i:Nat):(pre2 x y i).length≤n+n:=by
 unfold pre2;split
 ·simp
 ·split
  ·omega
  ·rw [List.length_append]; omega
set_option maxHeartbeats 4000000 in
theorem e31n (x y:List Tm) (hx:x.length≤1000) (hy:y.length≤1000) (hz:0<(x++y).length):PC 31 [.slice .none [[sl encTm x],[sl encTm y]]] (sl encTm (x++y)):=by
 refine Ps ⟨[],[],[],[],[],[],[],[],[],[],[2,5,6,9,10,13,15]⟩ Tryz.func31 rfl (Nz rfl) ?_;refine Xi ⟨[(0,.slice .none [[sl encTm x],[sl encTm y]]),(3,vi 0)],[],hfree⟩ (Yi ⟨Z2,Tv,Fh,Tv⟩ ?_)
 refine Xi {i:Nat // i≤2} (Xi (fun q=>⟨[(0,.slice .none [[sl encTm x],[sl encTm y]]),(3,vi (pre2 x y q.1).length),(9,.slice .none [[sl encTm x],[sl encTm y]]),(10,vi 2),(11,vi q.1)],[],hfree⟩) (Xi (fun q=>2 - q.1) (Yi (Xi ⟨0,Nat.zero_le _⟩ ?_) ?_)))
 ·exact ⟨Z5,Tv,Fh,Tv⟩
 intro ⟨i,i1⟩;have i1:i≤2:=i1;have hp2:=pre2_len hx hy i;have ht2:=two_len hx hy i;have hm2:((two x y i).map encTm).length=(two x y i).length:=Lm _;refine Yi (fun h1=>?_) (fun h1=>?_)
 ·have h1:(i:Int)<(2:Int):=h1;refine Xi [sl encTm (two x y i)] (Yi (Yi (show (0:Int)≤(i:Nat) by omega) (two_at x y i (by omega))) (Yi rfl ?_));refine Xi ⟨[(0,.slice .none [[sl encTm x],[sl encTm y]]),(3,vi (pre2 x y i).length),(5,sl encTm (two x y i)),(9,.slice .none [[sl encTm x],[sl encTm y]]),(10,vi 2),(11,vi i)],[],hfree⟩ (Yi ⟨Z6,Tv,Fh,Tv⟩ ?_)
  refine Yi (by show InI64 (((pre2 x y i).length:Int)+(((two x y i).map encTm).length:Int)); unfold InI64; omega) ?_;refine Xi ⟨[(0,.slice .none [[sl encTm x],[sl encTm y]]),(3,vi ((pre2 x y i).length+((two x y i).map encTm).length)),(9,.slice .none [[sl encTm x],[sl encTm y]]),(10,vi 2),(11,vi i)],[],hfree⟩ (Yi ⟨Z5,Tv,Fh,Tv⟩ ?_)
  refine Yi (fun h2=>?_) (fun h2=>?_)
  ·have h2:((pre2 x y i).length+((two x y i).map encTm).length:Int)<(0:Int):=h2;exact absurd h2 (by omega)
  have h2:¬ (((pre2 x y i).length+((two x y i).map encTm).length:Int)<(0:Int)):=h2;refine Yi (Ii i (by omega)) ?_;refine Xi ⟨i+1,by omega⟩ ?_;exact ⟨Dl 2 i (by omega),⟨Zr,⟨(show vi (((pre2 x y i).length:Int)+(((two x y i).map encTm).length:Int))=vi ((pre2 x y (i+1)).length:Nat) by rw [pre2_succ x y i (by omega),List.length_append,Lm]; rfl),rfl⟩,Zr,Zr,Zr,Tv⟩,Tv,Fh,Tv⟩
 have h1:¬ ((i:Int)<(2:Int)):=h1;refine Xi ⟨[(0,.slice .none [[sl encTm x],[sl encTm y]]),(3,vi (pre2 x y i).length)],[],hfree⟩ (Yi ⟨Z2,Tv,Fh,Tv⟩ ?_)
 have hi2:i=2:=by omega
 refine Xi (.gen [] 1) (Yi rfl (ACall.imp (show ACall Tryz.prog 72 [.v (.slice none 0 0),.v (.int .i64 ((pre2 x y i).length:Int))] hfree _ by rw [hi2]; exact e72 (x++y).length hz (by rw [List.length_append]; omega)) ?_));intro v4 g4 q4;have q4a:=q4.1;have q4b:=q4.2;subst q4a;subst q4b;refine Xi ⟨[(0,.slice .none [[sl encTm x],[sl encTm y]]),(6,.slice (.id 12400 3) [])],[(12400,.tok 3 ([]:List (List AV)).length)],hfree⟩ (Yi ⟨Z2,Z1,Fh,Tv⟩ ?_)
 refine Xi {k:Nat // k≤2} (Xi (fun q=>⟨[(6,.slice (.id 12400 3) ((pre2 x y q.1).map encTm)),(25,.slice .none [[sl encTm x],[sl encTm y]]),(26,vi 2),(27,vi q.1)],[(12400,.tok 3 (pre2 x y q.1).length)],hfree⟩) (Xi (fun q=>2 - q.1) (Yi (Xi ⟨0,Nat.zero_le _⟩ ?_) ?_)))
 ·exact ⟨Z4,Z1,Fh,Tv⟩
 intro ⟨k,k1⟩;have k1:k≤2:=k1;have hp3:=pre2_len hx hy k;have ht3:=two_len hx hy k;have hm3:((two x y k).map encTm).length=(two x y k).length:=Lm _;refine Yi (fun h5=>?_) (fun h5=>?_)
 ·have h5:(k:Int)<(2:Int):=h5;refine Xi [sl encTm (two x y k)] (Yi (Yi (show (0:Int)≤(k:Nat) by omega) (two_at x y k (by omega))) (Yi rfl ?_));refine Xi ⟨[(6,.slice (.id 12400 3) ((pre2 x y k).map encTm)),(8,sl encTm (two x y k)),(25,.slice .none [[sl encTm x],[sl encTm y]]),(26,vi 2),(27,vi k)],[(12400,.tok 3 (pre2 x y k).length)],hfree⟩ (Yi ⟨Z5,Z1,Fh,Tv⟩ ?_)
  have b6:AllLen 3 ((two x y k).map encTm)∧((pre2 x y k).map encTm).length=(pre2 x y k).length∧(((pre2 x y k).map encTm).length+((two x y k).map encTm).length)*48≤140737488355328∧((pre2 x y k).map encTm).length+((two x y k).map encTm).length≤9223372036854775807:=⟨(allLen_map (enc:=encTm) (n:=3) (fun _=>rfl) (two x y k)),(by rw [Lm]),(by simp only [Lm]; omega),(by simp only [Lm]; omega)⟩;refine Yi b6 ?_;refine Yi (Ii k (by omega)) ?_;refine Xi ⟨k+1,by omega⟩ ?_;exact ⟨Dl 2 k (by omega),⟨⟨(show AV.slice (.id 12400 3) ((pre2 x y k).map encTm++(two x y k).map encTm)=.slice (.id 12400 3) ((pre2 x y (k+1)).map encTm) by rw [pre2_succ x y k (by omega),List.map_append]),rfl⟩,Zr,Zr,Zr,Tv⟩,⟨⟨(show HO.tok 3 (((pre2 x y k).map encTm).length+((two x y k).map encTm).length)=.tok 3 (pre2 x y (k+1)).length by rw [pre2_succ x y k (by omega),List.length_append,Lm,Lm]),rfl⟩,Tv⟩,Fh,Tv⟩
 have h5:¬ ((k:Int)<(2:Int)):=h5;refine Xi ⟨[(6,.slice (.id 12400 3) ((pre2 x y k).map encTm))],[(12400,.tok 3 (pre2 x y k).length)],hfree⟩ (Yi ⟨Z1,Z1,Fh,Tv⟩ ?_)
 exact .of_eq (show sl encTm (pre2 x y k)=sl encTm (x++y) by rw [show k=2 by omega]; rfl)
set_option maxHeartbeats 4000000 in
theorem e31z (x y:List Tm) (hx:x.length≤1000) (hy:y.length≤1000) (hz:(x++y).length=0):PC 31 [.slice .none [[sl encTm x],[sl encTm y]]] (sl encTm (x++y)):=by
 refine Ps ⟨[],[(6,3)],[],[],[],[],[],[],[],[],[2,5,6,9,10,13,15]⟩ Tryz.func31 rfl (Nz rfl) ?_;refine Xi ⟨[(0,.slice .none [[sl encTm x],[sl encTm y]]),(3,vi 0)],[],hfree⟩ (Yi ⟨Z2,Tv,Fh,Tv⟩ ?_)
 refine Xi {i:Nat // i≤2} (Xi (fun q=>⟨[(0,.slice .none [[sl encTm x],[sl encTm y]]),(3,vi (pre2 x y q.1).length),(9,.slice .none [[sl encTm x],[sl encTm y]]),(10,vi 2),(11,vi q.1)],[],hfree⟩) (Xi (fun q=>2 - q.1) (Yi (Xi ⟨0,Nat.zero_le _⟩ ?_) ?_)))
 ·exact ⟨Z5,Tv,Fh,Tv⟩
 intro ⟨i,i1⟩;have i1:i≤2:=i1;have hp2:=pre2_len hx hy i;have ht2:=two_len hx hy i;have hm2:((two x y i).map encTm).length=(two x y i).length:=Lm _;refine Yi (fun h1=>?_) (fun h1=>?_)
 ·have h1:(i:Int)<(2:Int):=h1;refine Xi [sl encTm (two x y i)] (Yi (Yi (show (0:Int)≤(i:Nat) by omega) (two_at x y i (by omega))) (Yi rfl ?_));refine Xi ⟨[(0,.slice .none [[sl encTm x],[sl encTm y]]),(3,vi (pre2 x y i).length),(5,sl encTm (two x y i)),(9,.slice .none [[sl encTm x],[sl encTm y]]),(10,vi 2),(11,vi i)],[],hfree⟩ (Yi ⟨Z6,Tv,Fh,Tv⟩ ?_)
  refine Yi (by show InI64 (((pre2 x y i).length:Int)+(((two x y i).map encTm).length:Int)); unfold InI64; omega) ?_;refine Xi ⟨[(0,.slice .none [[sl encTm x],[sl encTm y]]),(3,vi ((pre2 x y i).length+((two x y i).map encTm).length)),(9,.slice .none [[sl encTm x],[sl encTm y]]),(10,vi 2),(11,vi i)],[],hfree⟩ (Yi ⟨Z5,Tv,Fh,Tv⟩ ?_)
  refine Yi (fun h2=>?_) (fun h2=>?_)
  ·have h2:((pre2 x y i).length+((two x y i).map encTm).length:Int)<(0:Int):=h2;exact absurd h2 (by omega)
  have h2:¬ (((pre2 x y i).length+((two x y i).map encTm).length:Int)<(0:Int)):=h2;refine Yi (Ii i (by omega)) ?_;refine Xi ⟨i+1,by omega⟩ ?_;exact ⟨Dl 2 i (by omega),⟨Zr,⟨(show vi (((pre2 x y i).length:Int)+(((two x y i).map encTm).length:Int))=vi ((pre2 x y (i+1)).length:Nat) by rw [pre2_succ x y i (by omega),List.length_append,Lm]; rfl),rfl⟩,Zr,Zr,Zr,Tv⟩,Tv,Fh,Tv⟩
 have h1:¬ ((i:Int)<(2:Int)):=h1;refine Xi ⟨[(0,.slice .none [[sl encTm x],[sl encTm y]]),(3,vi (pre2 x y i).length)],[],hfree⟩ (Yi ⟨Z2,Tv,Fh,Tv⟩ ?_)
 have hi2:i=2:=by omega
 refine Xi .pure (Xi _ (Yi (show PC 72 [.v (.slice none 0 0),vi ((pre2 x y i).length:Nat)] (.v (.slice none 0 0)) by rw [hi2]; show PC 72 [.v (.slice none 0 0),vi (((x++y).length:Nat):Int)] _; rw [hz]; exact e72z) ?_));refine Xi ⟨[(0,.slice .none [[sl encTm x],[sl encTm y]]),(6,.slice (.id 6 3) [])],[(6,.tok 3 0)],hfree⟩ (Yi ⟨Z2,Z1,Fh,Tv⟩ ?_)
 refine Xi {k:Nat // k≤2} (Xi (fun q=>⟨[(6,.slice (.id 6 3) ((pre2 x y q.1).map encTm)),(25,.slice .none [[sl encTm x],[sl encTm y]]),(26,vi 2),(27,vi q.1)],[(6,.tok 3 (pre2 x y q.1).length)],hfree⟩) (Xi (fun q=>2 - q.1) (Yi (Xi ⟨0,Nat.zero_le _⟩ ?_) ?_)))
 ·exact ⟨Z4,Z1,Fh,Tv⟩
 intro ⟨k,k1⟩;have k1:k≤2:=k1;have hp3:=pre2_len hx hy k;have ht3:=two_len hx hy k;have hm3:((two x y k).map encTm).length=(two x y k).length:=Lm _;refine Yi (fun h4=>?_) (fun h4=>?_)
 ·have h4:(k:Int)<(2:Int):=h4;refine Xi [sl encTm (two x y k)] (Yi (Yi (show (0:Int)≤(k:Nat) by omega) (two_at x y k (by omega))) (Yi rfl ?_));refine Xi ⟨[(6,.slice (.id 6 3) ((pre2 x y k).map encTm)),(8,sl encTm (two x y k)),(25,.slice .none [[sl encTm x],[sl encTm y]]),(26,vi 2),(27,vi k)],[(6,.tok 3 (pre2 x y k).length)],hfree⟩ (Yi ⟨Z5,Z1,Fh,Tv⟩ ?_)
  have b5:AllLen 3 ((two x y k).map encTm)∧((pre2 x y k).map encTm).length=(pre2 x y k).length∧(((pre2 x y k).map encTm).length+((two x y k).map encTm).length)*48≤140737488355328∧((pre2 x y k).map encTm).length+((two x y k).map encTm).length≤9223372036854775807:=⟨(allLen_map (enc:=encTm) (n:=3) (fun _=>rfl) (two x y k)),(by rw [Lm]),(by simp only [Lm]; omega),(by simp only [Lm]; omega)⟩;refine Yi b5 ?_;refine Yi (Ii k (by omega)) ?_;refine Xi ⟨k+1,by omega⟩ ?_;exact ⟨Dl 2 k (by omega),⟨⟨(show AV.slice (.id 6 3) ((pre2 x y k).map encTm++(two x y k).map encTm)=.slice (.id 6 3) ((pre2 x y (k+1)).map encTm) by rw [pre2_succ x y k (by omega),List.map_append]),rfl⟩,Zr,Zr,Zr,Tv⟩,⟨⟨(show HO.tok 3 (((pre2 x y k).map encTm).length+((two x y k).map encTm).length)=.tok 3 (pre2 x y (k+1)).length by rw [pre2_succ x y k (by omega),List.length_append,Lm,Lm]),rfl⟩,Tv⟩,Fh,Tv⟩
 have h4:¬ ((k:Int)<(2:Int)):=h4;refine Xi ⟨[(6,.slice (.id 6 3) ((pre2 x y k).map encTm))],[(6,.tok 3 (pre2 x y k).length)],hfree⟩ (Yi ⟨Z1,Z1,Fh,Tv⟩ ?_)
 exact .of_eq (show sl encTm (pre2 x y k)=sl encTm (x++y) by rw [show k=2 by omega]; rfl)
theorem e31 (x y:List Tm) (hx:x.length≤1000) (hy:y.length≤1000):PC 31 [.slice .none [[sl encTm x],[sl encTm y]]] (sl encTm (x++y)) :=
 (Nat.eq_zero_or_pos (x++y).length).elim (e31z x y hx hy) (e31n x y hx hy)
end Go.Eng

namespace Go.Eng
open Go.Proofs

end Go.Eng

namespace Go.Eng
open Go.Proofs

end Go.Eng

namespace Go.Eng
open Go.Proofs
end Go.Eng

namespace Go.Eng
open Go.Proofs
end Go.Eng

namespace Go.Eng
open Go.Proofs
end Go.Eng

namespace Go.Eng
open Go.Proofs
end Go.Eng

namespace Go.Eng
open Go.Proofs
end Go.Eng

namespace Go.Eng
open Go.Proofs
end Go.Eng

namespace Go.Eng
open Go.Proofs
end Go.Eng

namespace Go.Eng
open Go.Proofs
end Go.Eng

namespace Go.Eng
open Go.Proofs
end Go.Eng

namespace Go.Eng
open Go.Proofs
end Go.Eng

namespace Go.Eng
open Go.Proofs
end Go.Eng

namespace Go.Eng
open Go.Proofs
end Go.Eng

namespace Go.Eng
open Go.Proofs
end Go.Eng

namespace Go.Eng
open Go.Proofs
end Go.Eng

namespace Go.Eng
open Go.Proofs
end Go.Eng

namespace Go.Eng
open Go.Proofs
end Go.Eng

namespace Go.Eng
open Go.Proofs
end Go.Eng

namespace Go.Eng
open Go.Proofs
end Go.Eng

namespace Go.Eng
open Go.Proofs
end Go.Eng

namespace Go.Eng
open Go.Proofs
end Go.Eng

namespace Go.Eng
open Go.Proofs
end Go.Eng

namespace Go.Eng
open Go.Proofs
end Go.Eng

namespace Go.Eng
open Go.Proofs
end Go.Eng

namespace Go.Eng
open Go.Proofs
end Go.Eng

namespace Go.Eng
open Go.Proofs
end Go.Eng

namespace Go.Eng
open Go.Proofs
end Go.Eng

namespace Go.Eng
open Go.Proofs

end Go.Eng

namespace Go.Eng
open Go.Proofs
end Go.Eng

namespace Go.Eng
open Go.Proofs
end Go.Eng

namespace Go.Eng
open Go.Proofs
end Go.Eng

namespace Go.Eng
open Go.Proofs
end Go.Eng

namespace Go.Eng
open Go.Proofs
end Go.Eng

namespace Go.Eng
open Go.Proofs
theorem take_all {α:Type} {l:List α} {p:α→Prop} {i:Nat} (h:i<l.length) (h1:∀ t ∈ l.take i,p t) (h2:p l[i]):∀ t ∈ l.take (i+1),p t:=fun t ht=>by
 rw [List.take_succ_eq_append_getElem h] at ht;rcases List.mem_append.1 ht with ht | ht
 ·exact h1 t ht
 ·rw [List.mem_singleton.1 ht]; exact h2
def smallT (l:List Tm):Bool:=decide (l.length≤12∧∀ t ∈ l,t.path.size≤100∧t.set.length≤12)
theorem smallT_yes {l:List Tm} (h:smallT l=true):l.length≤12∧∀ t ∈ l,t.path.size≤100∧t.set.length≤12:=of_decide_eq_true h
theorem e12 (l:List Tm) (hl:Few l):PC 12 [sl encTm l] (vb (smallT l)):=by
 have hl:l.length≤1073741824:=hl;refine Ps ⟨[],[],[],[],[],[],[],[],[],[],[3,5]⟩ Tryz.func12 rfl (Nz rfl) ?_;refine Xi {i:Nat // i≤l.length∧∀ t ∈ l.take i,t.path.size≤100∧t.set.length≤12} (Xi (fun q=>⟨[(0,sl encTm l),(3,vi q.1)],[],hfree⟩) (Xi (fun q=>l.length - q.1) (Yi (Xi ⟨0,Nat.zero_le _,fun t h=>by simp at h⟩ ?_) ?_)))
 ·exact ⟨Z2,Tv,Fh,Tv⟩
 intro ⟨i,i1,i2⟩;have i1:i≤l.length:=i1;have i2:∀ t ∈ l.take i,t.path.size≤100∧t.set.length≤12:=i2;refine Yi (fun h1=>?_) (fun h1=>?_)
 ·have h1:(i:Int)<((l.map encTm).length:Int):=h1;have n1:i<l.length:=by have q:=h1; rw [Lm] at q; omega
  have g1:l[i]?=some l[i]:=Ge n1;refine Xi (encTm l[i]) (Yi (Yi (Nn i) (map_at g1)) (Yi rfl ?_));refine Yi (fun h2=>?_) (fun h2=>?_)
  ·have h2:(100:Int)<(l[i].path.size:Int):=h2;refine Xi ⟨[],[],hfree⟩ (Yi ⟨Tv,Tv,Fh,Tv⟩ ?_)
   exact .of_eq (show vb false=vb (smallT l) by unfold smallT; rw [decide_eq_false (fun h=>by have q:=h.2 l[i] (List.getElem_mem n1); have q1:=h2; (try rw [Lm] at q1); omega)])
  have h2:¬ ((100:Int)<(l[i].path.size:Int)):=h2;refine Xi (encTm l[i]) (Yi (Yi (Nn i) (map_at g1)) (Yi rfl ?_));refine Yi (fun h4=>?_) (fun h4=>?_)
  ·have h4:(12:Int)<((l[i].set.map encSpan).length:Int):=h4;have n4:12<l[i].set.length:=by have q:=h4; rw [Lm] at q; omega
   refine Xi ⟨[],[],hfree⟩ (Yi ⟨Tv,Tv,Fh,Tv⟩ ?_)
   exact .of_eq (show vb false=vb (smallT l) by unfold smallT; rw [decide_eq_false (fun h=>by have q:=h.2 l[i] (List.getElem_mem n1); have q1:=h4; (try rw [Lm] at q1); omega)])
  have h4:¬ ((12:Int)<((l[i].set.map encSpan).length:Int)):=h4;have n4:¬ 12<l[i].set.length:=by have q:=h4; rw [Lm] at q; omega
  refine Xi ⟨[(0,sl encTm l),(3,vi i)],[],hfree⟩ (Yi ⟨Z2,Tv,Fh,Tv⟩ ?_)
  refine Yi (Ii i (by omega)) ?_;have htk:∀ t ∈ l.take (i+1),t.path.size≤100∧t.set.length≤12:=take_all n1 i2 (by have q1:=h2; have q2:=h4; rw [Lm] at q2; omega);refine Xi ⟨i+1,by omega,htk⟩ ?_;exact ⟨Dl l.length i (by omega),Z2,Tv,Fh,Tv⟩
 have h1:¬ ((i:Int)<((l.map encTm).length:Int)):=h1;have n1:¬ i<l.length:=by have q:=h1; rw [Lm] at q; omega
 refine Yi (fun h7=>?_) (fun h7=>?_)
 ·have h7:((l.map encTm).length:Int)≤(12:Int):=h7;exact .of_eq (show vb true=vb (smallT l) by unfold smallT; rw [decide_eq_true ⟨by have q:=h7; rw [Lm] at q; omega,fun t ht=>i2 t (by rw [List.take_of_length_le (by omega)]; exact ht)⟩])
 have h7:¬ (((l.map encTm).length:Int)≤(12:Int)):=h7;exact .of_eq (show vb false=vb (smallT l) by unfold smallT; rw [decide_eq_false (fun h=>by have q:=h.1; have q1:=h7; rw [Lm] at q1; omega)])
end Go.Eng

namespace Go.Eng
open Go.Proofs
theorem lnE_ok {p:ByteArray} (h:lnE p=0):(pathMajor p).isSome=true:=by
 unfold lnE at h;cases e:pathMajor p with
 | none=>rw [e] at h; cases h
 | some m=>rfl
theorem small_fewT {l:List Tm} (h:smallT l=true):l.length≤12∧(∀ t ∈ l,Few t.set)∧∀ t ∈ l,FewP t.path:=by
 obtain ⟨h1,h2⟩:=smallT_yes h;exact ⟨h1,fun t ht=>by unfold Few; have:=(h2 t ht).2; omega,fun t ht=>by unfold FewP; have:=(h2 t ht).1; omega⟩
theorem ofT_facts {l:List Tm} (h:smallT l=true):(ofT l).length≤12∧(∀ t ∈ ofT l,FewP t.path)∧∀ t ∈ ofT l,Few t.set:=by
 obtain ⟨h1,h2,h3⟩:=small_fewT h;cases e:canonT l with
 | none=>unfold ofT; rw [e]; exact ⟨Nat.zero_le _,fun t ht=>(by cases ht),fun t ht=>(by cases ht)⟩
 | some c =>
  have ec:ofT l=c:=by unfold ofT; rw [e]; rfl
  rw [ec];refine ⟨Nat.le_trans (canT_len e) h1,fun t ht=>?_,fun t ht=>few_can ((canonT_sorted e).canon t ht)⟩;obtain ⟨u,hu,eu⟩:=canonT_paths e t ht;rw [eu]; exact h3 u hu
theorem dist_iff {a b:List Tm} (h:∀ t ∈ ofT a++ofT b,(pathMajor t.path).isSome=true):incText a=incText b↔canonT a=canonT b :=
 distinct_ok (fun c hc t ht=>h t (List.mem_append_left _ (by unfold ofT; rw [hc]; exact ht))) (fun c hc t ht=>h t (List.mem_append_right _ (by unfold ofT; rw [hc]; exact ht)))
theorem canon_both {a b:List Tm} (ha:(canonT a).isSome=true) (hb:(canonT b).isSome=true):canonT a=canonT b↔ofT a=ofT b:=by
 rw [ofT_mem ha,ofT_mem hb];exact ⟨fun h=>Option.some.inj h,fun h=>by rw [h]⟩
set_option maxHeartbeats 4000000 in
theorem e7 (a b:List Tm) (ha:Few a) (hb:Few b):PC 7 [sl encTm a,sl encTm b] (vb true):=by
 have ka:=e12 a ha;have kb:=e12 b hb;obtain ⟨X,hX⟩ : ∃ x,x=ofT a:=⟨_,rfl⟩;obtain ⟨Y,hY⟩ : ∃ x,x=ofT b:=⟨_,rfl⟩;refine Ps ⟨[],[],[],[],[],[],[],[],[],[],[3,5,6,7,10,14,15,16]⟩ Tryz.func7 rfl (Nz rfl) ?_;refine Xi .pure (Xi _ (Yi e11 ?_));refine Xi ⟨[(0,sl encTm a),(1,sl encTm b)],[],hfree⟩ (Yi ⟨Z2,Tv,Fh,Tv⟩ ?_)
 refine Or.elim (Bt (smallT a)) (fun h1=>?_) (fun h1=>?_)
 ·have h1:(smallT a)=true:=h1;have hc2:=ka;rw [show (smallT a)=true from h1] at hc2;refine Xi .pure (Xi _ (Yi hc2 ?_));refine Or.elim (Bt (smallT b)) (fun h3=>?_) (fun h3=>?_)
  ·have h3:(smallT b)=true:=h3;obtain ⟨a1,a2,a3⟩:=small_fewT h1;obtain ⟨b1,b2,b3⟩:=small_fewT h3;obtain ⟨a4,a5,a6⟩:=ofT_facts h1;obtain ⟨b4,b5,b6⟩:=ofT_facts h3;rw [← hX] at a4 a5 a6;rw [← hY] at b4 b5 b6;have ca:=c29 a ha a2;have cb:=c29 b hb b2;unfold canRes at ca cb;rw [← hX] at ca;rw [← hY] at cb;have ta:=e15 a (by omega) a2 a3;have tb:=e15 b (by omega) b2 b3;obtain ⟨TA,hTA⟩ : ∃ t,t=incText a:=⟨_,rfl⟩;obtain ⟨TB,hTB⟩ : ∃ t,t=incText b:=⟨_,rfl⟩;rw [← hTA] at ta;rw [← hTB] at tb;have k31:=e31 X Y (by omega) (by omega);have kS:=c39 X Y ⟨by unfold Few; omega,a6⟩;have hxl:(X++Y).length≤24:=by rw [List.length_append]; omega
   have hxp:∀ t ∈ X++Y,FewP t.path:=fun t ht=>by
    rcases List.mem_append.1 ht with h | h
    ·exact a5 t h
    ·exact b5 t h
   have hc4:=kb;rw [show (smallT b)=true from h3] at hc4;refine Xi .pure (Xi _ (Yi hc4 ?_));refine Xi ⟨[(0,sl encTm a),(1,sl encTm b)],[],hfree⟩ (Yi ⟨Z2,Tv,Fh,Tv⟩ ?_)
   refine Or.elim (Bt (canonT a).isSome) (fun h5=>?_) (fun h5=>?_)
   ·have h5:(canonT a).isSome=true:=h5;have hc6:=ca;rw [show (canonT a).isSome=true from h5] at hc6;refine Xi .pure (Xi _ (Yi hc6 ?_));refine Xi ⟨[(0,sl encTm a),(1,sl encTm b),(5,sl encTm X),(6,vb true)],[],hfree⟩ (Yi ⟨Z4,Tv,Fh,Tv⟩ ?_)
    refine Or.elim (Bt (canonT b).isSome) (fun h7=>?_) (fun h7=>?_)
    ·have h7:(canonT b).isSome=true:=h7;have hc8:=cb;rw [show (canonT b).isSome=true from h7] at hc8;refine Xi .pure (Xi _ (Yi hc8 ?_));refine Xi ⟨[(0,sl encTm a),(1,sl encTm b),(5,sl encTm X),(6,vb true),(7,sl encTm Y),(8,vb true)],[],hfree⟩ (Yi ⟨Z6,Tv,Fh,Tv⟩ ?_)
     refine Xi .pure (Xi _ (Yi k31 ?_));refine Xi {i:Nat // i≤(X++Y).length∧∀ t ∈ (X++Y).take i,(pathMajor t.path).isSome=true} (Xi (fun q=>⟨[(0,sl encTm a),(1,sl encTm b),(5,sl encTm X),(6,vb true),(7,sl encTm Y),(8,vb true),(37,sl encTm (X++Y)),(38,vi ((X++Y).map encTm).length),(39,vi q.1)],[],hfree⟩) (Xi (fun q=>(X++Y).length - q.1) (Yi (Xi ⟨0,Nat.zero_le _,fun t h=>by simp at h⟩ ?_) ?_)))
     ·exact ⟨Z9,Tv,Fh,Tv⟩
     intro ⟨i,i1,i2⟩;have i1:i≤(X++Y).length:=i1;have i2:∀ t ∈ (X++Y).take i,(pathMajor t.path).isSome=true:=i2;refine Yi (fun h9=>?_) (fun h9=>?_)
     ·have h9:(i:Int)<(((X++Y).map encTm).length:Int):=h9;have n9:i<(X++Y).length:=by have q:=h9; rw [Lm] at q; omega
      have g9:(X++Y)[i]?=some (X++Y)[i]:=Ge n9;refine Xi (encTm ((X++Y)[i])) (Yi (Yi (Nn i) (map_at g9)) (Yi rfl ?_));refine Yi (Nz rfl) ?_;refine Yi (Nz rfl) ?_;refine Xi ⟨[(0,sl encTm a),(1,sl encTm b),(5,sl encTm X),(6,vb true),(7,sl encTm Y),(8,vb true),(10,.ref 10 0),(37,sl encTm (X++Y)),(38,vi ((X++Y).map encTm).length),(39,vi i)],[(10,.cells (encTm ((X++Y)[i])))],hfree⟩ (Yi ⟨Z10,Z1,Fh,Tv⟩ ?_)
      refine Xi .pure (Xi _ (Yi (e32 (X++Y)[i].path (hxp _ (List.getElem_mem n9)).s) ?_));refine Yi (fun h10=>?_) (fun h10=>?_)
      ·have h10:((lnE (X++Y)[i].path):Int)≠(0:Int):=h10;exact .refl _
      have h10:((lnE (X++Y)[i].path):Int)=(0:Int):=Classical.byContradiction h10;refine Yi (Ii i (by omega)) ?_;refine Xi ⟨i+1,by omega,take_all n9 i2 (lnE_ok h10)⟩ ?_;exact ⟨by show (X++Y).length - (i+1)<(X++Y).length - i; omega,Z9,Tv,Fh,Tv⟩
     have h9:¬ ((i:Int)<(((X++Y).map encTm).length:Int)):=h9;have n9:¬ i<(X++Y).length:=by have q:=h9; rw [Lm] at q; omega
     refine Xi ⟨[(0,sl encTm a),(1,sl encTm b),(5,sl encTm X),(6,vb true),(7,sl encTm Y),(8,vb true)],[],hfree⟩ (Yi ⟨Z6,Tv,Fh,Tv⟩ ?_)
     refine Xi ⟨[(0,sl encTm a),(1,sl encTm b),(5,sl encTm X),(7,sl encTm Y)],[],hfree⟩ (Yi ⟨Z4,Tv,Fh,Tv⟩ ?_)
     refine Xi .pure (Xi _ (Yi ta ?_));refine Xi .pure (Xi _ (Yi tb ?_));refine Yi (fun h13=>?_) (fun h13=>?_)
     ·have h13:(TA:ByteArray)=TB:=h13;refine Or.elim (Bt (decide (X=Y))) (fun h14=>?_) (fun h14=>?_)
      ·have h14:(decide (X=Y))=true:=h14;have hc15:=kS;rw [show (decide (X=Y))=true from h14] at hc15;refine Xi .pure (Xi _ (Yi hc15 ?_));exact .refl _
      have h14:(decide (X=Y))=false:=h14;have hc17:=kS;rw [show (decide (X=Y))=false from h14] at hc17;refine Xi .pure (Xi _ (Yi hc17 ?_));have hall:∀ t ∈ ofT a++ofT b,(pathMajor t.path).isSome=true:=fun t ht=>i2 t (by rw [List.take_of_length_le (by omega),hX,hY]; exact ht);have hd:=dist_iff hall;rw [← hTA,← hTB] at hd
      exfalso
      have hcb:=canon_both h5 h7;rw [← hX,← hY] at hcb;exact absurd (decide_eq_true (hcb.1 (hd.1 h13))) (by rw [h14]; decide)
     have h13:¬ (TA:ByteArray)=TB:=h13;refine Or.elim (Bt (decide (X=Y))) (fun h19=>?_) (fun h19=>?_)
     ·have h19:(decide (X=Y))=true:=h19;have hc20:=kS;rw [show (decide (X=Y))=true from h19] at hc20;refine Xi .pure (Xi _ (Yi hc20 ?_));have hall:∀ t ∈ ofT a++ofT b,(pathMajor t.path).isSome=true:=fun t ht=>i2 t (by rw [List.take_of_length_le (by omega),hX,hY]; exact ht);have hd:=dist_iff hall;rw [← hTA,← hTB] at hd
      exfalso
      have hcb:=canon_both h5 h7;rw [← hX,← hY] at hcb;exact absurd (hd.2 (hcb.2 (of_decide_eq_true h19))) h13
     have h19:(decide (X=Y))=false:=h19;have hc22:=kS;rw [show (decide (X=Y))=false from h19] at hc22;refine Xi .pure (Xi _ (Yi hc22 ?_));exact .refl _
    have h7:(canonT b).isSome=false:=h7;have hc24:=cb;rw [show (canonT b).isSome=false from h7] at hc24;refine Xi .pure (Xi _ (Yi hc24 ?_));refine Xi ⟨[(0,sl encTm a),(1,sl encTm b),(5,sl encTm X),(6,vb true),(7,sl encTm Y),(8,vb false)],[],hfree⟩ (Yi ⟨Z6,Tv,Fh,Tv⟩ ?_)
    refine Xi .pure (Xi _ (Yi k31 ?_));refine Xi {i:Nat // i≤(X++Y).length∧∀ t ∈ (X++Y).take i,(pathMajor t.path).isSome=true} (Xi (fun q=>⟨[(0,sl encTm a),(1,sl encTm b),(5,sl encTm X),(6,vb true),(7,sl encTm Y),(8,vb false),(37,sl encTm (X++Y)),(38,vi ((X++Y).map encTm).length),(39,vi q.1)],[],hfree⟩) (Xi (fun q=>(X++Y).length - q.1) (Yi (Xi ⟨0,Nat.zero_le _,fun t h=>by simp at h⟩ ?_) ?_)))
    ·exact ⟨Z9,Tv,Fh,Tv⟩
    intro ⟨i,i1,i2⟩;have i1:i≤(X++Y).length:=i1;have i2:∀ t ∈ (X++Y).take i,(pathMajor t.path).isSome=true:=i2;refine Yi (fun h25=>?_) (fun h25=>?_)
    ·have h25:(i:Int)<(((X++Y).map encTm).length:Int):=h25;have n25:i<(X++Y).length:=by have q:=h25; rw [Lm] at q; omega
     have g25:(X++Y)[i]?=some (X++Y)[i]:=Ge n25;refine Xi (encTm ((X++Y)[i])) (Yi (Yi (Nn i) (map_at g25)) (Yi rfl ?_));refine Yi (Nz rfl) ?_;refine Yi (Nz rfl) ?_;refine Xi ⟨[(0,sl encTm a),(1,sl encTm b),(5,sl encTm X),(6,vb true),(7,sl encTm Y),(8,vb false),(10,.ref 10 0),(37,sl encTm (X++Y)),(38,vi ((X++Y).map encTm).length),(39,vi i)],[(10,.cells (encTm ((X++Y)[i])))],hfree⟩ (Yi ⟨Z10,Z1,Fh,Tv⟩ ?_)
     refine Xi .pure (Xi _ (Yi (e32 (X++Y)[i].path (hxp _ (List.getElem_mem n25)).s) ?_));refine Yi (fun h26=>?_) (fun h26=>?_)
     ·have h26:((lnE (X++Y)[i].path):Int)≠(0:Int):=h26;exact .refl _
     have h26:((lnE (X++Y)[i].path):Int)=(0:Int):=Classical.byContradiction h26;refine Yi (Ii i (by omega)) ?_;refine Xi ⟨i+1,by omega,take_all n25 i2 (lnE_ok h26)⟩ ?_;exact ⟨by show (X++Y).length - (i+1)<(X++Y).length - i; omega,Z9,Tv,Fh,Tv⟩
    have h25:¬ ((i:Int)<(((X++Y).map encTm).length:Int)):=h25;have n25:¬ i<(X++Y).length:=by have q:=h25; rw [Lm] at q; omega
    refine Xi ⟨[(0,sl encTm a),(1,sl encTm b),(5,sl encTm X),(6,vb true),(7,sl encTm Y),(8,vb false)],[],hfree⟩ (Yi ⟨Z6,Tv,Fh,Tv⟩ ?_)
    refine Xi ⟨[(0,sl encTm a),(1,sl encTm b),(6,vb true),(8,vb false)],[],hfree⟩ (Yi ⟨Z4,Tv,Fh,Tv⟩ ?_)
    refine Xi .pure (Xi _ (Yi ta ?_));refine Xi .pure (Xi _ (Yi tb ?_));refine Yi (fun h29=>?_) (fun h29=>?_)
    ·have h29:(TA:ByteArray)=TB:=h29;have hall:∀ t ∈ ofT a++ofT b,(pathMajor t.path).isSome=true:=fun t ht=>i2 t (by rw [List.take_of_length_le (by omega),hX,hY]; exact ht);have hd:=dist_iff hall;rw [← hTA,← hTB] at hd
     exfalso
     have hq:=hd.1 h29;have q1:=h5; have q2:=h7; rw [hq] at q1; rw [q1] at q2; cases q2
    have h29:¬ (TA:ByteArray)=TB:=h29;exact .refl _
   have h5:(canonT a).isSome=false:=h5;have hc32:=ca;rw [show (canonT a).isSome=false from h5] at hc32;refine Xi .pure (Xi _ (Yi hc32 ?_));refine Xi ⟨[(0,sl encTm a),(1,sl encTm b),(5,sl encTm X),(6,vb false)],[],hfree⟩ (Yi ⟨Z4,Tv,Fh,Tv⟩ ?_)
   refine Or.elim (Bt (canonT b).isSome) (fun h33=>?_) (fun h33=>?_)
   ·have h33:(canonT b).isSome=true:=h33;have hc34:=cb;rw [show (canonT b).isSome=true from h33] at hc34;refine Xi .pure (Xi _ (Yi hc34 ?_));refine Xi ⟨[(0,sl encTm a),(1,sl encTm b),(5,sl encTm X),(6,vb false),(7,sl encTm Y),(8,vb true)],[],hfree⟩ (Yi ⟨Z6,Tv,Fh,Tv⟩ ?_)
    refine Xi .pure (Xi _ (Yi k31 ?_));refine Xi {i:Nat // i≤(X++Y).length∧∀ t ∈ (X++Y).take i,(pathMajor t.path).isSome=true} (Xi (fun q=>⟨[(0,sl encTm a),(1,sl encTm b),(5,sl encTm X),(6,vb false),(7,sl encTm Y),(8,vb true),(37,sl encTm (X++Y)),(38,vi ((X++Y).map encTm).length),(39,vi q.1)],[],hfree⟩) (Xi (fun q=>(X++Y).length - q.1) (Yi (Xi ⟨0,Nat.zero_le _,fun t h=>by simp at h⟩ ?_) ?_)))
    ·exact ⟨Z9,Tv,Fh,Tv⟩
    intro ⟨i,i1,i2⟩;have i1:i≤(X++Y).length:=i1;have i2:∀ t ∈ (X++Y).take i,(pathMajor t.path).isSome=true:=i2;refine Yi (fun h35=>?_) (fun h35=>?_)
    ·have h35:(i:Int)<(((X++Y).map encTm).length:Int):=h35;have n35:i<(X++Y).length:=by have q:=h35; rw [Lm] at q; omega
     have g35:(X++Y)[i]?=some (X++Y)[i]:=Ge n35;refine Xi (encTm ((X++Y)[i])) (Yi (Yi (Nn i) (map_at g35)) (Yi rfl ?_));refine Yi (Nz rfl) ?_;refine Yi (Nz rfl) ?_;refine Xi ⟨[(0,sl encTm a),(1,sl encTm b),(5,sl encTm X),(6,vb false),(7,sl encTm Y),(8,vb true),(10,.ref 10 0),(37,sl encTm (X++Y)),(38,vi ((X++Y).map encTm).length),(39,vi i)],[(10,.cells (encTm ((X++Y)[i])))],hfree⟩ (Yi ⟨Z10,Z1,Fh,Tv⟩ ?_)
     refine Xi .pure (Xi _ (Yi (e32 (X++Y)[i].path (hxp _ (List.getElem_mem n35)).s) ?_));refine Yi (fun h36=>?_) (fun h36=>?_)
     ·have h36:((lnE (X++Y)[i].path):Int)≠(0:Int):=h36;exact .refl _
     have h36:((lnE (X++Y)[i].path):Int)=(0:Int):=Classical.byContradiction h36;refine Yi (Ii i (by omega)) ?_;refine Xi ⟨i+1,by omega,take_all n35 i2 (lnE_ok h36)⟩ ?_;exact ⟨by show (X++Y).length - (i+1)<(X++Y).length - i; omega,Z9,Tv,Fh,Tv⟩
    have h35:¬ ((i:Int)<(((X++Y).map encTm).length:Int)):=h35;have n35:¬ i<(X++Y).length:=by have q:=h35; rw [Lm] at q; omega
    refine Xi ⟨[(0,sl encTm a),(1,sl encTm b),(5,sl encTm X),(6,vb false),(7,sl encTm Y),(8,vb true)],[],hfree⟩ (Yi ⟨Z6,Tv,Fh,Tv⟩ ?_)
    refine Xi ⟨[(0,sl encTm a),(1,sl encTm b),(6,vb false),(8,vb true)],[],hfree⟩ (Yi ⟨Z4,Tv,Fh,Tv⟩ ?_)
    refine Xi .pure (Xi _ (Yi ta ?_));refine Xi .pure (Xi _ (Yi tb ?_));refine Yi (fun h39=>?_) (fun h39=>?_)
    ·have h39:(TA:ByteArray)=TB:=h39;have hall:∀ t ∈ ofT a++ofT b,(pathMajor t.path).isSome=true:=fun t ht=>i2 t (by rw [List.take_of_length_le (by omega),hX,hY]; exact ht);have hd:=dist_iff hall;rw [← hTA,← hTB] at hd
     exfalso
     have hq:=hd.1 h39;have q1:=h5; have q2:=h33; rw [hq] at q1; rw [q1] at q2; cases q2
    have h39:¬ (TA:ByteArray)=TB:=h39;exact .refl _
   have h33:(canonT b).isSome=false:=h33;have hc42:=cb;rw [show (canonT b).isSome=false from h33] at hc42;refine Xi .pure (Xi _ (Yi hc42 ?_));refine Xi ⟨[(0,sl encTm a),(1,sl encTm b),(5,sl encTm X),(6,vb false),(7,sl encTm Y),(8,vb false)],[],hfree⟩ (Yi ⟨Z6,Tv,Fh,Tv⟩ ?_)
   refine Xi .pure (Xi _ (Yi k31 ?_));refine Xi {i:Nat // i≤(X++Y).length∧∀ t ∈ (X++Y).take i,(pathMajor t.path).isSome=true} (Xi (fun q=>⟨[(0,sl encTm a),(1,sl encTm b),(5,sl encTm X),(6,vb false),(7,sl encTm Y),(8,vb false),(37,sl encTm (X++Y)),(38,vi ((X++Y).map encTm).length),(39,vi q.1)],[],hfree⟩) (Xi (fun q=>(X++Y).length - q.1) (Yi (Xi ⟨0,Nat.zero_le _,fun t h=>by simp at h⟩ ?_) ?_)))
   ·exact ⟨Z9,Tv,Fh,Tv⟩
   intro ⟨i,i1,i2⟩;have i1:i≤(X++Y).length:=i1;have i2:∀ t ∈ (X++Y).take i,(pathMajor t.path).isSome=true:=i2;refine Yi (fun h43=>?_) (fun h43=>?_)
   ·have h43:(i:Int)<(((X++Y).map encTm).length:Int):=h43;have n43:i<(X++Y).length:=by have q:=h43; rw [Lm] at q; omega
    have g43:(X++Y)[i]?=some (X++Y)[i]:=Ge n43;refine Xi (encTm ((X++Y)[i])) (Yi (Yi (Nn i) (map_at g43)) (Yi rfl ?_));refine Yi (Nz rfl) ?_;refine Yi (Nz rfl) ?_;refine Xi ⟨[(0,sl encTm a),(1,sl encTm b),(5,sl encTm X),(6,vb false),(7,sl encTm Y),(8,vb false),(10,.ref 10 0),(37,sl encTm (X++Y)),(38,vi ((X++Y).map encTm).length),(39,vi i)],[(10,.cells (encTm ((X++Y)[i])))],hfree⟩ (Yi ⟨Z10,Z1,Fh,Tv⟩ ?_)
    refine Xi .pure (Xi _ (Yi (e32 (X++Y)[i].path (hxp _ (List.getElem_mem n43)).s) ?_));refine Yi (fun h44=>?_) (fun h44=>?_)
    ·have h44:((lnE (X++Y)[i].path):Int)≠(0:Int):=h44;exact .refl _
    have h44:((lnE (X++Y)[i].path):Int)=(0:Int):=Classical.byContradiction h44;refine Yi (Ii i (by omega)) ?_;refine Xi ⟨i+1,by omega,take_all n43 i2 (lnE_ok h44)⟩ ?_;exact ⟨by show (X++Y).length - (i+1)<(X++Y).length - i; omega,Z9,Tv,Fh,Tv⟩
   have h43:¬ ((i:Int)<(((X++Y).map encTm).length:Int)):=h43;have n43:¬ i<(X++Y).length:=by have q:=h43; rw [Lm] at q; omega
   refine Xi ⟨[(0,sl encTm a),(1,sl encTm b),(5,sl encTm X),(6,vb false),(7,sl encTm Y),(8,vb false)],[],hfree⟩ (Yi ⟨Z6,Tv,Fh,Tv⟩ ?_)
   refine Xi ⟨[(0,sl encTm a),(1,sl encTm b),(6,vb false),(8,vb false)],[],hfree⟩ (Yi ⟨Z4,Tv,Fh,Tv⟩ ?_)
   refine Xi .pure (Xi _ (Yi ta ?_));refine Xi .pure (Xi _ (Yi tb ?_));refine Yi (fun h47=>?_) (fun h47=>?_)
   ·have h47:(TA:ByteArray)=TB:=h47;exact .refl _
   have h47:¬ (TA:ByteArray)=TB:=h47;have hall:∀ t ∈ ofT a++ofT b,(pathMajor t.path).isSome=true:=fun t ht=>i2 t (by rw [List.take_of_length_le (by omega),hX,hY]; exact ht);have hd:=dist_iff hall;rw [← hTA,← hTB] at hd
   exfalso
   have qa:canonT a=none:=by have q:=h5; cases e:canonT a with | none=>rfl | some c=>rw [e] at q; cases q
   have qb:canonT b=none:=by have q:=h33; cases e:canonT b with | none=>rfl | some c=>rw [e] at q; cases q
   exact absurd (hd.2 (qa.trans qb.symm)) h47
  have h3:(smallT b)=false:=h3;have hc50:=kb;rw [show (smallT b)=false from h3] at hc50;refine Xi .pure (Xi _ (Yi hc50 ?_));exact .refl _
 have h1:(smallT a)=false:=h1;have hc52:=ka;rw [show (smallT a)=false from h1] at hc52;refine Xi .pure (Xi _ (Yi hc52 ?_));exact .refl _
end Go.Eng
