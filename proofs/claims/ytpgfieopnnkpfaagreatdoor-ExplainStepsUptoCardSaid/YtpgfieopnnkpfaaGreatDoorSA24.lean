/- Lemmas for the claims of this seat, without a condition: part 24 (E6, E7, E8, J2, J2b, E9, E10). -/
import Derived.Test.YtpgfieopnnkpfaaGreatDoorSA23
import Derived.Test.YtpgfieopnnkpfaaGreatDoorSA22
import Derived.Test.YtpgfieopnnkpfaaGreatDoorSA14
namespace Go.Eng
open Go.Proofs
abbrev encB (b:Bool):List AV:=[vb b]
abbrev encNat (n:Nat):List AV:=[vi n]
abbrev u0 (l:List Nf) (target:Int):List Bool:=(List.replicate l.length false).set target.toNat true
theorem mark_skip {l:List Nf} {u:List Bool} {i:Int} (h0:0≤i) (hl:i.toNat<l.length) (hu:i.toNat<u.length) (h:u[i.toNat]=false∨¬ l[i.toNat].kind=3):markGo l (i+1).toNat u=markGo l (i - 1+1).toNat u:=by
 have e1:(i+1).toNat=i.toNat+1:=by omega
 have e2:(i - 1+1).toNat=i.toNat:=by omega
 rw [e1,e2];show (if u.getD i.toNat false&&decide ((l.getD i.toNat nf0).kind=3) then _ else _)=_;rw [List.getD_eq_getElem?_getD,List.getD_eq_getElem?_getD,Ge hl,Ge hu];simp only [Option.getD_some];rcases h with h | h
 ·rw [h]; rfl
 ·rw [decide_eq_false h,Bool.and_false]; rfl
theorem mark_go {l:List Nf} {u:List Bool} {i:Int} (h0:0≤i) (hl:i.toNat<l.length) (hu:i.toNat<u.length) (h1:u[i.toNat]=true) (h2:l[i.toNat].kind=3) :
  markGo l (i+1).toNat u=if badRef i.toNat l[i.toNat] then none else markGo l (i - 1+1).toNat ((u.set l[i.toNat].left.toNat true).set l[i.toNat].right.toNat true):=by
 have e1:(i+1).toNat=i.toNat+1:=by omega
 have e2:(i - 1+1).toNat=i.toNat:=by omega
 rw [e1,e2];show (if u.getD i.toNat false&&decide ((l.getD i.toNat nf0).kind=3) then (if badRef i.toNat (l.getD i.toNat nf0) then none else markGo l i.toNat ((u.set (l.getD i.toNat nf0).left.toNat true).set (l.getD i.toNat nf0).right.toNat true)) else _)=_;rw [List.getD_eq_getElem?_getD,List.getD_eq_getElem?_getD,Ge hl,Ge hu];simp only [Option.getD_some];rw [h1,decide_eq_true h2]; rfl
def kk (y:Nf) (j:Nat):Int:=if j=0 then y.left else y.right
theorem kk_at (y:Nf) (j:Nat) (h:j<2):([[vi y.left],[vi y.right]]:List (List AV))[((j:Nat):Int).toNat]?=some [vi (kk y j)]:=by
 match j,h with
 | 0,_=>rfl
 | 1,_=>rfl
 | _+2,h=>omega
def RefSt (y:Nf) (i:Int) (u:List Bool) (j:Nat) (u2:List Bool):Prop :=
 u2.length=u.length∧((j=0∧u2=u)∨(j=1∧(0≤y.left∧y.left<i)∧u2=u.set y.left.toNat true)∨(j=2∧(0≤y.left∧y.left<i)∧(0≤y.right∧y.right<i)∧u2=(u.set y.left.toNat true).set y.right.toNat true))
theorem RefSt.next {y:Nf} {i:Int} {u u2:List Bool} {j:Nat} (h:RefSt y i u j u2) (hj:j<2) (h0:¬ kk y j<0) (h1:¬ i≤kk y j):RefSt y i u (j+1) (u2.set (kk y j).toNat true):=by
 obtain ⟨hl,h | h | h⟩:=h
 ·obtain ⟨rfl,rfl⟩:=h;have e:kk y 0=y.left:=rfl;rw [e] at h0 h1 ⊢;exact ⟨by simp,.inr (.inl ⟨rfl,by omega,rfl⟩)⟩
 ·obtain ⟨rfl,h2,rfl⟩:=h;have e:kk y 1=y.right:=rfl;rw [e] at h0 h1 ⊢;exact ⟨by simp,.inr (.inr ⟨rfl,h2,by omega,rfl⟩)⟩
 ·omega
theorem RefSt.bad {y:Nf} {i:Int} {u u2:List Bool} {j:Nat} (hi:0≤i) (h:RefSt y i u j u2) (hj:j<2) (hb:kk y j<0∨i≤kk y j):badRef i.toNat y=true:=by
 unfold badRef;have ei:((i.toNat:Nat):Int)=i:=Int.toNat_of_nonneg hi;rw [ei];obtain ⟨hl,h | h | h⟩:=h
 ·obtain ⟨rfl,rfl⟩:=h;have e:kk y 0=y.left:=rfl;rw [e] at hb;rcases hb with hb | hb <;> simp [hb]
 ·obtain ⟨rfl,h2,rfl⟩:=h;have e:kk y 1=y.right:=rfl;rw [e] at hb;rcases hb with hb | hb <;> simp [hb]
 ·omega
theorem RefSt.done {y:Nf} {i:Int} {u u2:List Bool} {j:Nat} (hi:0≤i) (h:RefSt y i u j u2) (hj:¬ j<2):badRef i.toNat y=false∧u2=(u.set y.left.toNat true).set y.right.toNat true:=by
 obtain ⟨hl,h | h | h⟩:=h
 ·omega
 ·omega
 ·obtain ⟨_,h2,h3,h4⟩:=h;refine ⟨?_,h4⟩;unfold badRef;have ei:((i.toNat:Nat):Int)=i:=Int.toNat_of_nonneg hi;rw [ei];simp only [Bool.or_eq_false_iff,decide_eq_false_iff_not];omega
theorem mark_bad {l:List Nf} {u:List Bool} {i:Int} (h0:0≤i) (hl:i.toNat<l.length) (hu:i.toNat<u.length) (h1:u[i.toNat]=true) (h2:l[i.toNat].kind=3) (hb:badRef i.toNat l[i.toNat]=true):markGo l (i+1).toNat u=none:=by
 rw [mark_go h0 hl hu h1 h2,if_pos hb]
theorem mark_two {l:List Nf} {u:List Bool} {i:Int} (h0:0≤i) (hl:i.toNat<l.length) (hu:i.toNat<u.length) (h1:u[i.toNat]=true) (h2:l[i.toNat].kind=3) (hb:badRef i.toNat l[i.toNat]=false) :
  markGo l (i+1).toNat u=markGo l (i - 1+1).toNat ((u.set l[i.toNat].left.toNat true).set l[i.toNat].right.toNat true):=by
 rw [mark_go h0 hl hu h1 h2,if_neg (by rw [hb]; decide)]
theorem used_out {l:List Nf} {target:Int} (h:target<0∨(l.length:Int)≤target):usedL l target=[]:=by unfold usedL; rw [if_pos h]
theorem used_none {l:List Nf} {target:Int} (h:marksL l target.toNat=none):usedL l target=[]:=by
 unfold usedL; rw [h]; simp
theorem used_some {l:List Nf} {target:Int} {u:List Bool} (h0:¬ (target<0∨(l.length:Int)≤target)) (h:marksL l target.toNat=some u):usedL l target=usedU u:=by
 unfold usedL; rw [if_neg h0,h]
abbrev usK (u:List Bool) (k:Nat):List Nat:=(List.range k).filter fun i=>u.getD i false
theorem usK_succ (u:List Bool) (k:Nat) (h:k<u.length):usK u (k+1)=if u[k] then usK u k++[k] else usK u k:=by
 unfold usK;rw [List.range_succ,List.filter_append];have hk:u.getD k false=u[k]:=by rw [List.getD_eq_getElem?_getD,Ge h]; rfl
 cases e:u[k] with
 | false=>rw [List.filter_cons_of_neg (by rw [hk,e]; decide),List.filter_nil,List.append_nil]; rfl
 | true=>rw [List.filter_cons_of_pos (by rw [hk,e]),List.filter_nil]; rfl
theorem usK_len (u:List Bool) (k:Nat):(usK u k).length≤k:=by
 have:=List.length_filter_le (fun i=>u.getD i false) (List.range k)
 rw [List.length_range] at this; exact this
theorem rep_at (n k:Nat) (h:k<n):(List.replicate n [vb false])[k]?=some [vb false]:=by simp [h]
theorem set_rep (l:List Nf) (target:Int):(List.replicate (((l.map encNf).length:Nat):Int).toNat [vb false]).set (target:Int).toNat [vb true]=(u0 l target).map encB:=by
 rw [Int.toNat_natCast,Lm]; unfold u0;rw [List.map_set,List.map_replicate]
theorem start_ok {l:List Nf} {target:Int} (h:0≤target):markGo l (target+1).toNat (u0 l target)=marksL l target.toNat:=by
 have:(target+1).toNat=target.toNat+1:=by omega
 rw [this]; rfl
theorem map_setB (u:List Bool) (k:Nat):(u.map encB).set k [vb true]=(u.set k true).map encB:=by rw [List.map_set]
theorem mark_zero {l:List Nf} {u:List Bool} {i:Int} (h1 : -1≤i) (h:¬ 0≤i):markGo l (i+1).toNat u=some u:=by
 have:(i+1).toNat=0:=by omega
 rw [this]; rfl
set_option maxHeartbeats 4000000 in
theorem e18 (l:List Nf) (target:Int) (hl:Few l) (ht:InI64 target):PC 18 [sl encNf l,vi (target:Int)] (sl encNat (usedL l target)):=by
 have hml:(l.map encNf).length=l.length:=Lm _;have hl:l.length≤1073741824:=hl;have ht : -9223372036854775808≤target∧target<9223372036854775808:=ht;refine Ps ⟨[],[(9,1)],[(22,1)],[],[],[],[],[],[],[],[2,3,4,5,9,12,13,14,15,20,22]⟩ Tryz.func18 rfl (Nz rfl) ?_;refine Yi (fun h1=>?_) (fun h1=>?_)
 ·have h1:((target:Int):Int)<(0:Int):=h1;refine Xi ⟨[],[],hfree⟩ (Yi ⟨Tv,Tv,Fh,Tv⟩ ?_)
  exact (show Sub (.v (.slice none 0 0)) (.slice .none []) from .nil).trans (.of_eq (show AV.slice .none []=sl encNat (usedL l target) by rw [used_out (.inl h1)]; rfl))
 have h1:¬ (((target:Int):Int)<(0:Int)):=h1;refine Yi (fun h3=>?_) (fun h3=>?_)
 ·have h3:((l.map encNf).length:Int)≤((target:Int):Int):=h3;refine Xi ⟨[],[],hfree⟩ (Yi ⟨Tv,Tv,Fh,Tv⟩ ?_)
  exact (show Sub (.v (.slice none 0 0)) (.slice .none []) from .nil).trans (.of_eq (show AV.slice .none []=sl encNat (usedL l target) by rw [used_out (.inr (by have q:=h3; rw [hml] at q; exact q))]; rfl))
 have h3:¬ (((l.map encNf).length:Int)≤((target:Int):Int)):=h3;refine Xi ⟨[(0,sl encNf l),(1,vi (target:Int))],[],hfree⟩ (Yi ⟨Z2,Tv,Fh,Tv⟩ ?_)
 refine Yi (show (0:Int)≤((l.map encNf).length:Nat)∧(((l.map encNf).length:Nat):Int)≤((l.map encNf).length:Nat)∧(((l.map encNf).length:Nat):Int)*1≤140737488355328∧(((l.map encNf).length:Nat):Int)≤9223372036854775807 by rw [Lm]; omega) ?_;refine Xi ⟨[(0,sl encNf l),(1,vi (target:Int)),(5,.msl 22 ((List.replicate ((l.map encNf).length:Int).toNat [vb false]):List (List AV)).length)],[(22,.arr 1 (List.replicate ((l.map encNf).length:Int).toNat [vb false]))],hfree⟩ (Yi ⟨Z3,Z1,Fh,Tv⟩ ?_)
 refine Yi (show (0:Int)≤target∧target<(((List.replicate (((l.map encNf).length:Nat):Int).toNat [vb false]):List (List AV)).length:Nat) by rw [List.length_replicate,Int.toNat_natCast,Lm]; omega) ?_;refine Yi rfl (Xi [vb false] (Yi (show (List.replicate (((l.map encNf).length:Nat):Int).toNat [vb false])[(target:Int).toNat]?=some [vb false] from rep_at _ _ (by rw [Int.toNat_natCast,Lm]; omega)) (Yi (Nz rfl) ?_)));refine Xi ⟨[(0,sl encNf l),(1,vi (target:Int)),(5,.msl 22 ((List.replicate ((l.map encNf).length:Int).toNat [vb false]):List (List AV)).length)],[(22,.arr 1 ((List.replicate ((l.map encNf).length:Int).toNat [vb false]).set (target:Int).toNat [vb true]))],hfree⟩ (Yi ⟨Z3,Z1,Fh,Tv⟩ ?_)
 refine Xi {q:Int × List Bool // (-1≤q.1∧q.1≤target)∧q.2.length=l.length∧markGo l (q.1+1).toNat q.2=marksL l target.toNat} (Xi (fun q=>⟨[(0,sl encNf l),(5,.msl 22 q.1.2.length),(6,vi (q.1.1:Int))],[(22,.arr 1 (q.1.2.map encB))],hfree⟩) (Xi (fun q=>(q.1.1+1).toNat) (Yi (Xi ⟨(target,u0 l target),⟨by omega,Int.le_refl _⟩,by simp,start_ok (by omega)⟩ ?_) ?_)))
 ·exact ⟨⟨Zr,⟨(show AV.msl 22 ((List.replicate ((l.map encNf).length:Int).toNat [vb false]):List (List AV)).length=.msl 22 (u0 l target).length by simp),rfl⟩,Zr,Tv⟩,⟨⟨(show HO.arr 1 ((List.replicate ((l.map encNf).length:Int).toNat [vb false]).set (target:Int).toNat [vb true])=.arr 1 ((u0 l target).map encB) by rw [← set_rep]),rfl⟩,Tv⟩,Fh,Tv⟩
 intro ⟨⟨i,u⟩,i1,i2,i3⟩;have i1 : -1≤i∧i≤target:=i1;have i2:u.length=l.length:=i2;have i3:markGo l (i+1).toNat u=marksL l target.toNat:=i3;refine Yi (fun h5=>?_) (fun h5=>?_)
 ·have h5:(0:Int)≤((i:Int):Int):=h5;have hi0:0≤i:=h5;have hil:i.toNat<l.length:=by omega
  have hiu:i.toNat<u.length:=by omega
  have gl:l[i.toNat]?=some l[i.toNat]:=Ge hil;have gu:u[i.toNat]?=some u[i.toNat]:=Ge hiu;refine Yi (by show (0:Int)≤(i:Int)∧((i:Int):Int)<(u.length:Nat); omega) ?_;refine Yi (show u.length=(u.map encB).length by simp) (Xi (encB u[i.toNat]) (Yi (map_at gu) ?_));refine Yi (fun h6=>?_) (fun h6=>?_)
  ·have h6:u[i.toNat]=true:=h6;refine Xi (encNf l[i.toNat]) (Yi (Yi hi0 (map_at gl)) (Yi rfl ?_));refine Yi (fun h7=>?_) (fun h7=>?_)
   ·have h7:(l[i.toNat].kind:Int)≠(3:Int):=h7;refine Yi (by show InI64 (((i:Int):Int) - (1:Int)); unfold InI64; omega) ?_;refine Xi ⟨(i - 1,u),⟨by omega,by omega⟩,i2,by rw [← i3,mark_skip hi0 hil hiu (.inr (fun hq=>h7 hq))]⟩ ?_;exact ⟨by show (i - 1+1).toNat<(i+1).toNat; omega,Z3,Z1,Fh,Tv⟩
   have h7:(l[i.toNat].kind:Int)=(3:Int):=Classical.byContradiction h7;refine Xi ⟨[(0,sl encNf l),(5,.msl 22 u.length),(6,vi (i:Int))],[(22,.arr 1 (u.map encB))],hfree⟩ (Yi ⟨Z3,Z1,Fh,Tv⟩ ?_)
   refine Xi (encNf l[i.toNat]) (Yi (Yi hi0 (map_at gl)) (Yi rfl ?_));refine Xi (encNf l[i.toNat]) (Yi (Yi hi0 (map_at gl)) (Yi rfl ?_));refine Yi (by kernel_rfl) ?_;refine Xi {q:Nat × List Bool // RefSt l[i.toNat] i u q.1 q.2} (Xi (fun q=>⟨[(0,sl encNf l),(5,.msl 22 q.1.2.length),(6,vi (i:Int)),(54,.slice (.id 54 1) [[vi l[i.toNat].left],[vi l[i.toNat].right]]),(55,vi 2),(56,vi q.1.1)],[(22,.arr 1 (q.1.2.map encB)),(54,.tok 1 2)],hfree⟩) (Xi (fun q=>2 - q.1.1) (Yi (Xi ⟨(0,u),⟨rfl,.inl ⟨rfl,rfl⟩⟩⟩ ?_) ?_)))
   ·exact ⟨Z6,Z2,Fh,Tv⟩
   intro ⟨⟨j,u2⟩,hj0⟩;have hj:RefSt l[i.toNat] i u j u2:=hj0;have hjl:u2.length=u.length:=hj.1;refine Yi (fun h9=>?_) (fun h9=>?_)
   ·have h9:(j:Int)<(2:Int):=h9;have hj2:j<2:=by omega
    refine Xi [vi (kk l[i.toNat] j)] (Yi (Yi (Nn j) (kk_at l[i.toNat] j hj2)) (Yi rfl ?_));refine Xi ⟨[(0,sl encNf l),(5,.msl 22 u2.length),(6,vi (i:Int)),(8,vi (kk l[i.toNat] j)),(54,.slice (.id 54 1) [[vi l[i.toNat].left],[vi l[i.toNat].right]]),(55,vi 2),(56,vi j)],[(22,.arr 1 (u2.map encB)),(54,.tok 1 2)],hfree⟩ (Yi ⟨Z7,Z2,Fh,Tv⟩ ?_)
    refine Yi (fun h10=>?_) (fun h10=>?_)
    ·have h10:((kk l[i.toNat] j):Int)<(0:Int):=h10;refine Xi ⟨[],[],hfree⟩ (Yi ⟨Tv,Tv,Fh,Tv⟩ ?_)
     have hbd:=RefSt.bad hi0 hj hj2 (.inl h10);have hnn:marksL l target.toNat=none:=by rw [← i3]; exact mark_bad hi0 hil hiu h6 h7 hbd
     exact (show Sub (.v (.slice none 0 0)) (.slice .none []) from .nil).trans (.of_eq (show AV.slice .none []=sl encNat (usedL l target) by rw [used_none hnn]; rfl))
    have h10:¬ (((kk l[i.toNat] j):Int)<(0:Int)):=h10;refine Yi (fun h12=>?_) (fun h12=>?_)
    ·have h12:((i:Int):Int)≤((kk l[i.toNat] j):Int):=h12;refine Xi ⟨[],[],hfree⟩ (Yi ⟨Tv,Tv,Fh,Tv⟩ ?_)
     have hbd:=RefSt.bad hi0 hj hj2 (.inr h12);have hnn:marksL l target.toNat=none:=by rw [← i3]; exact mark_bad hi0 hil hiu h6 h7 hbd
     exact (show Sub (.v (.slice none 0 0)) (.slice .none []) from .nil).trans (.of_eq (show AV.slice .none []=sl encNat (usedL l target) by rw [used_none hnn]; rfl))
    have h12:¬ (((i:Int):Int)≤((kk l[i.toNat] j):Int)):=h12;have hk2:(kk l[i.toNat] j).toNat<u2.length:=by omega
    have gk:u2[(kk l[i.toNat] j).toNat]?=some u2[(kk l[i.toNat] j).toNat]:=Ge hk2;refine Xi ⟨[(0,sl encNf l),(5,.msl 22 u2.length),(6,vi (i:Int)),(8,vi (kk l[i.toNat] j)),(54,.slice (.id 54 1) [[vi l[i.toNat].left],[vi l[i.toNat].right]]),(55,vi 2),(56,vi j)],[(22,.arr 1 (u2.map encB)),(54,.tok 1 2)],hfree⟩ (Yi ⟨Z7,Z2,Fh,Tv⟩ ?_)
    refine Yi (by show (0:Int)≤(kk l[i.toNat] j)∧((kk l[i.toNat] j):Int)<(u2.length:Nat); omega) ?_;refine Yi (show u2.length=(u2.map encB).length by simp) (Xi (encB (u2[(kk l[i.toNat] j).toNat])) (Yi (map_at gk) (Yi (Nz rfl) ?_)));refine Xi ⟨[(0,sl encNf l),(5,.msl 22 u2.length),(6,vi (i:Int)),(54,.slice (.id 54 1) [[vi l[i.toNat].left],[vi l[i.toNat].right]]),(55,vi 2),(56,vi j)],[(22,.arr 1 ((u2.map encB).set ((kk l[i.toNat] j):Int).toNat [vb true])),(54,.tok 1 2)],hfree⟩ (Yi ⟨Z6,Z2,Fh,Tv⟩ ?_)
    refine Yi (Ii j (by omega)) ?_;refine Xi ⟨(j+1,u2.set (kk l[i.toNat] j).toNat true),hj.next hj2 h10 h12⟩ ?_
    exact ⟨Dl 2 j (by omega),⟨Zr,⟨(show AV.msl 22 u2.length=.msl 22 (u2.set (kk l[i.toNat] j).toNat true).length by simp),rfl⟩,Zr,Zr,Zr,Zr,Tv⟩,⟨⟨(show HO.arr 1 ((u2.map encB).set (kk l[i.toNat] j).toNat [vb true])=.arr 1 ((u2.set (kk l[i.toNat] j).toNat true).map encB) by rw [map_setB]),rfl⟩,Zr,Tv⟩,Fh,Tv⟩
   have h9:¬ ((j:Int)<(2:Int)):=h9;refine Yi (by show InI64 (((i:Int):Int) - (1:Int)); unfold InI64; omega) ?_;have hdn:=RefSt.done hi0 hj (by omega);have hu2:u2.length=l.length:=hj.1.trans i2;refine Xi ⟨(i - 1,u2),⟨by omega,by omega⟩,hu2,by rw [← i3,mark_two hi0 hil hiu h6 h7 hdn.1,hdn.2]⟩ ?_;exact ⟨by show (i - 1+1).toNat<(i+1).toNat; omega,Z3,Z1,Fh,Tv⟩
  have h6:u[i.toNat]=false:=h6;refine Yi (by show InI64 (((i:Int):Int) - (1:Int)); unfold InI64; omega) ?_;refine Xi ⟨(i - 1,u),⟨by omega,by omega⟩,i2,by rw [← i3,mark_skip hi0 hil hiu (.inl h6)]⟩ ?_;exact ⟨by show (i - 1+1).toNat<(i+1).toNat; omega,Z3,Z1,Fh,Tv⟩
 have h5:¬ ((0:Int)≤((i:Int):Int)):=h5;refine Xi {k:Nat // k≤u.length} (Xi (fun q=>⟨[(9,.slice (.id 9 1) ((usK u q.1).map encNat)),(71,.msl 22 u.length),(72,vi u.length),(73,vi q.1)],[(9,.tok 1 (usK u q.1).length),(22,.arr 1 (u.map encB))],hfree⟩) (Xi (fun q=>u.length - q.1) (Yi (Xi ⟨0,Nat.zero_le _⟩ ?_) ?_)))
 ·exact ⟨Z4,Z2,Fh,Tv⟩
 intro ⟨k,k1⟩;have k1:k≤u.length:=k1;have hkl:=usK_len u k;refine Yi (fun h17=>?_) (fun h17=>?_)
 ·have h17:(k:Int)<(u.length:Int):=h17;have n17:k<u.length:=by omega
  have g17:u[k]?=some u[k]:=Ge n17;have hku:k<u.length:=by omega
  have guk:u[k]?=some u[k]:=Ge hku;refine Yi (by show (0:Int)≤k∧(k:Int)<(u.length:Nat); omega) ?_;refine Yi (show u.length=(u.map encB).length by simp) (Xi (encB u[k]) (Yi (map_at guk) ?_));refine Yi (fun h18=>?_) (fun h18=>?_)
  ·have h18:u[k]=true:=h18;refine Xi ⟨[(9,.slice (.id 9 1) ((usK u k).map encNat)),(10,vi k),(11,vb true),(71,.msl 22 u.length),(72,vi u.length),(73,vi k)],[(9,.tok 1 (usK u k).length),(22,.arr 1 (u.map encB))],hfree⟩ (Yi ⟨Z6,Z2,Fh,Tv⟩ ?_)
   have b19:AllLen 1 [[vi k]]∧((usK u k).map encNat).length=(usK u k).length∧(((usK u k).map encNat).length+([[vi k]]:List (List AV)).length)*8≤140737488355328∧((usK u k).map encNat).length+([[vi k]]:List (List AV)).length≤9223372036854775807:=⟨⟨rfl,trivial⟩,(by rw [Lm]),(by simp only [Lm,List.length_cons,List.length_nil]; omega),(by simp only [Lm,List.length_cons,List.length_nil]; omega)⟩;refine Yi b19 ?_;refine Xi ⟨[(9,.slice (.id 9 1) (((usK u k).map encNat)++[[vi k]])),(71,.msl 22 u.length),(72,vi u.length),(73,vi k)],[(9,.tok 1 (((usK u k).map encNat).length+([[vi k]]:List (List AV)).length)),(22,.arr 1 (u.map encB))],hfree⟩ (Yi ⟨Z4,Z2,Fh,Tv⟩ ?_)
   refine Yi (Ii k (by omega)) ?_;have hus:=usK_succ u k hku;rw [h18] at hus;simp only [if_true] at hus;refine Xi ⟨k+1,by omega⟩ ?_;exact ⟨Dl u.length k (by omega),⟨⟨(show AV.slice (.id 9 1) ((usK u k).map encNat++[[vi k]])=.slice (.id 9 1) ((usK u (k+1)).map encNat) by rw [hus,List.map_append]; rfl),rfl⟩,Zr,Zr,Zr,Tv⟩,⟨⟨(show HO.tok 1 (((usK u k).map encNat).length+([[vi k]]:List (List AV)).length)=.tok 1 (usK u (k+1)).length by rw [hus,List.length_append,Lm]; rfl),rfl⟩,Zr,Tv⟩,Fh,Tv⟩
  have h18:u[k]=false:=h18;refine Xi ⟨[(9,.slice (.id 9 1) ((usK u k).map encNat)),(10,vi k),(11,vb false),(71,.msl 22 u.length),(72,vi u.length),(73,vi k)],[(9,.tok 1 (usK u k).length),(22,.arr 1 (u.map encB))],hfree⟩ (Yi ⟨Z6,Z2,Fh,Tv⟩ ?_)
  refine Xi ⟨[(9,.slice (.id 9 1) ((usK u k).map encNat)),(71,.msl 22 u.length),(72,vi u.length),(73,vi k)],[(9,.tok 1 (usK u k).length),(22,.arr 1 (u.map encB))],hfree⟩ (Yi ⟨Z4,Z2,Fh,Tv⟩ ?_)
  refine Yi (Ii k (by omega)) ?_;have hus:=usK_succ u k hku;rw [h18] at hus;simp only [Bool.false_eq_true,if_false] at hus;refine Xi ⟨k+1,by omega⟩ ?_;exact ⟨Dl u.length k (by omega),⟨⟨(show AV.slice (.id 9 1) ((usK u k).map encNat)=.slice (.id 9 1) ((usK u (k+1)).map encNat) by rw [hus]),rfl⟩,Zr,Zr,Zr,Tv⟩,⟨⟨(show HO.tok 1 (usK u k).length=.tok 1 (usK u (k+1)).length by rw [hus]),rfl⟩,Zr,Tv⟩,Fh,Tv⟩
 have h17:¬ ((k:Int)<(u.length:Int)):=h17;have n17:¬ k<u.length:=by omega
 have hms:marksL l target.toNat=some u:=by rw [← i3]; exact mark_zero i1.1 (by omega)
 have hku:k=u.length:=by omega
 exact .of_eq (show sl encNat (usK u k)=sl encNat (usedL l target) by rw [used_some (by omega) hms,hku]; rfl)
end Go.Eng

namespace Go.Eng
open Go.Proofs
theorem e17 (l m:List Nat) (hl:Few l):PC 17 [sl encNat l,sl encNat m] (vb (decide (l=m))):=by
 refine Ps pl0 Tryz.func17 rfl (Nz rfl) ?_;refine Yi ?_ ?_
 ·intro h;have h:¬ ((l.map encNat).length:Int)=(m.map encNat).length:=h
  have:l≠m:=fun e=>h (by rw [e])
  rw [decide_eq_false this];exact .refl _
 ·intro h;have h:¬ ((l.map encNat).length:Int)≠(m.map encNat).length:=h;have hlen:l.length=m.length:=by simp at h; omega
  refine Xi {i:Nat // i≤l.length∧l.take i=m.take i} (Xi (fun i=>⟨[(0,sl encNat l),(1,sl encNat m),(12,vi (l.map encNat).length),(13,vi i.1)],[],hfree⟩) (Xi (fun i=>l.length - i.1) (Yi (Xi ⟨0,by simp⟩ ?_) ?_)))
  ·exact ⟨Z4,Tv,Fh,Tv⟩
  ·intro ⟨i,h1,h2⟩;refine Yi ?_ ?_
   ·intro h;have h:(i:Int)<(l.map encNat).length:=h;have h:i<l.length:=by simpa using h
    have h' : i<m.length:=by omega
    have hg:l[i]?=some l[i]:=Ge h;have hg' : m[i]?=some m[i]:=Ge h';refine Xi (encNat l[i]) (Yi (Yi (Nn i) (by simp [hg])) (Yi rfl ?_));refine Xi (encNat m[i]) (Yi (Yi (Nn i) (by simp [hg'])) (Yi rfl ?_));refine Yi ?_ ?_
    ·intro h5;refine Yi (by kernel_rfl) ?_;have h5:(l[i]:Int)≠(m[i]:Int):=h5
     have:l≠m:=fun e=>h5 (by subst e; rfl)
     rw [decide_eq_false this];exact .refl _
    ·intro h5;have h5:¬ (l[i]:Int)≠(m[i]:Int):=h5;have e:l[i]=m[i]:=by have:=Classical.not_not.1 h5; omega
     refine Yi (by kernel_rfl) ?_;refine Yi (by show InI64 ((i:Int)+1); unfold Few at hl; unfold InI64; omega) ?_;refine Xi ⟨i+1,by omega,?_⟩ ?_
     ·rw [List.take_add_one,List.take_add_one,h2,hg,hg',e]
     ·exact ⟨Dl l.length i (by omega),Z4,Tv,Fh,Tv⟩
   ·intro h;have h:¬ (i:Int)<(l.map encNat).length:=h;have h:¬ i<l.length:=by simpa using h
    have e:l=m:=by
     rw [← List.take_of_length_le (l:=l) (i:=i) (by omega),h2,List.take_of_length_le (by omega)]
    rw [decide_eq_true e];exact .refl _

theorem pos_found {L:List Nat} {n:Int} {i:Nat} (h:i<L.length) (hj:∀ j (hj:j<L.length),j<i→¬ (L[j]:Int)=n) (e:(L[i]:Int)=n):posL L n=i:=by
 have:L.findIdx? (fun i:Nat=>decide ((i:Int)=n))=some i:=by
  rw [List.findIdx?_eq_some_iff_getElem];refine ⟨h,by simpa using e,fun j hj'=>by simpa using hj j (by omega) hj'⟩
 unfold posL; rw [this]
theorem pos_none {L:List Nat} {n:Int} (hj:∀ j (hj:j<L.length),¬ (L[j]:Int)=n):posL L n=-1:=by
 have:L.findIdx? (fun i:Nat=>decide ((i:Int)=n))=none:=by
  rw [List.findIdx?_eq_none_iff];intro x hx;obtain ⟨j,h,rfl⟩:=List.getElem_of_mem hx;simpa using hj j h
 unfold posL; rw [this]
theorem usedL_lt {l:List Nf} {target:Int} : ∀ i ∈ usedL l target,i<l.length:=by
 intro i hi;unfold usedL at hi;split at hi
 ·cases hi
 ·split at hi
  ·cases hi
  ·rename_i u hu;unfold marksL at hu;have h1:=markGo_len hu;unfold usedU at hi;have h2:=List.mem_range.1 (List.mem_filter.1 hi).1;simp at h1; omega
theorem usedL_len {l:List Nf} {target:Int} : (usedL l target).length≤l.length:=by
 unfold usedL;split
 ·simp
 ·split
  ·simp
  ·rename_i u hu;unfold marksL at hu;have h1:=markGo_len hu;have h2:(usedU u).length≤u.length:=usK_len u u.length;rw [List.length_set,List.length_replicate] at h1;exact h1▸h2
theorem getD_at {l:List Nf} {i:Nat} (h:i<l.length):l[i]?=some (l.getD i nf0):=by
 rw [List.getD_eq_getElem?_getD,Ge h]; rfl
theorem e54 (L:List Nat) (n:Int) (hl:Few L):PC 54 [sl encNat L,vi (n:Int)] (vi (posL L n)):=by
 have hl:L.length≤1073741824:=hl;refine Ps ⟨[],[],[],[],[],[],[],[],[],[],[]⟩ Tryz.func54 rfl (Nz rfl) ?_;refine Xi {i:Nat // i≤L.length∧∀ j (hj:j<L.length),j<i→¬ (L[j]:Int)=n} (Xi (fun q=>⟨[(0,sl encNat L),(1,vi (n:Int)),(7,vi (L.map encNat).length),(8,vi q.1)],[],hfree⟩) (Xi (fun q=>L.length - q.1) (Yi (Xi ⟨0,Nat.zero_le _,fun j _ h=>by omega⟩ ?_) ?_)))
 ·exact ⟨Z4,Tv,Fh,Tv⟩
 intro ⟨i,i1,i2⟩;have i1:i≤L.length:=i1;have i2:∀ j (hj:j<L.length),j<i→¬ (L[j]:Int)=n:=i2;refine Yi (fun h1=>?_) (fun h1=>?_)
 ·have h1:(i:Int)<((L.map encNat).length:Int):=h1;have n1:i<L.length:=by have q:=h1; rw [Lm] at q; omega
  have g1:L[i]?=some L[i]:=Ge n1;refine Xi (encNat L[i]) (Yi (Yi (Nn i) (map_at g1)) (Yi rfl ?_));refine Yi (fun h2=>?_) (fun h2=>?_)
  ·have h2:((n:Int):Int)=(L[i]:Int):=h2;exact .of_eq (show vi i=vi (posL L n) by rw [pos_found n1 i2 (by have q:=h2; omega)])
  have h2:¬ (((n:Int):Int)=(L[i]:Int)):=h2;refine Yi (Ii i (by omega)) ?_;refine Xi ⟨i+1,by omega,fun j hj hji=>(Nat.lt_or_ge j i).elim (i2 j hj) (fun z=>by have e:j=i:=(by omega); subst e; exact fun hq=>h2 hq.symm)⟩ ?_;exact ⟨Dl L.length i (by omega),Z4,Tv,Fh,Tv⟩
 have h1:¬ ((i:Int)<((L.map encNat).length:Int)):=h1;have n1:¬ i<L.length:=by have q:=h1; rw [Lm] at q; omega
 exact .of_eq (show vi (-1)=vi (posL L n) by rw [pos_none fun j hj=>i2 j hj (by omega)])
theorem e53 (L:List Nat) (n:Int) (hl:Few L):PC 53 [vi (n:Int),.cptr [sl encNat L]] (vi (posL L n)):=by
 refine Ps ⟨[],[],[],[],[],[],[],[],[],[],[]⟩ Tryz.func53 rfl (Nz rfl) ?_;refine Xi .pure (Xi _ (Yi (e54 L n hl) ?_));exact .refl _
set_option maxHeartbeats 4000000 in
theorem e21 (l:List Nf) (target:Int) (hl:Few l) (ht:InI64 target):PC 21 [sl encNf l,vi (target:Int)] (sl encNf (trimL l target)):=by
 have hUl:∀ i ∈ usedL l target,i<l.length:=usedL_lt;have hUn:=usedL_len (l:=l) (target:=target);have h18:=e18 l target hl ht;obtain ⟨U,hU⟩ : ∃ U,U=usedL l target:=⟨_,rfl⟩;rw [← hU] at hUl hUn h18;have hl:l.length≤1073741824:=hl;have hUf:Few U:=by unfold Few; omega
 refine Ps ⟨[5],[(7,6)],[],[],[],[],[],[],[],[],[2,8,10]⟩ Tryz.func21 rfl (Nz rfl) ?_;refine Xi .pure (Xi _ (Yi h18 ?_));refine Yi (Nz rfl) ?_;refine Xi ⟨[(0,sl encNf l),(5,.ref 5 0)],[(5,.ro [sl encNat U])],hfree⟩ (Yi ⟨Z2,Z1,Fh,Tv⟩ ?_)
 refine Xi {i:Nat // i≤U.length} (Xi (fun q=>⟨[(0,sl encNf l),(6,.clo 53 [.cptr [sl encNat U]]),(7,.slice (.id 7 6) (((U.take q.1).map fun k=>trimN U (l.getD k nf0)).map encNf)),(15,sl encNat U),(16,vi (U.map encNat).length),(17,vi q.1)],[(7,.tok 6 q.1)],hfree⟩) (Xi (fun q=>U.length - q.1) (Yi (Xi ⟨0,Nat.zero_le _⟩ ?_) ?_)))
 ·exact ⟨Z6,Z1,Fh,Tv⟩
 intro ⟨i,i1⟩;have i1:i≤U.length:=i1;have hrl:((U.take i).map fun k=>trimN U (l.getD k nf0)).length=i:=by rw [Lm,List.length_take]; omega
 refine Yi (fun h1=>?_) (fun h1=>?_)
 ·have h1:(i:Int)<((U.map encNat).length:Int):=h1;have n1:i<U.length:=by have q:=h1; rw [Lm] at q; omega
  have g1:U[i]?=some U[i]:=Ge n1;have gy:l[U[i]]?=some (l.getD U[i] nf0):=getD_at (hUl _ (List.getElem_mem n1));refine Xi (encNat U[i]) (Yi (Yi (Nn i) (map_at g1)) (Yi rfl ?_));refine Xi (encNf (l.getD U[i] nf0)) (Yi (Yi (show (0:Int)≤(U[i]:Nat) by omega) (map_at gy)) (Yi rfl ?_));refine Yi (Nz rfl) ?_;refine Yi (Nz rfl) ?_;refine Xi ⟨[(0,sl encNf l),(6,.clo 53 [.cptr [sl encNat U]]),(7,.slice (.id 7 6) (((U.take i).map fun k=>trimN U (l.getD k nf0)).map encNf)),(10,.ref 10 0),(15,sl encNat U),(16,vi (U.map encNat).length),(17,vi i)],[(7,.tok 6 i),(10,.cells (encNf (l.getD U[i] nf0)))],hfree⟩ (Yi ⟨Z7,Z2,Fh,Tv⟩ ?_)
  refine Yi (fun h2=>?_) (fun h2=>?_)
  ·have h2:((l.getD U[i] nf0).kind:Int)=(3:Int):=h2;refine Xi _ (Yi (e53 U (l.getD U[i] nf0).left hUf) ?_);refine Xi _ (Yi (e53 U (l.getD U[i] nf0).right hUf) ?_);refine Yi (Nz rfl) ?_;refine Yi (Nz rfl) ?_;refine Yi (by kernel_rfl) ?_;refine Xi ⟨[(0,sl encNf l),(6,.clo 53 [.cptr [sl encNat U]]),(7,.slice (.id 7 6) (((U.take i).map fun k=>trimN U (l.getD k nf0)).map encNf)),(10,.ref 10 0),(15,sl encNat U),(16,vi (U.map encNat).length),(17,vi i)],[(7,.tok 6 i),(10,.cells [vi (l.getD U[i] nf0).kind,vs (l.getD U[i] nf0).path,vi (l.getD U[i] nf0).place,vi (l.getD U[i] nf0).number,vi (posL U (l.getD U[i] nf0).left),vi (posL U (l.getD U[i] nf0).right)])],hfree⟩ (Yi ⟨Z7,Z2,Fh,Tv⟩ ?_)
   refine Yi (Nz rfl) ?_;have b3:AllLen 6 [[vi (l.getD U[i] nf0).kind,vs (l.getD U[i] nf0).path,vi (l.getD U[i] nf0).place,vi (l.getD U[i] nf0).number,vi (posL U (l.getD U[i] nf0).left),vi (posL U (l.getD U[i] nf0).right)]]∧(((U.take i).map fun k=>trimN U (l.getD k nf0)).map encNf).length=i∧((((U.take i).map fun k=>trimN U (l.getD k nf0)).map encNf).length+([[vi (l.getD U[i] nf0).kind,vs (l.getD U[i] nf0).path,vi (l.getD U[i] nf0).place,vi (l.getD U[i] nf0).number,vi (posL U (l.getD U[i] nf0).left),vi (posL U (l.getD U[i] nf0).right)]]:List (List AV)).length)*56≤140737488355328∧(((U.take i).map fun k=>trimN U (l.getD k nf0)).map encNf).length+([[vi (l.getD U[i] nf0).kind,vs (l.getD U[i] nf0).path,vi (l.getD U[i] nf0).place,vi (l.getD U[i] nf0).number,vi (posL U (l.getD U[i] nf0).left),vi (posL U (l.getD U[i] nf0).right)]]:List (List AV)).length≤9223372036854775807:=⟨⟨rfl,trivial⟩,(by simp only [Lm,List.length_take]; omega),(by simp only [Lm,List.length_cons,List.length_nil,List.length_take]; omega),(by simp only [Lm,List.length_cons,List.length_nil,List.length_take]; omega)⟩;refine Yi b3 ?_;refine Yi (Ii i (by omega)) ?_;have hy : [vi (l.getD U[i] nf0).kind,vs (l.getD U[i] nf0).path,vi (l.getD U[i] nf0).place,vi (l.getD U[i] nf0).number,vi (posL U (l.getD U[i] nf0).left),vi (posL U (l.getD U[i] nf0).right)]=encNf (trimN U (l.getD U[i] nf0)):=by unfold trimN; rw [if_pos h2]; try rfl
   have ht:(U.take (i+1)).map (fun k=>trimN U (l.getD k nf0))=(U.take i).map (fun k=>trimN U (l.getD k nf0))++[trimN U (l.getD U[i] nf0)]:=by rw [List.take_succ_eq_append_getElem n1,List.map_append]; rfl
   refine Xi ⟨i+1,by omega⟩ ?_;exact ⟨Dl U.length i (by omega),⟨Zr,Zr,⟨(show AV.slice (.id 7 6) (((U.take i).map fun k=>trimN U (l.getD k nf0)).map encNf++[[vi (l.getD U[i] nf0).kind,vs (l.getD U[i] nf0).path,vi (l.getD U[i] nf0).place,vi (l.getD U[i] nf0).number,vi (posL U (l.getD U[i] nf0).left),vi (posL U (l.getD U[i] nf0).right)]])=.slice (.id 7 6) (((U.take (i+1)).map fun k=>trimN U (l.getD k nf0)).map encNf) by rw [ht,List.map_append,hy]; rfl),rfl⟩,Zr,Zr,Zr,Tv⟩,⟨⟨(show HO.tok 6 ((((U.take i).map fun k=>trimN U (l.getD k nf0)).map encNf).length+([[vi (l.getD U[i] nf0).kind,vs (l.getD U[i] nf0).path,vi (l.getD U[i] nf0).place,vi (l.getD U[i] nf0).number,vi (posL U (l.getD U[i] nf0).left),vi (posL U (l.getD U[i] nf0).right)]]:List (List AV)).length)=.tok 6 (i+1) by rw [Lm,hrl]; rfl),rfl⟩,Tv⟩,Fh,Tv⟩
  have h2:¬ (((l.getD U[i] nf0).kind:Int)=(3:Int)):=h2;refine Xi ⟨[(0,sl encNf l),(6,.clo 53 [.cptr [sl encNat U]]),(7,.slice (.id 7 6) (((U.take i).map fun k=>trimN U (l.getD k nf0)).map encNf)),(10,.ref 10 0),(15,sl encNat U),(16,vi (U.map encNat).length),(17,vi i)],[(7,.tok 6 i),(10,.cells (encNf (l.getD U[i] nf0)))],hfree⟩ (Yi ⟨Z7,Z2,Fh,Tv⟩ ?_)
  refine Yi (Nz rfl) ?_;have b5:AllLen 6 [(encNf (l.getD U[i] nf0))]∧(((U.take i).map fun k=>trimN U (l.getD k nf0)).map encNf).length=i∧((((U.take i).map fun k=>trimN U (l.getD k nf0)).map encNf).length+([(encNf (l.getD U[i] nf0))]:List (List AV)).length)*56≤140737488355328∧(((U.take i).map fun k=>trimN U (l.getD k nf0)).map encNf).length+([(encNf (l.getD U[i] nf0))]:List (List AV)).length≤9223372036854775807:=⟨⟨rfl,trivial⟩,(by simp only [Lm,List.length_take]; omega),(by simp only [Lm,List.length_cons,List.length_nil,List.length_take]; omega),(by simp only [Lm,List.length_cons,List.length_nil,List.length_take]; omega)⟩;refine Yi b5 ?_;refine Yi (Ii i (by omega)) ?_;have hy:(encNf (l.getD U[i] nf0))=encNf (trimN U (l.getD U[i] nf0)):=by unfold trimN; rw [if_neg h2]; try rfl
  have ht:(U.take (i+1)).map (fun k=>trimN U (l.getD k nf0))=(U.take i).map (fun k=>trimN U (l.getD k nf0))++[trimN U (l.getD U[i] nf0)]:=by rw [List.take_succ_eq_append_getElem n1,List.map_append]; rfl
  refine Xi ⟨i+1,by omega⟩ ?_;exact ⟨Dl U.length i (by omega),⟨Zr,Zr,⟨(show AV.slice (.id 7 6) (((U.take i).map fun k=>trimN U (l.getD k nf0)).map encNf++[(encNf (l.getD U[i] nf0))])=.slice (.id 7 6) (((U.take (i+1)).map fun k=>trimN U (l.getD k nf0)).map encNf) by rw [ht,List.map_append,hy]; rfl),rfl⟩,Zr,Zr,Zr,Tv⟩,⟨⟨(show HO.tok 6 ((((U.take i).map fun k=>trimN U (l.getD k nf0)).map encNf).length+([(encNf (l.getD U[i] nf0))]:List (List AV)).length)=.tok 6 (i+1) by rw [Lm,hrl]; rfl),rfl⟩,Tv⟩,Fh,Tv⟩
 have h1:¬ ((i:Int)<((U.map encNat).length:Int)):=h1;have n1:¬ i<U.length:=by have q:=h1; rw [Lm] at q; omega
 exact .of_eq (show sl encNf ((U.take i).map fun k=>trimN U (l.getD k nf0))=sl encNf (trimL l target) by unfold trimL; rw [← hU,List.take_of_length_le (by omega)])
structure NfI (y:Nf):Prop where
 path:FewP y.path
 place:y.kind=1→InI64 y.place
 number:y.kind=0→-9223372036854775808≤y.number∧y.number<9223372036854775807
 refs:y.kind=3→(-9223372036854775808≤y.left∧y.left<9223372036854775807)∧(-9223372036854775808≤y.right∧y.right<9223372036854775807)
 kinds:y.kind=0∨y.kind=1∨y.kind=2∨y.kind=3
theorem itC_size {n:Int} (h0 : -9223372036854775808≤n) (h1:n≤9223372036854775807):(itB n++bClose).size≤22:=by
 have:=itB_size h0 h1
 rw [bsize_app]; show _+1≤_; omega
theorem atC_size (p:ByteArray) (pl:Int):(atT p pl++bClose).size≤66:=by
 have:=atT_size p pl
 rw [bsize_app]; show _+1≤_; omega
set_option maxHeartbeats 4000000 in
theorem e112 (y:Nf) (hn:NfI y):PC 112 [.agg (encNf y)] (vs (reasonI y)):=by
 have hkd:=hn.kinds;refine Ps ⟨[],[],[],[],[],[],[],[],[],[],[]⟩ Tryz.func112 rfl (Nz rfl) ?_;refine Yi (fun h1=>?_) (fun h1=>?_)
 ·have h1:(y.kind:Int)=(0:Int):=h1;have hq1:=hn.number h1;refine Yi (by show InI64 ((y.number:Int)+(1:Int)); unfold InI64; omega) ?_;refine Xi .pure (Xi _ (Yi (e39 (y.number+1) (by unfold InI64; omega)) ?_));refine Yi (cat_ok (Nat.le_trans (itB_size (by omega) (by omega)) (by decide)) (by decide)) ?_;refine Xi .pure (Xi _ (Yi (e44 [(⟨#[40,114,111,111,116]⟩ : ByteArray),(itB (y.number+1))++(⟨#[41]⟩ : ByteArray)] (by simp) (words_bound (B:=1048576) (List.forall_mem_cons.2 ⟨(by decide),List.forall_mem_cons.2 ⟨(Nat.le_trans (itC_size (by omega) (by omega)) (by decide)),List.forall_mem_nil _⟩⟩) (by simp))) ?_));exact .of_eq (show vs (wordsB [(⟨#[40,114,111,111,116]⟩ : ByteArray),(itB (y.number+1))++(⟨#[41]⟩ : ByteArray)])=vs (reasonI y) by unfold reasonI; rw [if_pos h1]; try rfl)
 have h1:¬ ((y.kind:Int)=(0:Int)):=h1;refine Yi (fun h3=>?_) (fun h3=>?_)
 ·have h3:(y.kind:Int)=(1:Int):=h3;have hq4:=hn.place h3;refine Xi _ (Yi (e75 y.path y.place hn.path.s hq4) ?_);refine Yi (cat_ok (Nat.le_trans (atT_size _ _) (by decide)) (by decide)) ?_;refine Xi _ (Yi (e44 [(⟨#[40,98,121]⟩ : ByteArray),y.path,(atT y.path y.place)++(⟨#[41]⟩ : ByteArray)] (by simp) (words_bound (B:=1048576) (List.forall_mem_cons.2 ⟨(by decide),List.forall_mem_cons.2 ⟨(show y.path.size≤1048576 from hn.path),List.forall_mem_cons.2 ⟨(Nat.le_trans (atC_size _ _) (by decide)),List.forall_mem_nil _⟩⟩⟩) (by simp))) ?_);refine Yi (by kernel_rfl) ?_;exact .of_eq (show vs (wordsB [(⟨#[40,98,121]⟩ : ByteArray),y.path,(atT y.path y.place)++(⟨#[41]⟩ : ByteArray)])=vs (reasonI y) by unfold reasonI; rw [if_neg h1]; rw [if_pos h3]; try rfl)
 have h3:¬ ((y.kind:Int)=(1:Int)):=h3;refine Yi (fun h5=>?_) (fun h5=>?_)
 ·have h5:(y.kind:Int)=(2:Int):=h5;exact .of_eq (show vs ⟨#[40,110,111,32,111,116,104,101,114,32,114,101,108,101,97,115,101,115,41]⟩=vs (reasonI y) by unfold reasonI; rw [if_neg h1]; rw [if_neg h3]; rw [if_pos h5]; try rfl)
 have h5:¬ ((y.kind:Int)=(2:Int)):=h5;have hq2:=hn.refs (by omega);refine Yi (by show InI64 ((y.left:Int)+(1:Int)); unfold InI64; omega) ?_;refine Xi _ (Yi (e39 (y.left+1) (by unfold InI64; omega)) ?_);refine Yi (by show InI64 ((y.right:Int)+(1:Int)); unfold InI64; omega) ?_;refine Xi _ (Yi (e39 (y.right+1) (by unfold InI64; omega)) ?_);refine Yi (cat_ok (Nat.le_trans (itB_size (by omega) (by omega)) (by decide)) (by decide)) ?_;refine Xi _ (Yi (e44 [(⟨#[40,102,114,111,109]⟩ : ByteArray),(itB (y.left+1)),(⟨#[97,110,100]⟩ : ByteArray),(itB (y.right+1))++(⟨#[41]⟩ : ByteArray)] (by simp) (words_bound (B:=1048576) (List.forall_mem_cons.2 ⟨(by decide),List.forall_mem_cons.2 ⟨(Nat.le_trans (itB_size (by omega) (by omega)) (by decide)),List.forall_mem_cons.2 ⟨(by decide),List.forall_mem_cons.2 ⟨(Nat.le_trans (itC_size (by omega) (by omega)) (by decide)),List.forall_mem_nil _⟩⟩⟩⟩) (by simp))) ?_);refine Yi (by kernel_rfl) ?_;exact .of_eq (show vs (wordsB [(⟨#[40,102,114,111,109]⟩ : ByteArray),(itB (y.left+1)),(⟨#[97,110,100]⟩ : ByteArray),(itB (y.right+1))++(⟨#[41]⟩ : ByteArray)])=vs (reasonI y) by unfold reasonI; rw [if_neg h1]; rw [if_neg h3]; rw [if_neg h5]; rfl)
end Go.Eng

namespace Go.Eng
open Go.Proofs
structure TmsI (t:List Tm):Prop where
 len:t.length≤500000
 few:∀ u ∈ t,Few u.set
 path:∀ u ∈ t,FewP u.path
theorem TmsI.canon {l c:List Tm} (h:TmsI l) (e:canonT l=some c):TmsI c where
 len:=Nat.le_trans (canT_len e) h.len
 few:=fun t ht=>few_can ((canonT_sorted e).canon t ht)
 path:=fun t ht=>by
  obtain ⟨u,hu,q⟩:=canonT_paths e t ht;rw [q]; exact h.path u hu
theorem incF_size {c:List Tm} (h:TmsI c):(incF c).size≤90000000000000:=by
 have hl:=hn_len c;have hc:=h.len;have h1:=texts_size (sep:=bAnd) (by decide) h.path (have_mem c) (by omega);have h2:=texts_size (sep:=bOr) (by decide) h.path (need_mem c) (by omega);have a1:=joinB_size bAnd 140000000 (haveL c) (fun x hx=>by
  obtain ⟨t,ht,rfl⟩:=have_mem c x hx;exact termT_size (h.path t ht))
 have a2:=joinB_size bOr 140000000 (needL c) (fun x hx=>by
  obtain ⟨t,ht,rfl⟩:=need_mem c x hx;exact termT_size (h.path t ht))
 have e1:bAnd.size=5:=rfl;have e2:bOr.size=4:=rfl;rw [e1] at a1; rw [e2] at a2;have e3:bThis.size=18:=rfl;have e4:bImp.size=14:=rfl;have e5:bDo.size=19:=rfl;have e6:bNeeded.size=10:=rfl;have e7:bNeeds.size=7:=rfl;have e8:bNeed.size=6:=rfl;have key:(joinB bAnd (haveL c)).size+(joinB bOr (needL c)).size≤70000002500000:=by omega
 clear a1 a2 h1 h2
 unfold incF
 repeat' split
 all_goals (try simp only [bsize_app])
 all_goals omega
theorem incText_size {l:List Tm} (h:TmsI l):(incText l).size≤90000000000000:=by
 unfold incText;cases e:canonT l with
 | none=>decide
 | some c=>exact incF_size (h.canon e)
theorem reasonI_size {y:Nf} (h:NfI y):(reasonI y).size≤5000000:=by
 have hp:y.path.size≤1048576:=h.path;have e0:bBlank.size=1:=rfl;unfold reasonI;split
 ·rename_i k;have q:=h.number k
  have:=joinB_size bBlank 1048576 [bRoot,itB (y.number+1)++bClose] (List.forall_mem_cons.2 ⟨by decide,List.forall_mem_cons.2 ⟨Nat.le_trans (itC_size (by omega) (by omega)) (by decide),List.forall_mem_nil _⟩⟩)
  rw [e0] at this; simp only [List.length_cons,List.length_nil] at this; omega
 ·split
  ·have:=joinB_size bBlank 1048576 [bBy,y.path,atT y.path y.place++bClose] (List.forall_mem_cons.2 ⟨by decide,List.forall_mem_cons.2 ⟨hp,List.forall_mem_cons.2 ⟨Nat.le_trans (atC_size _ _) (by decide),List.forall_mem_nil _⟩⟩⟩)
   rw [e0] at this; simp only [List.length_cons,List.length_nil] at this; omega
  ·split
   ·decide
   ·rename_i k0 k1 k2;have q:=h.refs (by have:=h.kinds; omega)
    have:=joinB_size bBlank 1048576 [bFrom,itB (y.left+1),bAnd1,itB (y.right+1)++bClose] (List.forall_mem_cons.2 ⟨by decide,List.forall_mem_cons.2 ⟨Nat.le_trans (itB_size (by omega) (by omega)) (by decide),List.forall_mem_cons.2 ⟨by decide,List.forall_mem_cons.2 ⟨Nat.le_trans (itC_size (by omega) (by omega)) (by decide),List.forall_mem_nil _⟩⟩⟩⟩)
    rw [e0] at this; simp only [List.length_cons,List.length_nil] at this; omega
def ShortP (x:List Rl) (roots:List Rq) (l:List Nf):Prop:=∀ p ∈ pathsU x roots l,FewP p
theorem derived_tms {x:List Rl} {roots:List Rq} {l:List Nf} (hP:ShortP x roots l) (h:(deriveP x roots l).2=0):∀ t ∈ (deriveP x roots l).1,TmsI t:=fun t ht=>by
 obtain ⟨h1,h2,h3,h4⟩:=deriveP_ok h;have hu:=deriveGo_in (l0:=l) l [] _ (fun _ h=>h) (fun _ h=>by cases h) h4 t ht;have hf:=hu.fewI (pathsU_few h1 h2 h3)
 have:=hu.len
 have:=pathsU_few h1 h2 h3
 exact ⟨by omega,hf.2,fun u hu'=>hP _ (hu.2 u hu')⟩
theorem derive_nf {x:List Rl} {roots:List Rq} {l:List Nf} {d:List (List Tm)} (hr:roots.length≤1073741824) (hl:l.length≤1073741824) (h:deriveGo x roots l []=some d) {i:Nat} (hi:i<l.length) (hp:FewP (l.getD i nf0).path):NfI (l.getD i nf0):=by
 have hok:=derive_ok h hi;have hin:=(derive_at h).2 i hi;have hdl:d.length=l.length:=(derive_at h).1;refine ⟨hp,fun k=>?_,fun k=>?_,fun k=>?_,hok.2.2.2⟩
 ·have:=hok.2.1 k; unfold InI64; omega
 ·unfold inferP at hin;rw [if_pos k] at hin;split at hin
  ·cases e:nthZ roots (l.getD i nf0).number with
   | none=>rw [e] at hin; cases hin
   | some q=>have:=nthZ_lt e; omega
  ·cases hin
 ·obtain ⟨a,b,ha,hb,_⟩:=infer_ref hin k;have h1:=nthZ_lt ha;have h2:=nthZ_lt hb;rw [List.length_take] at h1 h2;omega
theorem trim_nf {x:List Rl} {roots:List Rq} {l:List Nf} (hP:ShortP x roots l) (hr:roots.length≤1073741824) (h:(deriveP x roots l).2=0) {t:Nat} (ht:t<l.length):∀ y ∈ trimL l t,NfI y:=by
 obtain ⟨h1,h2,h3,h4⟩:=deriveP_ok h;have hD:=derive_trim h4 ht;have hlen:(trimL l t).length≤l.length:=by unfold trimL; rw [Lm]; exact usedL_len
 intro y hy;obtain ⟨i,hi,e⟩:=List.getElem_of_mem hy;have ey:(trimL l t).getD i nf0=y:=by rw [List.getD_eq_getElem?_getD,Ge hi]; exact e
 have hp:FewP y.path:=by
  unfold trimL at hy;obtain ⟨k,hk,rfl⟩:=List.mem_map.1 hy;have hk':=usedL_lt k hk;have e1:(trimN (usedL l t) (l.getD k nf0)).path=(l.getD k nf0).path:=by unfold trimN; split <;> rfl
  rw [e1];refine hP _ ?_;unfold pathsU;refine List.mem_append_right _ (List.mem_append_right _ (List.mem_append_right _ (List.mem_map.2 ⟨_,List.mem_of_getElem? (getD_at hk'),rfl⟩)))
 have:=derive_nf hr (by omega) hD hi (by rw [ey]; exact hp)
 rwa [ey] at this
end Go.Eng

namespace Go.Proofs.YtpgfieopnnkpfaaGreatDoor.joins
open Go Go.Eng Go.Proofs Go.ChangeShapes Go.WideShapes Go.ChangeAt Go.RowKit
theorem own:ownKnob Tryz.prog.godebug=none:=by kernel_rfl
def flatD:Nat→DataW Unit→List Value
 | 0,_=>[]
 | n+1,.agg l=>l.flatMap (flatD n)
 | _+1,.lit (.int k i)=>[.int k i]
 | _+1,_=>[]
def layIn (d:DataW Unit):Obj→Obj
 | .cells _ t frozen=>.cells (flatD 4 d).toArray t frozen
 | o=>o
noncomputable def laidWorld (os:Os):World :=
 { World.holding Tryz.prog os ⟨#[],#[],[]⟩ with heap:=(((((World.holding Tryz.prog os ⟨#[],#[],[]⟩).heap.modify 3 (layIn Rows.laid_internal_strconv_uint64pow10)).modify 4 (layIn Rows.laid_math_bits_deBruijn32tab)).modify 5 (layIn Rows.laid_math_bits_deBruijn64tab)).modify 6 (layIn Rows.laid_unicode_utf8_first)).modify 7 (layIn Rows.laid_unicode_utf8_acceptRanges) }
abbrev nilV:Value:=.slice none 0 0
theorem arr1 {args:Array Value} {a:Value} (h:args.toList=[a]):args=#[a]:=by
 cases args; simp_all
theorem arr2 {args:Array Value} {a b:Value} (h:args.toList=[a,b]):args=#[a,b]:=by
 cases args; simp_all
theorem arr3 {args:Array Value} {a b c:Value} (h:args.toList=[a,b,c]):args=#[a,b,c]:=by
 cases args; simp_all
theorem arr4 {args:Array Value} {a b c d:Value} (h:args.toList=[a,b,c,d]):args=#[a,b,c,d]:=by
 cases args; simp_all
theorem arr5 {args:Array Value} {a b c d e:Value} (h:args.toList=[a,b,c,d,e]):args=#[a,b,c,d,e]:=by
 cases args; simp_all
theorem oU16 {H:Type} {enc:TypeId × Value→H} {w:World} : Op enc w 51 (fun n:Int=>[.v (.int .u16 n)]) (fun n=>0≤n∧n≤65535):=(opens_int Tryz.underlying51).to id (fun _ h=>⟨rfl,h⟩)
theorem oInt {H:Type} {enc:TypeId × Value→H} {w:World} : Op enc w 3 (fun n:Int=>[vi n]) InI64:=(opens_int Tryz.underlying3).to id (fun x h=>⟨rfl,by
  have h1:(-9223372036854775808:Int)≤x:=h.1
  have h2:x≤(9223372036854775807:Int):=h.2
  show -9223372036854775808≤x∧x<9223372036854775808
  omega⟩)
theorem short_of {x:List Rl} {roots:List Rq} {l:List Nf} (h:x.length≤NB∧∀ r ∈ x,OkRl r) (k:OkRqs roots) (q:l.length≤NB∧∀ i ∈ l,i.path.size≤NB):ShortP x roots l:=fun p hp=>by
 unfold pathsU at hp
 rcases List.mem_append.1 hp with hp | hp
 ·obtain ⟨r,hr,rfl⟩:=List.mem_map.1 hp
  exact (h.2 r hr).1
 ·rcases List.mem_append.1 hp with hp | hp
  ·obtain ⟨y,hy,rfl⟩:=List.mem_map.1 hp
   obtain ⟨g,hg,hyg⟩:=List.mem_flatten.1 hy
   obtain ⟨r,hr,rfl⟩:=List.mem_map.1 hg
   exact ((h.2 r hr).2.2 y hyg).1
  ·rcases List.mem_append.1 hp with hp | hp
   ·obtain ⟨y,hy,rfl⟩:=List.mem_map.1 hp
    exact (k.2 y hy).1
   ·obtain ⟨y,hy,rfl⟩:=List.mem_map.1 hp
    exact q.2 y hy
theorem looksOff:true=Tryz.pinned.checked.prog.looks []:=by kernel_rfl
theorem noStand:∀ t ∈ ([42,43,32,51,66,3,23]:List Nat),Tryz.pinned.checked.prog.wantsStandIn t=false:=by
 intro t ht
 simp only [List.mem_cons,List.mem_nil_iff,or_false] at ht
 rcases ht with rfl | rfl | rfl | rfl | rfl | rfl | rfl <;> exact (show Tryz.prog.wantsStandIn _=false by kernel_rfl)
end Go.Proofs.YtpgfieopnnkpfaaGreatDoor.joins

namespace Go.Proofs.YtpgfieopnnkpfaaGreatDoor.joins
open Go Go.Eng Go.Proofs Go.ChangeShapes Go.WideShapes Go.ChangeAt Go.RowKit
abbrev OkAnP (a:An):Prop:=a.infs.length≤NB∧∀ i ∈ a.infs,i.path.size≤NB
theorem oAnP {H:Type} {enc:TypeId × Value→H} {w:World} : Op enc w 66 encAn OkAnP :=
 (opens_struct bulk_ok Tryz.underlying66 (L:=4) (by kernel_rfl) (opensF_cons rfl (n:=1) (by kernel_rfl) oB (opensF_cons rfl (n:=1) (by kernel_rfl) oSls (opensF_cons rfl (n:=1) (by kernel_rfl) oNfs
  (opensF_cons rfl (n:=1) (by kernel_rfl) oSks opensF_nil))))).to
  (fun p=>(⟨p.1,p.2.1,p.2.2.1,p.2.2.2.1⟩ : An)) (fun _ h=>⟨rfl,h.2.2.1⟩)
end Go.Proofs.YtpgfieopnnkpfaaGreatDoor.joins

namespace Go.Eng
open Go.Proofs
theorem YCall.pre {P:Program} {Y Y' : Gh→World→Prop} {l:Nat} {args:List AV} {h0:Nat→HO} {Q:AV→(Nat→HO)→Prop} (h:YCall P Y l args h0 Q) (hp:∀ g w,Y' g w→Y g w):YCall P Y' l args h0 Q :=
 fun g w vals q1 q2 q3 q4=>h g w vals q1 q2 q3 (hp g w q4)
abbrev idR:Ren:=[(1000,1000),(1001,1001)]
abbrev lnH (L:List ByteArray) (k:Nat):List (Nat × HO):=[(1000,.cells [.slice (.id 1001 1) ((L.take k).map encStr)]),(1001,.tok 1 ((L.take k).map encStr).length)]
noncomputable abbrev cxy (pl:Pol) (l:Nat) (Y:Gh→World→Prop):Cx:=⟨Tryz.prog,tab,pl,true,0,fun l' σ' g w=>l'=l→σ'=idR→Y g w⟩
abbrev linesL (own:List Nf) (kept:List (List Tm)):List ByteArray:=linesW lineI own kept
theorem linesL_len (own:List Nf) (kept:List (List Tm)):(linesL own kept).length=own.length:=by unfold linesL linesW; rw [Lm,List.length_range]
theorem linesL_at (own:List Nf) (kept:List (List Tm)) {i:Nat} (h1:i<own.length) (h2:i<kept.length):(linesL own kept)[i]?=some (lineI i kept[i] own[i]):=by
 unfold linesL linesW;rw [List.getElem?_map,List.getElem?_range h1];simp only [Option.map_some];rw [List.getD_eq_getElem?_getD,List.getD_eq_getElem?_getD,Ge h1,Ge h2]; rfl
theorem lnH_succ (L:List ByteArray) {i:Nat} {s:ByteArray} (h:L[i]?=some s):L.take (i+1)=L.take i++[s]:=by rw [List.take_add_one,h]; rfl

theorem e58 (own:List Nf) (kept:List (List Tm)):PC 58 [sl encNf own,sl encInc kept] (.clo 111 [.cptr [sl encNf own],.cptr [sl encInc kept]]):=by
 refine Ps ⟨[2,3],[],[],[],[],[],[],[],[],[],[]⟩ Tryz.func58 rfl (Nz rfl) ?_;exact .refl _
theorem itD_size {n:Int} (h0 : -9223372036854775808≤n) (h1:n≤9223372036854775807):(itB n++bDot).size≤22:=by
 have:=itB_size h0 h1
 rw [bsize_app]; show _+1≤_; omega
set_option maxHeartbeats 4000000 in
theorem e111 {Y:Gh→World→Prop} (l:Nat) (own:List Nf) (kept:List (List Tm)) (hlen:kept.length=own.length) (hn:own.length≤1073741824) (hown:∀ y ∈ own,NfI y) (hkept:∀ t ∈ kept,TmsI t)
  (hy:∀ i s,i<own.length→(linesL own kept)[i]?=some s→YCall Tryz.prog Y l [vs s] (heapOf (lnH (linesL own kept) i) hfree) fun r h'=>r=vb true∧h'=heapOf (lnH (linesL own kept) (i+1)) hfree) :
  ICall Tryz.prog Y idR 111 [.v (.func (.yield l) #[] #[]),.cptr [sl encNf own],.cptr [sl encInc kept]] (heapOf (lnH (linesL own kept) 0) hfree) fun _ h'=>h'=heapOf (lnH (linesL own kept) own.length) hfree:=by
 refine icall_of (l:=l) (cxy ⟨[],[],[],[],[],[],[],[],[(27,4)],[],[3,4]⟩ l Y) idR rfl tab_ok hm rfl Tryz.func111 (by kernel_rfl) rfl (Nz rfl) (by kernel_rfl) rfl rfl ?_;refine Xi {i:Nat // i≤own.length} (Xi (fun q=>⟨[(0,.v (.func (.yield l) #[] #[])),(2,.cptr [sl encInc kept]),(6,sl encNf own),(7,vi (own.map encNf).length),(8,vi q.1)],[(1000,.cells [.slice (.id 1001 1) (((linesL own kept).take q.1).map encStr)]),(1001,.tok 1 (((linesL own kept).take q.1).map encStr).length)],hfree⟩) (Xi (fun q=>own.length - q.1) (Yi (Xi ⟨0,Nat.zero_le _⟩ ?_) ?_)))
 ·exact ⟨Z5,Z2,Fh,ext_dec (by kernel_rfl)⟩
 intro ⟨i,i1⟩;have i1:i≤own.length:=i1;refine Yi (fun h1=>?_) (fun h1=>?_)
 ·have h1:(i:Int)<((own.map encNf).length:Int):=h1;have n1:i<own.length:=by have q:=h1; rw [Lm] at q; omega
  have g1:own[i]?=some own[i]:=Ge n1;have hki:i<kept.length:=by omega
  have gk:kept[i]?=some kept[i]:=Ge hki;have hoi:=hown own[i] (List.getElem_mem n1);have hti:=hkept kept[i] (List.getElem_mem hki);have hLi:=linesL_at own kept n1 hki;refine Xi (encNf own[i]) (Yi (Yi (Nn i) (map_at g1)) (Yi rfl ?_));refine Yi (Nz rfl) ?_;refine Yi (Nz rfl) ?_;refine Xi ⟨[(0,.v (.func (.yield l) #[] #[])),(2,.cptr [sl encInc kept]),(4,vi i),(5,.ref 5 0),(6,sl encNf own),(7,vi (own.map encNf).length),(8,vi i)],[(5,.cells (encNf own[i])),(1000,.cells [.slice (.id 1001 1) (((linesL own kept).take i).map encStr)]),(1001,.tok 1 (((linesL own kept).take i).map encStr).length)],hfree⟩ (Yi ⟨Z7,Z3,Fh,ext_dec (by kernel_rfl)⟩ ?_)
  refine Yi (Ii i (by omega)) ?_;refine Xi _ (Yi (e39 (i+1) (by unfold InI64; omega)) ?_);refine Yi (cat_ok (Nat.le_trans (itB_size (by omega) (by omega)) (by decide)) (by decide)) ?_;refine Xi (encInc kept[i]) (Yi (Yi (Nn i) (map_at gk)) (Yi rfl ?_));refine Xi _ (Yi (e15 kept[i] hti.len hti.few hti.path) ?_);refine Yi (Nz rfl) ?_;refine Xi _ (Yi (e112 own[i] hoi) ?_);refine Xi _ (Yi (show PC 44 [sl encStr [(itB (i+1))++(⟨#[46]⟩ : ByteArray),(incText kept[i]),(reasonI own[i])]] (vs (lineI i kept[i] own[i])) from e44 [(itB (i+1))++(⟨#[46]⟩ : ByteArray),(incText kept[i]),(reasonI own[i])] (by simp) (words_bound (B:=90000000000000) (List.forall_mem_cons.2 ⟨Nat.le_trans (itD_size (by omega) (by omega)) (by decide),List.forall_mem_cons.2 ⟨incText_size hti,List.forall_mem_cons.2 ⟨Nat.le_trans (reasonI_size hoi) (by decide),List.forall_mem_nil _⟩⟩⟩) (by simp))) ?_);refine Yi ⟨rfl,rfl⟩ (Xi (.bool true) (Xi (((linesL own kept).take (i+1)).map encStr) (Xi (((linesL own kept).take (i+1)).map encStr).length (Yi (YCall.pre (hy i (lineI i kept[i] own[i]) n1 hLi) (fun g w q=>q rfl rfl)) ?_))));refine Yi (by kernel_rfl) ?_;refine Xi ⟨[(0,.v (.func (.yield l) #[] #[])),(2,.cptr [sl encInc kept]),(6,sl encNf own),(7,vi (own.map encNf).length),(8,vi i)],[(1000,.cells [.slice (.id 1001 1) (((linesL own kept).take (i+1)).map encStr)]),(1001,.tok 1 (((linesL own kept).take (i+1)).map encStr).length)],hfree⟩ (Yi ⟨Z5,Z2,Fh,ext_dec (by kernel_rfl)⟩ ?_)
  refine Yi (Ii i (by omega)) ?_;refine Xi ⟨i+1,by omega⟩ ?_;exact ⟨Dl own.length i (by omega),Z5,Z2,Fh,ext_dec (by kernel_rfl)⟩
 have h1:¬ ((i:Int)<((own.map encNf).length:Int)):=h1;have n1:¬ i<own.length:=by have q:=h1; rw [Lm] at q; omega
 have hie:i=own.length:=by omega
 exact (show heapOf (lnH (linesL own kept) i) hfree=heapOf (lnH (linesL own kept) own.length) hfree by rw [hie])
end Go.Eng

namespace Go.Eng
open Go.Proofs
theorem rfk_mk {cx2:Cx} {P:Program} {N:Nat} {fn:Func} {res:AV} {b rest:Code} {st:St} (σF σ:Ren) (H0 Hn:List (Nat × HO)) (gf:Nat) (caps:List AV) {bid s:Nat} {ps:Array Tmp} {asg body:Code}
  (hb:b=.block bid (.rangeFunc (.tmp s) ps asg body)) (k1:(renOk σF&&newFree st.h 0 0&&newApart σF 0 0)=true) (k2:renH σF st.h=heapOf H0 hfree) (k3:(renInj σ&&extOk σ H0)=true) (k4:extOk σ Hn=true)
  (k5:ren (rfwd σF) st.h (st.t s)=.clo gf caps)
  (k6:∀ (l D:Nat) (f' : FuncId) (tm:Array Value),tm.size=N→ICall P (fun g w=>w.heap[l]?=some (.loop (recL f' tm ps asg body D .ready))∧∀ i,Rep g w (used (heapOf H0 hfree)) (ren (rfwd σF) st.h (st.t i)) (tm.getD i undef)) σ gf
   (.v (.func (.yield l) #[] #[]) :: caps) (heapOf H0 hfree) fun _ h'=>h'=heapOf Hn hfree)
  (k7:codeOk N rest=true) (k8:awp cx2 rest (endK cx2 fn.results.toList fun r=>Sub r res) ⟨fun i=>ren (rfwd σF) st.h (st.t i),heapOf Hn hfree⟩):RfK cx2 P N fn res b rest st :=
 ⟨σF,σ,H0,Hn,bid,s,ps,asg,body,gf,caps,hb,k1,k2,k3,k4,k5,k6,k7,k8⟩
theorem lnH_used (L:List ByteArray) (a b:Nat):∀ i,used (heapOf (lnH L a) hfree) i→used (heapOf (lnH L b) hfree) i:=by
 intro i h;unfold used at *
 by_cases e:i=1000
 ·subst e; intro q; cases q
 ·by_cases e' : i=1001
  ·subst e'; intro q; cases q
  ·exfalso; apply h
   simp only [heapOf,beq_ne e,beq_ne e',cond_false]; rfl
abbrev linR (x:List Rl) (roots:List Rq) (l:List Nf) (target:Int):AV:=.tup [sl encStr (linesP x roots l target).1,vi (linesP x roots l target).2]
theorem linR_no {x:List Rl} {roots:List Rq} {l:List Nf} {target e:Int} (h:linesP x roots l target=([],e)):Sub (.tup [.v (.slice none 0 0),vi e]) (linR x roots l target) :=
 (show Sub (.tup [.v (.slice none 0 0),vi e]) (.tup [.slice .none [],vi e]) from Sub.tup ⟨.nil,.refl _,trivial⟩).trans (.of_eq (show AV.tup [.slice .none [],vi e]=linR x roots l target by unfold linR; rw [h]; rfl))
abbrev kp (d:List (List Tm)) (U:List Nat) (i:Nat):List (List Tm):=(U.take i).map fun k=>d.getD k []
theorem kp_succ (d:List (List Tm)) (U:List Nat) (i:Nat) (h:i<U.length):kp d U (i+1)=kp d U i++[d.getD U[i] []]:=by
 unfold kp; rw [List.take_succ_eq_append_getElem h,List.map_append]; rfl
theorem getD_atD {d:List (List Tm)} {i:Nat} (h:i<d.length):d[i]?=some (d.getD i []):=by
 rw [List.getD_eq_getElem?_getD,Ge h]; rfl
set_option maxHeartbeats 4000000 in
theorem e24 (x:List Rl) (ifs:List (List AV)) (roots:List Rq) (l:List Nf) (target:Int) (hk:Ck x ifs roots) (hl:Few l) (ht:InI64 target) (hr:roots.length≤1073741824) (hP:ShortP x roots l):PC 24 [ixV x ifs,sl encRq roots,sl encNf l,vi target] (linR x roots l target):=by
 have hk12:=c12 x ifs roots l hk;have hl:l.length≤1073741824:=hl;have hml:(l.map encNf).length=l.length:=Lm _;obtain ⟨d,hd⟩ : ∃ d,d=(deriveP x roots l).1:=⟨_,rfl⟩;obtain ⟨ee,he⟩ : ∃ ee,ee=(deriveP x roots l).2:=⟨_,rfl⟩;rw [← hd,← he] at hk12;have hUl:∀ i ∈ usedL l target,i<l.length:=usedL_lt;have hUn:=usedL_len (l:=l) (target:=target);have h18:=e18 l target hl ht;obtain ⟨U,hU⟩ : ∃ U,U=usedL l target:=⟨_,rfl⟩;rw [← hU] at hUl hUn h18;have h21:=e21 l target hl ht;obtain ⟨own,how⟩ : ∃ own,own=trimL l target:=⟨_,rfl⟩;have hwl:own.length=U.length:=by rw [how]; unfold trimL; rw [Lm,hU]
 rw [← how] at h21;refine pcall_rf (cxp ⟨[4],[(12,1)],[],[],[],[],[],[(53,(15,0,16,1))],[],[],[2,4,5,6,10,11,16]⟩) (cxe pl0) rfl tab_ok rfl tab_ok hm rfl rfl Tryz.func24 (by kernel_rfl) rfl (Nz rfl) (by kernel_rfl) 7 (fun _ _=>Zr) ?_;refine Yi (Nz rfl) ?_;refine Xi .pure (Xi _ (Yi hk12 ?_));refine Xi ⟨[(2,sl encNf l),(3,vi (target:Int)),(10,sl encInc d),(11,vi ee)],[],hfree⟩ (Yi ⟨Z4,Tv,Fh,Tv⟩ ?_)
 refine Yi (fun h1=>?_) (fun h1=>?_)
 ·have h1:(ee:Int)≠(0:Int):=h1;exact linR_no (by unfold linesP; rw [if_pos (by rw [← he]; exact h1),← he])
 have h1:(ee:Int)=(0:Int):=Classical.byContradiction h1;have hee:(deriveP x roots l).2=0:=by rw [← he]; exact h1
 obtain ⟨q1,q2,q3,q4⟩:=deriveP_ok hee;have hdl:d.length=l.length:=by rw [hd]; exact (derive_at q4).1
 have hdt:∀ t ∈ d,TmsI t:=by rw [hd]; exact derived_tms hP hee
 refine Xi ⟨[(2,sl encNf l),(3,vi (target:Int)),(10,sl encInc d)],[],hfree⟩ (Yi ⟨Z3,Tv,Fh,Tv⟩ ?_)
 refine Yi (fun h3=>?_) (fun h3=>?_)
 ·have h3:((target:Int):Int)<(0:Int):=h3;refine Xi ⟨[],[],hfree⟩ (Yi ⟨Tv,Tv,Fh,Tv⟩ ?_)
  exact linR_no (by unfold linesP; rw [if_neg (fun h=>h hee),if_pos (.inl h3)])
 have h3:¬ (((target:Int):Int)<(0:Int)):=h3;refine Yi (fun h5=>?_) (fun h5=>?_)
 ·have h5:((l.map encNf).length:Int)≤((target:Int):Int):=h5;refine Xi ⟨[],[],hfree⟩ (Yi ⟨Tv,Tv,Fh,Tv⟩ ?_)
  exact linR_no (by unfold linesP; rw [if_neg (fun h=>h hee),if_pos (.inr (by have q:=h5; rw [hml] at q; exact q))])
 have h5:¬ (((l.map encNf).length:Int)≤((target:Int):Int)):=h5;refine Xi ⟨[(2,sl encNf l),(3,vi (target:Int)),(10,sl encInc d)],[],hfree⟩ (Yi ⟨Z3,Tv,Fh,Tv⟩ ?_)
 refine Xi .pure (Xi _ (Yi h18 ?_));refine Xi {i:Nat // i≤U.length} (Xi (fun q=>⟨[(2,sl encNf l),(3,vi (target:Int)),(10,sl encInc d),(12,.slice (.id 12 1) ((kp d U q.1).map encInc)),(37,sl encNat U),(38,vi (U.map encNat).length),(39,vi q.1)],[(12,.tok 1 q.1)],hfree⟩) (Xi (fun q=>U.length - q.1) (Yi (Xi ⟨0,Nat.zero_le _⟩ ?_) ?_)))
 ·exact ⟨Z7,Z1,Fh,Tv⟩
 intro ⟨i,i1⟩;have i1:i≤U.length:=i1;have hrl:(kp d U i).length=i:=by unfold kp; rw [Lm,List.length_take]; omega
 have hrl2:(U.take i).length=i:=by rw [List.length_take]; omega
 refine Yi (fun h7=>?_) (fun h7=>?_)
 ·have h7:(i:Int)<((U.map encNat).length:Int):=h7;have n7:i<U.length:=by have q:=h7; rw [Lm] at q; omega
  have g7:U[i]?=some U[i]:=Ge n7;have gy:d[U[i]]?=some (d.getD U[i] []):=getD_atD (by have:=hUl _ (List.getElem_mem n7); omega);refine Xi (encNat U[i]) (Yi (Yi (Nn i) (map_at g7)) (Yi rfl ?_));refine Xi ⟨[(2,sl encNf l),(3,vi (target:Int)),(10,sl encInc d),(12,.slice (.id 12 1) ((kp d U i).map encInc)),(14,vi U[i]),(37,sl encNat U),(38,vi (U.map encNat).length),(39,vi i)],[(12,.tok 1 i)],hfree⟩ (Yi ⟨Z8,Z1,Fh,Tv⟩ ?_)
  refine Xi (encInc (d.getD U[i] [])) (Yi (Yi (show (0:Int)≤(U[i]:Nat) by omega) (map_at gy)) (Yi rfl ?_));have b8:AllLen 1 [[sl encTm (d.getD U[i] [])]]∧((kp d U i).map encInc).length=i∧(((kp d U i).map encInc).length+([[sl encTm (d.getD U[i] [])]]:List (List AV)).length)*24≤140737488355328∧((kp d U i).map encInc).length+([[sl encTm (d.getD U[i] [])]]:List (List AV)).length≤9223372036854775807:=⟨⟨rfl,trivial⟩,(by first | (simp; done) | (rw [Lm]; assumption)),(by simp only [Lm,List.length_cons,List.length_nil]; omega),(by simp only [Lm,List.length_cons,List.length_nil]; omega)⟩
  refine Yi b8 ?_;refine Xi ⟨[(2,sl encNf l),(3,vi (target:Int)),(10,sl encInc d),(12,.slice (.id 12 1) (((kp d U i).map encInc)++[[sl encTm (d.getD U[i] [])]])),(37,sl encNat U),(38,vi (U.map encNat).length),(39,vi i)],[(12,.tok 1 (((kp d U i).map encInc).length+([[sl encTm (d.getD U[i] [])]]:List (List AV)).length))],hfree⟩ (Yi ⟨Z7,Z1,Fh,Tv⟩ ?_)
  refine Yi (Ii i (by omega)) ?_;refine Xi ⟨i+1,by omega⟩ ?_;exact ⟨Dl U.length i (by omega),⟨Zr,Zr,Zr,⟨(show AV.slice (.id 12 1) ((kp d U i).map encInc++[[sl encTm (d.getD U[i] [])]])=.slice (.id 12 1) ((kp d U (i+1)).map encInc) by rw [kp_succ d U i n7,List.map_append]; rfl),rfl⟩,Zr,Zr,Zr,Tv⟩,⟨⟨(show HO.tok 1 (((kp d U i).map encInc).length+([[sl encTm (d.getD U[i] [])]]:List (List AV)).length)=.tok 1 (i+1) by rw [Lm,hrl]; rfl),rfl⟩,Tv⟩,Fh,Tv⟩
 have h7:¬ ((i:Int)<((U.map encNat).length:Int)):=h7;have n7:¬ i<U.length:=by have q:=h7; rw [Lm] at q; omega
 refine Xi .pure (Xi _ (Yi h21 ?_));refine Xi .pure (Xi _ (Yi (e58 own (kp d U i)) ?_));have htl:¬ (target<0∨(l.length:Int)≤target):=by have q:=h5; rw [hml] at q; omega
 obtain ⟨t,htt⟩ : ∃ t:Nat,target=t:=⟨target.toNat,by omega⟩;have hown:∀ y ∈ own,NfI y:=by rw [how,htt]; exact trim_nf hP hr hee (by omega)
 have hkq:kp d U i=kp d U U.length:=by rw [show i=U.length by omega]
 obtain ⟨kept,hkp⟩ : ∃ kept,kept=kp d U U.length:=⟨_,rfl⟩;have hkl:kept.length=own.length:=by rw [hkp,hwl]; unfold kp; rw [Lm,List.length_take]; omega
 have hkt:∀ t ∈ kept,TmsI t:=by
  rw [hkp];intro t ht';obtain ⟨k,hk',rfl⟩:=List.mem_map.1 ht';exact hdt _ (List.mem_of_getElem? (getD_atD (by have:=hUl k (List.mem_of_mem_take hk'); omega)))
 have hLn:(linesL own kept).length≤65536:=by rw [linesL_len]; omega
 refine rfk_mk [(15,1000),(16,1001)] idR (lnH (linesL own kept) 0) (lnH (linesL own kept) own.length) 111 [.cptr [sl encNf own],.cptr [sl encInc kept]] rfl rfl rfl rfl rfl (show AV.clo 111 [.cptr [sl encNf own],.cptr [sl encInc (kp d U i)]]=.clo 111 [.cptr [sl encNf own],.cptr [sl encInc kept]] by rw [hkq,hkp]) (fun l9 D9 f9 tm9 htm=>e111 l9 own kept hkl (by omega) hown hkt (fun i9 s9 hi9 hs9=>ycall_of (σ:=idR) (cxe pl0) rfl tab_ok hm rfl rfl rfl htm (by kernel_rfl) (by kernel_rfl) (by kernel_rfl) (lnH_used _ _ _) ?_)) (by kernel_rfl) ?_
 ·have b9:AllLen 1 [[vs s9]]∧(((linesL own kept).take i9).map encStr).length=(((linesL own kept).take i9).map encStr).length∧((((linesL own kept).take i9).map encStr).length+([[vs s9]]:List (List AV)).length)*16≤140737488355328∧(((linesL own kept).take i9).map encStr).length+([[vs s9]]:List (List AV)).length≤9223372036854775807 :=
   ⟨⟨rfl,trivial⟩,rfl,by rw [Lm,List.length_take,List.length_singleton]; omega,by rw [Lm,List.length_take,List.length_singleton]; omega⟩
  refine Yi b9 ?_;refine Yi (Nz rfl) ?_;have e9:=lnH_succ (linesL own kept) hs9;exact Yi rfl (show heapOf [(1000,.cells [.slice (.id 1001 1) (((linesL own kept).take i9).map encStr++[[vs s9]])]),(1001,.tok 1 ((((linesL own kept).take i9).map encStr).length+1))] hfree=heapOf (lnH (linesL own kept) (i9+1)) hfree by unfold lnH; rw [e9,List.map_append,List.length_append]; rfl)
 have hLe:(linesL own kept).take own.length=linesL own kept:=List.take_of_length_le (by rw [linesL_len]; omega);exact .of_eq (show AV.tup [.slice .none (((linesL own kept).take own.length).map encStr),vi 0]=linR x roots l target by
  rw [hLe]; unfold linR linesP;rw [if_neg (fun h=>h hee),if_neg htl,← hU,← how,← hd,hkp]; unfold kp; rw [List.take_of_length_le (by omega)])
end Go.Eng
