/- Lemmas for the claims of this seat, without a condition: part 18 (C17, C18, C19, C20, C21, C22, C23, C24). -/
import Derived.Test.YtkmnnpmneamgoaaGreatDoorA17
namespace Go.Eng
open Go.Proofs
abbrev pla (l:List (Nat × Nat)) (cut:List Nat):Pol:=⟨[],[],l,[],[],[],[],[],[],[],cut⟩
abbrev arrSp (l:List (Int × Int)):HO:=.arr 2 (l.map encSpan)
theorem clipL_take (l:SpanL) (i:Nat):(clipL (l.take i)).length≤i:=by
 unfold clipL
 have:=List.length_filter_le (fun x:Int × Int=>decide (x.1<x.2)) ((l.take i).map clip)
 rw [Lm,List.length_take] at this; omega
theorem clipL_yes {l:SpanL} {i:Nat} (h:i<l.length) (h3:(clip l[i]).1<(clip l[i]).2):clipL (l.take (i+1))=clipL (l.take i)++[clip l[i]]:=by
 rw [List.take_add_one,Ge h,clipL_append]; unfold clipL; simp [h3]
theorem clipL_no {l:SpanL} {i:Nat} (h:i<l.length) (h3:¬ (clip l[i]).1<(clip l[i]).2):clipL (l.take (i+1))=clipL (l.take i):=by
 rw [List.take_add_one,Ge h,clipL_append]; unfold clipL; simp [h3]
abbrev arr2 (s j:SpanL) (i:Nat):SpanL:=(mergeR (s.take i)).reverse++(j++s.drop i)
theorem arr2_at (s j:SpanL) (i:Nat) (h:i<s.length) (hj:(mergeR (s.take i)).length+j.length=i):(arr2 s j i)[i]?=some s[i]:=by
 unfold arr2;rw [List.getElem?_append_right (by rw [List.length_reverse]; omega),List.getElem?_append_right (by rw [List.length_reverse]; omega),List.length_reverse,List.getElem?_drop];rw [show i+(i - (mergeR (List.take i s)).length - j.length)=i by omega,Ge h]
theorem arr2_last (s j:SpanL) (i:Nat) {y:Int × Int} {t:SpanL} (e:mergeR (s.take i)=y :: t):(arr2 s j i)[t.length]?=some y:=by
 unfold arr2;rw [e,List.reverse_cons,List.append_assoc,List.getElem?_append_right (by rw [List.length_reverse]; omega),List.length_reverse,Nat.sub_self]; rfl
theorem arr2_len (s j:SpanL) (i:Nat) (h:i≤s.length) (hj:(mergeR (s.take i)).length+j.length=i):(arr2 s j i).length=s.length:=by
 unfold arr2; simp only [List.length_append,List.length_reverse,List.length_drop]; omega
theorem drop_at {α:Type} (s:List α) (i:Nat) (h:i<s.length):s.drop i=s[i] :: s.drop (i+1):=List.drop_eq_getElem_cons h
theorem arr2_push (s j:SpanL) (i:Nat) (h:i<s.length) (e:stepR (mergeR (s.take i)) s[i]=s[i] :: mergeR (s.take i)) :
  (arr2 s j i).set (mergeR (s.take i)).length s[i]=arr2 s (j++[s[i]]).tail (i+1):=by
 unfold arr2;rw [mergeR_take s i h,e,List.reverse_cons,List.set_append_right _ _ (by rw [List.length_reverse]; exact Nat.le_refl _),List.length_reverse,Nat.sub_self,List.append_assoc,drop_at s i h]
 congr 1
 cases j with
 | nil=>rfl
 | cons a b=>simp
theorem arr2_join (s j:SpanL) (i:Nat) (h:i<s.length) {y:Int × Int} {t:SpanL} (e:mergeR (s.take i)=y :: t) (hle:s[i].1≤y.2) :
  (arr2 s j i).set t.length (y.1,max y.2 s[i].2)=arr2 s (j++[s[i]]) (i+1):=by
 unfold arr2;have e2:stepR (y :: t) s[i]=(y.1,max y.2 s[i].2) :: t:=by show (if s[i].1≤y.2 then _ else _)=_; rw [if_pos hle]
 rw [mergeR_take s i h,e,e2,List.reverse_cons,List.reverse_cons,List.append_assoc,List.set_append_right _ _ (by rw [List.length_reverse]; exact Nat.le_refl _),List.length_reverse,Nat.sub_self,drop_at s i h];simp
theorem map_at {α:Type} {enc:α→List AV} {l:List α} {i:Nat} {x:α} (h:l[i]?=some x):(l.map enc)[i]?=some (enc x):=by rw [List.getElem?_map,h]; rfl
theorem c102 (l:List (Int × Int)) (hl:Few l):PC 116 [sl encSpan l] (sl encSpan (canon l)):=by
 have hl:l.length≤1073741824:=hl;refine pcall_sub (cxp (pla [(3,2)] [5,14,15,16])) rfl tab_ok hm rfl Tryz.func116 (by kernel_rfl) rfl (Nz rfl) (by kernel_rfl) ?_;refine Xi {i:Nat // i≤l.length} (Xi (fun i=>⟨[(0,sl encSpan l),(3,.msl 3 (clipL (l.take i.1)).length),(9,sl encSpan l),(10,vi (l.map encSpan).length),(11,vi i.1)],[(3,arrSp (clipL (l.take i.1)))],hfree⟩) (Xi (fun i=>l.length - i.1) (Yi (Xi ⟨0,by simp⟩ ?_) ?_)))
 ·exact ⟨Z5,Z1,Fh,Tv⟩
 ·intro ⟨i,h1⟩;have hn:=clipL_take l i;refine Yi ?_ ?_
  ·intro h;have h:(i:Int)<(l.map encSpan).length:=h;have h:i<l.length:=by simpa using h
   have hg:l[i]?=some l[i]:=Ge h;refine Xi (encSpan l[i]) (Yi (Yi (Nn i) (by simp [hg])) (Yi rfl ?_));refine Yi (Nz rfl) (Yi (Nz rfl) ?_);refine Xi ⟨[(0,sl encSpan l),(3,.msl 3 (clipL (l.take i)).length),(5,.ref 5 0),(9,sl encSpan l),(10,vi (l.map encSpan).length),(11,vi i)],[(3,arrSp (clipL (l.take i))),(5,.cells (encSpan l[i]))],hfree⟩ (Yi ⟨Z6,Z2,Fh,Tv⟩ ?_)
   refine Yi (Nz rfl) ?_;refine Yi ?_ ?_
   ·intro h3;have h3:(clip l[i]).1<(clip l[i]).2:=h3;refine Yi (Nz rfl) ?_;have bulk:AllLen 2 [[vi (max l[i].1 0),vi (min l[i].2 1000000)]]∧((clipL (l.take i)).map encSpan).length=(clipL (l.take i)).length∧(((clipL (l.take i)).map encSpan).length+[[vi (max l[i].1 0),vi (min l[i].2 1000000)]].length)*16≤140737488355328∧((clipL (l.take i)).map encSpan).length+[[vi (max l[i].1 0),vi (min l[i].2 1000000)]].length≤9223372036854775807 :=
     ⟨⟨rfl,trivial⟩,by rw [Lm],by rw [Lm,List.length_singleton]; omega,by rw [Lm,List.length_singleton]; omega⟩
    refine Yi bulk ?_;refine Yi (Ii i (by omega)) ?_;refine Xi ⟨i+1,by omega⟩ ?_;have e1:AV.msl 3 (((clipL (l.take i)).map encSpan).length+[[vi (max l[i].1 0),vi (min l[i].2 1000000)]].length)=.msl 3 (clipL (l.take (i+1))).length:=by rw [clipL_yes h h3]; simp
    have e2:HO.arr 2 ((clipL (l.take i)).map encSpan++[[vi (max l[i].1 0),vi (min l[i].2 1000000)]])=arrSp (clipL (l.take (i+1))):=by rw [clipL_yes h h3]; simp [clip]
    exact ⟨Dl l.length i (by omega),⟨Zr,⟨e1,rfl⟩,Zr,Zr,Zr,Tv⟩,⟨⟨e2,rfl⟩,Tv⟩,Fh,Tv⟩
   ·intro h3;have h3:¬ (clip l[i]).1<(clip l[i]).2:=h3;refine Yi (Ii i (by omega)) ?_;refine Xi ⟨i+1,by omega⟩ ?_;have e1:AV.msl 3 (clipL (l.take i)).length=.msl 3 (clipL (l.take (i+1))).length:=by rw [clipL_no h h3]
    have e2:arrSp (clipL (l.take i))=arrSp (clipL (l.take (i+1))):=by rw [clipL_no h h3]
    exact ⟨Dl l.length i (by omega),⟨Zr,⟨e1,rfl⟩,Zr,Zr,Zr,Tv⟩,⟨⟨e2,rfl⟩,Tv⟩,Fh,Tv⟩
  ·intro h;have h:¬ (i:Int)<(l.map encSpan).length:=h;have h:¬ i<l.length:=by simpa using h
   have ei:clipL (l.take i)=clipL l:=by rw [List.take_of_length_le (by omega)]
   have hN:(clipL (l.take i)).length=(clipL l).length:=by rw [ei]
   refine Xi (.gen [(3,1000)] 0) (Yi rfl ((c141 (clipL (l.take i)) (by unfold Few; omega) (fun x hx=>by have:=clipL_mem hx; omega)).to ?_));intro s hs;have hsl:s.length=(clipL (l.take i)).length:=hs.1.length_eq;have hsN:s.length≤1073741824:=by omega
   have fin:(mergeR s).reverse=canon l:=canon_of_sorted (by rw [← ei]; exact hs.1) hs.2;refine Xi {p:Nat × SpanL // p.1≤s.length∧(mergeR (s.take p.1)).length+p.2.length=p.1} (Xi (fun p=>⟨[(3,.msl 3 (clipL (l.take i)).length),(6,vi (mergeR (s.take p.1.1)).length),(34,.msl 3 (clipL (l.take i)).length),(35,vi (clipL (l.take i)).length),(36,vi p.1.1)],[(3,arrSp (arr2 s p.1.2 p.1.1))],hfree⟩) (Xi (fun p=>s.length - p.1.1) (Yi (Xi ⟨(0,[]),Nat.zero_le _,rfl⟩ ?_) ?_)))
   ·exact ⟨Z5,Z1,Fh,Tv⟩
   intro ⟨⟨k,j⟩,k1,k2⟩;have k1:k≤s.length:=k1;have k2:(mergeR (s.take k)).length+j.length=k:=k2;have hlen:=arr2_len s j k k1 k2;have hlenE:(clipL (l.take i)).length=((arr2 s j k).map encSpan).length:=by rw [Lm,hlen,hsl]
   refine Yi ?_ ?_
   ·intro h2;have h2:(k:Int)<(clipL (l.take i)).length:=h2;have hk:k<s.length:=by omega
    have hat:=map_at (enc:=encSpan) (arr2_at s j k hk k2);refine Yi ⟨by show (0:Int)≤k; omega,by show (k:Int)<_; omega⟩ ?_;refine Yi hlenE (Xi (encSpan s[k]) (Yi hat (Yi (Nz rfl) (Yi (Nz rfl) ?_))));refine Xi ⟨[(3,.msl 3 (clipL (l.take i)).length),(6,vi (mergeR (s.take k)).length),(7,vi k),(8,.ref 8 0),(34,.msl 3 (clipL (l.take i)).length),(35,vi (clipL (l.take i)).length),(36,vi k)],[(3,arrSp (arr2 s j k)),(8,.cells (encSpan s[k]))],hfree⟩ (Yi ⟨Z7,Z2,Fh,Tv⟩ ?_)
    have hr:=mergeR_len s k k1;refine Or.elim (Nat.eq_zero_or_pos k) (fun k0=>?_) (fun k0=>?_)
    ·refine Yi ?_ ?_
     ·intro h4;have h4:(0:Int)<k:=h4;omega
     ·intro _;refine Yi (by kernel_rfl) ?_;have hst:stepR (mergeR (s.take k)) s[k]=s[k] :: mergeR (s.take k):=by subst k0; rfl
      have hn1:(mergeR (s.take k)).length<(arr2 s j k).length:=by omega
      have hz:=map_at (enc:=encSpan) (Ge hn1);refine Xi ⟨[(3,.msl 3 (clipL (l.take i)).length),(6,vi (mergeR (s.take k)).length),(8,.ref 8 0),(34,.msl 3 (clipL (l.take i)).length),(35,vi (clipL (l.take i)).length),(36,vi k)],[(3,arrSp (arr2 s j k)),(8,.cells (encSpan s[k]))],hfree⟩ (Yi ⟨⟨⟨rfl,rfl⟩,⟨rfl,rfl⟩,⟨rfl,rfl⟩,⟨rfl,rfl⟩,⟨rfl,rfl⟩,⟨rfl,rfl⟩,Tv⟩,⟨⟨rfl,rfl⟩,⟨rfl,rfl⟩,Tv⟩,Fh,Tv⟩ ?_);refine Yi (Nz rfl) (Yi ⟨by show (0:Int)≤((mergeR (s.take k)).length:Int); omega,by show ((mergeR (s.take k)).length:Int)<_; omega⟩ ?_);refine Yi hlenE (Xi (encSpan (arr2 s j k)[(mergeR (s.take k)).length]) (Yi hz (Yi (Nz rfl) ?_)));refine Yi (by show InI64 (((mergeR (s.take k)).length:Int)+1); unfold InI64; omega) ?_;refine Yi (Ii k (by omega)) ?_;have hm:=mergeR_take s k hk;have e1:vi (((mergeR (s.take k)).length:Int)+1)=vi (mergeR (s.take (k+1))).length:=by rw [hm,hst]; simp
      have e2:HO.arr 2 (((arr2 s j k).map encSpan).set (mergeR (s.take k)).length [vi s[k].1,vi s[k].2])=arrSp (arr2 s (j++[s[k]]).tail (k+1)):=by rw [← arr2_push s j k hk hst]; simp only [arrSp,List.map_set]
      refine Xi ⟨(k+1,(j++[s[k]]).tail),by show k+1≤s.length; omega,by show (mergeR (s.take (k+1))).length+((j++[s[k]]).tail).length=k+1; rw [hm,hst]; simp; omega⟩ ?_;exact ⟨Dl s.length k (by omega),⟨Zr,⟨e1,rfl⟩,Zr,Zr,Zr,Tv⟩,⟨⟨e2,rfl⟩,Tv⟩,Fh,Tv⟩
    ·refine Yi ?_ ?_
     ·intro _;obtain ⟨y,t,e⟩ : ∃ y t,mergeR (s.take k)=y :: t:=by
       cases hc:mergeR (s.take k) with
       | nil=>have:=hr.2 k0; rw [hc] at this; simp at this
       | cons y t=>exact ⟨y,t,rfl⟩
      have ht:(((mergeR (s.take k)).length:Int) - 1).toNat=t.length:=by rw [e]; simp
      have hy:((arr2 s j k).map encSpan)[(((mergeR (s.take k)).length:Int) - 1).toNat]?=some (encSpan y):=by rw [ht]; exact map_at (arr2_last s j k e)
      refine Yi (by show InI64 (((mergeR (s.take k)).length:Int) - 1); unfold InI64; omega) ?_;have hpos:=hr.2 k0;refine Yi ⟨by show (0:Int)≤((mergeR (s.take k)).length:Int) - 1; omega,by show ((mergeR (s.take k)).length:Int) - 1<_; omega⟩ ?_;refine Yi hlenE (Xi (encSpan y) (Yi hy ?_));refine Yi ?_ ?_
      ·intro h5;have h5:s[k].1≤y.2:=h5;refine Yi (by kernel_rfl) ?_;refine Xi ⟨[(3,.msl 3 (clipL (l.take i)).length),(6,vi (mergeR (s.take k)).length),(8,.ref 8 0),(34,.msl 3 (clipL (l.take i)).length),(35,vi (clipL (l.take i)).length),(36,vi k)],[(3,arrSp (arr2 s j k)),(8,.cells (encSpan s[k]))],hfree⟩ (Yi ⟨⟨⟨rfl,rfl⟩,⟨rfl,rfl⟩,⟨rfl,rfl⟩,⟨rfl,rfl⟩,⟨rfl,rfl⟩,⟨rfl,rfl⟩,Tv⟩,⟨⟨rfl,rfl⟩,⟨rfl,rfl⟩,Tv⟩,Fh,Tv⟩ ?_);refine Yi (by show InI64 (((mergeR (s.take k)).length:Int) - 1); unfold InI64; omega) (Yi (by show InI64 (((mergeR (s.take k)).length:Int) - 1); unfold InI64; omega) ?_);refine Yi ⟨by show (0:Int)≤((mergeR (s.take k)).length:Int) - 1; omega,by show ((mergeR (s.take k)).length:Int) - 1<_; omega⟩ ?_;refine Yi hlenE (Xi (encSpan y) (Yi hy ?_));refine Yi ⟨by show (0:Int)≤((mergeR (s.take k)).length:Int) - 1; omega,by show ((mergeR (s.take k)).length:Int) - 1<_; omega⟩ ?_;refine Yi hlenE (Xi (encSpan y) (Yi hy (Yi (Nz rfl) ?_)));refine Yi (by kernel_rfl) ?_;refine Yi (Ii k (by omega)) ?_;have hm:=mergeR_take s k hk;have hst:stepR (mergeR (s.take k)) s[k]=(y.1,max y.2 s[k].2) :: t:=by rw [e]; show (if s[k].1≤y.2 then _ else _)=_; rw [if_pos h5]
       have e1:vi (mergeR (s.take k)).length=vi (mergeR (s.take (k+1))).length:=by rw [hm,hst,e]; simp
       have e2:HO.arr 2 (((arr2 s j k).map encSpan).set (((mergeR (s.take k)).length:Int) - 1).toNat [vi y.1,vi (max y.2 s[k].2)])=arrSp (arr2 s (j++[s[k]]) (k+1)):=by rw [← arr2_join s j k hk e h5,ht]; simp only [arrSp,List.map_set]
       refine Xi ⟨(k+1,j++[s[k]]),by show k+1≤s.length; omega,by show (mergeR (s.take (k+1))).length+(j++[s[k]]).length=k+1; rw [hm,hst,List.length_append,List.length_singleton]; rw [e] at k2; simp only [List.length_cons] at k2 ⊢; omega⟩ ?_;exact ⟨Dl s.length k (by omega),⟨Zr,⟨e1,rfl⟩,Zr,Zr,Zr,Tv⟩,⟨⟨e2,rfl⟩,Tv⟩,Fh,Tv⟩
      ·intro h5;have h5:¬ s[k].1≤y.2:=h5;refine Yi (by kernel_rfl) ?_;have hst:stepR (mergeR (s.take k)) s[k]=s[k] :: mergeR (s.take k):=by rw [e]; show (if s[k].1≤y.2 then _ else _)=_; rw [if_neg h5]
       have hn1:(mergeR (s.take k)).length<(arr2 s j k).length:=by omega
       have hz:=map_at (enc:=encSpan) (Ge hn1);refine Xi ⟨[(3,.msl 3 (clipL (l.take i)).length),(6,vi (mergeR (s.take k)).length),(8,.ref 8 0),(34,.msl 3 (clipL (l.take i)).length),(35,vi (clipL (l.take i)).length),(36,vi k)],[(3,arrSp (arr2 s j k)),(8,.cells (encSpan s[k]))],hfree⟩ (Yi ⟨⟨⟨rfl,rfl⟩,⟨rfl,rfl⟩,⟨rfl,rfl⟩,⟨rfl,rfl⟩,⟨rfl,rfl⟩,⟨rfl,rfl⟩,Tv⟩,⟨⟨rfl,rfl⟩,⟨rfl,rfl⟩,Tv⟩,Fh,Tv⟩ ?_);refine Yi (Nz rfl) (Yi ⟨by show (0:Int)≤((mergeR (s.take k)).length:Int); omega,by show ((mergeR (s.take k)).length:Int)<_; omega⟩ ?_);refine Yi hlenE (Xi (encSpan (arr2 s j k)[(mergeR (s.take k)).length]) (Yi hz (Yi (Nz rfl) ?_)));refine Yi (by show InI64 (((mergeR (s.take k)).length:Int)+1); unfold InI64; omega) ?_;refine Yi (Ii k (by omega)) ?_;have hm:=mergeR_take s k hk;have e1:vi (((mergeR (s.take k)).length:Int)+1)=vi (mergeR (s.take (k+1))).length:=by rw [hm,hst]; simp
       have e2:HO.arr 2 (((arr2 s j k).map encSpan).set (mergeR (s.take k)).length [vi s[k].1,vi s[k].2])=arrSp (arr2 s (j++[s[k]]).tail (k+1)):=by rw [← arr2_push s j k hk hst]; simp only [arrSp,List.map_set]
       refine Xi ⟨(k+1,(j++[s[k]]).tail),by show k+1≤s.length; omega,by show (mergeR (s.take (k+1))).length+((j++[s[k]]).tail).length=k+1; rw [hm,hst]; simp; omega⟩ ?_;exact ⟨Dl s.length k (by omega),⟨Zr,⟨e1,rfl⟩,Zr,Zr,Zr,Tv⟩,⟨⟨e2,rfl⟩,Tv⟩,Fh,Tv⟩
     ·intro h4;have h4:¬ (0:Int)<k:=h4;omega
   ·intro h2;have h2:¬ (k:Int)<(clipL (l.take i)).length:=h2;have hk:k=s.length:=by omega
    have hr:=mergeR_len s k k1;have hres:((((arr2 s j k).map encSpan).take ((mergeR (s.take k)).length:Int).toNat).drop 0)=(canon l).map encSpan:=by
     rw [List.drop_zero,Int.toNat_natCast,← List.map_take,← fin];unfold arr2
     have:(mergeR (s.take k)).length=(mergeR (s.take k)).reverse.length:=by rw [List.length_reverse]
     rw [this,List.take_left,hk,List.take_length]
    refine Yi ⟨hlenE,by show (0:Int)≤0; omega,by show (0:Int)≤((mergeR (s.take k)).length:Int); omega,by show ((mergeR (s.take k)).length:Int)≤(((arr2 s j k).map encSpan).length:Int); omega,.inr ⟨rfl,by simp⟩⟩ ?_;exact .of_eq (congrArg (AV.slice .none) hres)
end Go.Eng

namespace Go.Eng
open Go.Proofs Go.Sort
abbrev encI (z:Int):List AV:=[vi z]
theorem putRow_id {α:Type} [Inhabited α] (enc:α→Value) (w:World) (b:Nat) (d:Array α):putRow enc w b 0 d=putRow id w b 0 (d.map enc):=by
 unfold putRow
 congr 1
 funext c
 unfold putCells;apply Array.ext
 ·simp
 ·intro i h1 h2;simp only [Array.getElem_mapIdx,Array.size_map]
  by_cases h:i<d.size
  ·rw [if_pos (by omega),if_pos (by omega)];rw [getElem!_pos d (i - 0) (by omega),getElem!_pos (d.map enc) (i - 0) (by simpa using h)];simp
  ·rw [if_neg (by omega),if_neg (by omega)]
theorem flat_encI (zs:List Int):(zs.map encI).flatten=(zs.map fun z=>Value.int .i64 z).map AV.v:=by
 induction zs with
 | nil=>rfl
 | cons z zs ih=>rw [List.map_cons,List.flatten_cons,ih]; rfl
theorem repL_vals (g:Gh) (w:World) (U:Nat→Prop) (vs:List Value) (h:∀ x ∈ vs,x.oneCell'=true):RepL g w U (vs.map .v) vs :=
 ⟨by simp,h,fun i av x q1 q2=>by
  rw [List.getElem?_map,q2] at q1;cases q1; exact .v _ _⟩
theorem repL_vals_eq {g:Gh} {w:World} {U:Nat→Prop} {vs us:List Value} (h:RepL g w U (vs.map .v) us):us=vs:=by
 apply List.ext_getElem?;intro i;have hl:=h.1;rw [Lm] at hl
 by_cases hi:i<vs.length
 ·have:=h.2.2 i (.v vs[i]) us[i] (by rw [List.getElem?_map,Ge hi]; rfl) (Ge (by omega))
  rw [Ge hi,Ge (by omega),this.v_eq]
 ·rw [List.getElem?_eq_none (by omega),List.getElem?_eq_none (by omega)]
theorem c179 (zs:List Int) (hl:Few zs) (hne:zs≠[]) :
  ACall Tryz.prog 261 [.msl 1000 zs.length] (heapOf [(1000,.arr 1 (zs.map encI))] hfree) fun r h' =>
   r=.tup []∧∃ l' : List Int,(l'.Perm zs∧l'.Pairwise fun a b=>a≤b)∧h'=heapOf [(1000,.arr 1 (l'.map encI))] hfree:=by
 have hl:zs.length≤1073741824:=hl;have hE:Enters Tryz.prog 261:=ent 261 Tryz.func261 (by kernel_rfl) rfl;have hmain:=acall_row (P:=Tryz.prog) (f:=261) (es:=zs.map encI) (sz:=1) (rest:=[]) (Q:=fun es'=>∃ l' : List Int,(l'.Perm zs∧l'.Pairwise fun a b=>a≤b)∧es'=l'.map encI) hE ?_ ?_
 ·rw [Lm] at hmain;refine ⟨hE,fun g w vals q1 q2 q3=>(hmain.2 g w vals q1 q2 q3).mono fun _ _ ⟨v,r,h',g',e1,⟨e2,es',⟨l',p1,p2⟩,p3⟩,rest⟩=>⟨v,r,h',g',e1,⟨e2,l',p1,by rw [p3,p2]⟩,rest⟩⟩
 ·intro e
  have:zs=[]:=by simpa using e
  exact absurd this hne
 ·intro g w b cap F hr hF hH hb;have hFl:F.toList=zs.map fun z=>Value.int .i64 z:=repL_vals_eq (by rw [← flat_encI]; exact hr);have hFz:F=zs.toArray.map fun z=>Value.int .i64 z:=Array.toList_inj.1 (by rw [hFl]; simp);have hH2:Holds (Value.int .i64) w b 0 zs.toArray:=fun j hj=>by
   have:=hH j (by rw [hFz]; simpa using hj)
   refine ⟨this.1.trans ?_,this.2⟩;rw [hFz,getElem!_pos _ j (by simpa using hj),getElem!_pos _ j hj];simp
  have hc:=Any.slices_Sort_int Tryz.laySortInts b 0 cap zs w hH2 hb (by omega);rw [Lm];refine hc.mono ?_
  rintro e w' ⟨rfl,n,os,rfl⟩
  have hperm:(zs.mergeSort fun x y=>decide (x≤y)).Perm zs:=List.mergeSort_perm _ _;have hlen:=hperm.length_eq;refine ⟨rfl,(zs.mergeSort fun x y=>decide (x≤y)).toArray.map fun z=>Value.int .i64 z,(zs.mergeSort fun x y=>decide (x≤y)).map encI,n,os,?_,⟨_,⟨hperm,?_⟩,rfl⟩,by simp [hlen],fun cs hcs=>?_,fun g w _=>?_,by rw [putRow_id]⟩
  ·rw [hFz]; simp [hlen]
  ·have:=List.pairwise_mergeSort (le:=fun x y:Int=>decide (x≤y)) (fun a b c h1 h2=>by simp only [decide_eq_true_eq] at *; omega) (fun a b=>by simp only [Bool.or_eq_true,decide_eq_true_eq]; omega) zs
   exact this.imp fun h=>of_decide_eq_true h
  ·obtain ⟨x,_,rfl⟩:=List.mem_map.1 hcs; rfl
  ·rw [flat_encI];have e:((zs.mergeSort fun x y=>decide (x≤y)).toArray.map fun z=>Value.int .i64 z).toList=(zs.mergeSort fun x y=>decide (x≤y)).map fun z=>Value.int .i64 z:=by simp
   rw [e];exact repL_vals _ _ _ _ fun x hx=>by
    obtain ⟨z,_,rfl⟩:=List.mem_map.1 hx; rfl

-- maps from numbers to numbers
abbrev shI:Shape:=⟨false,[.int .i64]⟩
abbrev kI (z:Int):Value:=.int .i64 z
abbrev kvI (p:Int × Int):Value × AV:=(kI p.1,vi p.2)
abbrev encSet (s:SpanL):List AV:=[sl encSpan s]
theorem kvI_mem {m:List (Int × Int)} {k:Int} {a:AV} : (kI k,a) ∈ m.map kvI↔∃ v,(k,v) ∈ m∧a=vi v:=by
 rw [List.mem_map];constructor
 ·rintro ⟨⟨k',v⟩,h1,h2⟩
  simp only [Prod.mk.injEq,Value.int.injEq,true_and] at h2;obtain ⟨rfl,rfl⟩:=h2;exact ⟨v,h1,rfl⟩
 ·rintro ⟨v,h1,rfl⟩
  exact ⟨(k,v),h1,rfl⟩
theorem mput_kv (m:List (Int × Int)) (k v:Int):mput (m.map kvI) (kI k) (vi v)=(putM m k v).map kvI:=by
 unfold putM
 by_cases h:(m.any fun p=>decide (p.1=k))=true
 ·rw [if_pos h];obtain ⟨p,h1,h2⟩:=List.any_eq_true.1 h;have h2:=of_decide_eq_true h2
  have:(kI k,vi p.2) ∈ m.map kvI:=kvI_mem.2 ⟨p.2,by rw [← h2]; exact h1,rfl⟩
  rw [mput_some this,List.map_map,List.map_map];apply List.map_congr_left;intro q _;simp only [Function.comp]
  by_cases e:q.1=k
  ·simp [e]
  ·have:¬ kI q.1=kI k:=fun c=>e (by injection c)
   simp [e]
 ·rw [if_neg h]
  have:∀ b,(kI k,b) ∉ m.map kvI:=fun b hb=>by
   obtain ⟨v,h1,_⟩:=kvI_mem.1 hb;exact h (List.any_eq_true.2 ⟨(k,v),h1,by simp⟩)
  rw [mput_none this,List.map_append]; rfl
theorem found_eq {T:Tab} {e:Nat} {kvs:List (Value × AV)} {kx:Value} {K:AV→Prop} (a0 z0:AV) (h1:∀ a,(kx,a) ∈ kvs→a=a0) (hz:(∀ a,(kx,a) ∉ kvs)→a0=z0) (h2:K z0→zeroAV T e K) (k:K a0) :
  (∀ a,(kx,a) ∈ kvs→K a)∧((∀ a,(kx,a) ∉ kvs)→zeroAV T e K):=⟨fun a h=>by rw [h1 a h]; exact k,fun hn=>h2 (hz hn▸k)⟩
theorem valM_zero (m:List (Int × Int)) (k:Int):(∀ a,(kI k,a) ∉ m.map kvI)→vi (valM m k)=vi 0:=fun hno=>by
 rw [valM_not fun hk=>by
  obtain ⟨p,hp,e⟩:=List.mem_map.1 hk;exact hno (vi p.2) (kvI_mem.2 ⟨p.2,by rw [← e]; exact hp,rfl⟩)]
theorem valM_look {m:List (Int × Int)} (hn:(keysM m).Nodup) (k:Int):∀ a,(kI k,a) ∈ m.map kvI→a=vi (valM m k):=fun a h=>by
 obtain ⟨v,h1,rfl⟩:=kvI_mem.1 h;rw [valM_mem hn h1]
theorem ChInv.bound {m:List (Int × Int)} {S:SpanL} (h:ChInv m S) (k:Int) : -(S.length:Int)≤valM m k∧valM m k≤S.length:=by
 rw [h.val]
 have:cF S k≤S.length:=List.countP_le_length
 have:cT S k≤S.length:=List.countP_le_length
 omega
theorem flat_bound (l:List SpanL):(l.map canon).flatten.length≤l.length*1000000:=by
 induction l with
 | nil=>simp
 | cons s l ih =>
  rw [List.map_cons,List.flatten_cons,List.length_append,List.length_cons]
  have:=canon_len (canon_canon s)
  omega
theorem ChInv.few {m:List (Int × Int)} {S:SpanL} (h:ChInv m S):m.length≤1000001:=by
 have:=nodup_sub_len (m:=(List.range 1000001).map Int.ofNat) h.nd fun k hk=>by
  have:=h.rng k hk
  exact List.mem_map.2 ⟨k.toNat,List.mem_range.2 (by omega),by show (k.toNat:Int)=k; omega⟩
 unfold keysM at this;rw [Lm,Lm,List.length_range] at this;exact this
theorem keptB_len (keep:Nat→Bool) (m:List (Int × Int)) (B:List Int):∀ n,(keptB keep m B n).length≤n
 | 0=>Nat.le_refl _
 | n+1=>by
  unfold keptB
  have:=keptB_len keep m B n
  rw [List.length_append];split
  ·split <;> simp <;> omega
  ·simp; omega
end Go.Eng

namespace Go.Eng
open Go.Proofs
abbrev plC:Pol:=⟨[],[(12,2)],[(44,1)],[],[],[],[],[],[],[],[8,9,15,23,25,26]⟩
theorem c139 (F:AV) (keep:Nat→Bool) (l:List SpanL) (hl:Few l) (hs:∀ s ∈ l,Few s) (hid:∀ h,idsB h F=true) (hF:∀ h (n:Int),0≤n→n≤l.length→PCallV Tryz.prog (str h F) [vi n] (vb (keep n.toNat)))
  (R:SpanL) (hR:Canon R) (hRh:∀ p,has R p=(inPl p&&keep (cnt l p))):PC 222 [F,sl encSet l] (sl encSpan R):=by
 have hl:l.length≤1073741824:=hl;refine Ps plC Tryz.func222 rfl (Nz rfl) ?_;refine Xi {p:Nat × List (Int × Int) // p.1≤l.length∧ChInv p.2 ((l.take p.1).map canon).flatten} (Xi (fun p=>⟨[(0,F),(5,.mref 15),(17,sl encSet l),(18,vi (l.map encSet).length),(19,vi p.1.1)],[(15,.map shI (p.1.2.map kvI))],hfree⟩) (Xi (fun p=>l.length - p.1.1) (Yi (Xi ⟨(0,ch0),Nat.zero_le _,ch0_inv⟩ ?_) ?_)))
 ·have e0:HO.map shI (mput (mput [] (kI 0) (vi 0)) (kI 1000000) (vi 0))=.map shI (ch0.map kvI):=by
   have e1:=mput_kv [] 0 0;have e2:=mput_kv [(0,0)] 1000000 0;show HO.map shI (mput (mput (List.map kvI []) (kI 0) (vi 0)) (kI 1000000) (vi 0))=_;rw [e1];show HO.map shI (mput (List.map kvI [(0,0)]) (kI 1000000) (vi 0))=_;rw [e2]; rfl
  exact ⟨⟨⟨rfl,hid _⟩,Zr,Zr,Zr,Zr,Tv⟩,⟨⟨e0,rfl⟩,Tv⟩,Fh,Tv⟩
 intro ⟨⟨i,cm⟩,i1,i2⟩;have i1:i≤l.length:=i1;have i2:ChInv cm ((l.take i).map canon).flatten:=i2;refine Yi ?_ ?_
 ·intro h;have h:(i:Int)<(l.map encSet).length:=h;have h:i<l.length:=by simpa using h
  have hg:l[i]?=some l[i]:=Ge h;refine Xi (encSet l[i]) (Yi (Yi (Nn i) (by simp [hg])) (Yi rfl ?_));refine Xi .pure (Xi _ (Yi (c102 l[i] (hs _ (List.getElem_mem h))) ?_));refine Xi {p:Nat × List (Int × Int) // p.1≤(canon l[i]).length∧ChInv p.2 (((l.take i).map canon).flatten++(canon l[i]).take p.1)} (Xi (fun p=>⟨[(0,F),(5,.mref 15),(17,sl encSet l),(18,vi (l.map encSet).length),(19,vi i),(24,sl encSpan (canon l[i])),(25,vi ((canon l[i]).map encSpan).length),(26,vi p.1.1)],[(15,.map shI (p.1.2.map kvI))],hfree⟩) (Xi (fun p=>(canon l[i]).length - p.1.1) (Yi (Xi ⟨(0,cm),Nat.zero_le _,by rw [List.take_zero,List.append_nil]; exact i2⟩ ?_) ?_)))
  ·exact ⟨⟨⟨rfl,hid _⟩,Zr,Zr,Zr,Zr,Zr,Zr,Zr,Tv⟩,Z1,Fh,Tv⟩
  intro ⟨⟨j,dm⟩,j1,j2⟩;have j1:j≤(canon l[i]).length:=j1;have j2:ChInv dm (((l.take i).map canon).flatten++(canon l[i]).take j):=j2;have hS:(((l.take i).map canon).flatten++(canon l[i]).take j).length≤1073741825000000:=by
   have a1:=flat_bound (l.take i);have a2:=canon_len (canon_canon l[i]);rw [List.length_take] at a1;rw [List.length_append,List.length_take]; omega
  refine Yi ?_ ?_
  ·intro hj;have hj:(j:Int)<((canon l[i]).map encSpan).length:=hj;have hj:j<(canon l[i]).length:=by simpa using hj
   have hgj:(canon l[i])[j]?=some (canon l[i])[j]:=Ge hj;have hxo:=(canon_canon l[i]).low _ (List.getElem_mem hj);have j3:ChInv (stepM dm (canon l[i])[j]) (((l.take i).map canon).flatten++(canon l[i]).take (j+1)):=by
    have:=stepM_inv j2 (x:=(canon l[i])[j]) hxo
    rw [List.append_assoc] at this;rw [List.take_add_one,hgj]; exact this
   generalize (canon l[i])[j]=x at hgj hxo j3;have b1:=j2.bound x.1;have hn1:=keysM_nodup j2.nd x.1 (valM dm x.1+1);refine Xi (encSpan x) (Yi (Yi (Nn j) (by simp [hgj])) (Yi rfl ?_));refine Yi (Nz rfl) (Yi (Nz rfl) ?_);refine Xi ⟨[(0,F),(5,.mref 15),(9,.ref 9 0),(17,sl encSet l),(18,vi (l.map encSet).length),(19,vi i),(24,sl encSpan (canon l[i])),(25,vi ((canon l[i]).map encSpan).length),(26,vi j)],[(9,.cells (encSpan x)),(15,.map shI (dm.map kvI))],hfree⟩ (Yi ⟨⟨⟨rfl,hid _⟩,Zr,Zr,Zr,Zr,Zr,Zr,Zr,Zr,Tv⟩,Z2,Fh,Tv⟩ ?_)
   refine found_eq (vi (valM dm x.1)) (vi 0) (valM_look j2.nd x.1) (valM_zero dm x.1) (fun q=>q) ?_;refine Yi (by show InI64 (valM dm x.1+1); unfold InI64; omega) ?_;have m1:HO.map shI (mput (dm.map kvI) (kI x.1) (vi (valM dm x.1+1)))=.map shI ((putM dm x.1 (valM dm x.1+1)).map kvI):=by rw [mput_kv]
   refine Xi ⟨[(0,F),(5,.mref 15),(9,.ref 9 0),(17,sl encSet l),(18,vi (l.map encSet).length),(19,vi i),(24,sl encSpan (canon l[i])),(25,vi ((canon l[i]).map encSpan).length),(26,vi j)],[(9,.cells (encSpan x)),(15,.map shI ((putM dm x.1 (valM dm x.1+1)).map kvI))],hfree⟩ (Yi ⟨⟨⟨rfl,hid _⟩,Zr,Zr,Zr,Zr,Zr,Zr,Zr,Zr,Tv⟩,⟨Zr,⟨m1,rfl⟩,Tv⟩,Fh,Tv⟩ ?_)
   have b2 : -(1073741825000001:Int)≤valM (putM dm x.1 (valM dm x.1+1)) x.2∧valM (putM dm x.1 (valM dm x.1+1)) x.2≤1073741825000001:=by
    have b3:=j2.bound x.2;rw [valM_put];split <;> omega
   refine found_eq (vi (valM (putM dm x.1 (valM dm x.1+1)) x.2)) (vi 0) (valM_look hn1 x.2) (valM_zero _ x.2) (fun q=>q) ?_;refine Yi (by show InI64 (valM (putM dm x.1 (valM dm x.1+1)) x.2 - 1); unfold InI64; omega) ?_;have hcl:=canon_len (canon_canon l[i]);refine Yi (Ii j (by omega)) ?_;have m2:HO.map shI (mput ((putM dm x.1 (valM dm x.1+1)).map kvI) (kI x.2) (vi (valM (putM dm x.1 (valM dm x.1+1)) x.2 - 1)))=.map shI ((stepM dm x).map kvI):=by rw [mput_kv]; rfl
   refine Xi ⟨(j+1,stepM dm x),by show j+1≤_; omega,j3⟩ ?_;exact ⟨by show (canon l[i]).length - (j+1)<(canon l[i]).length - j; omega,⟨⟨rfl,hid _⟩,Zr,Zr,Zr,Zr,Zr,Zr,Zr,Tv⟩,⟨⟨m2,rfl⟩,Tv⟩,Fh,Tv⟩
  ·intro hj;have hj:¬ (j:Int)<((canon l[i]).map encSpan).length:=hj;have hj:¬ j<(canon l[i]).length:=by simpa using hj
   refine Yi (Ii i (by omega)) ?_;have i3:ChInv dm ((l.take (i+1)).map canon).flatten:=by
    have e1:(canon l[i]).take j=canon l[i]:=List.take_of_length_le (by omega);rw [e1] at j2;have e2:((l.take (i+1)).map canon).flatten=((l.take i).map canon).flatten++canon l[i]:=by
     rw [List.take_add_one,hg,List.map_append,List.flatten_append];show _++(canon l[i]++[])=_;rw [List.append_nil]
    rw [e2]; exact j2
   refine Xi ⟨(i+1,dm),by show i+1≤_; omega,i3⟩ ?_;exact ⟨Dl l.length i (by omega),⟨⟨rfl,hid _⟩,Zr,Zr,Zr,Zr,Tv⟩,Z1,Fh,Tv⟩
 ·intro h;have h:¬ (i:Int)<(l.map encSet).length:=h;have h:¬ i<l.length:=by simpa using h
  have i3:ChInv cm (l.map canon).flatten:=by
   rw [List.take_of_length_le (by omega)] at i2; exact i2
  have hfew:=i3.few;have hmk:(0:Int)≤0∧(0:Int)≤((cm.map kvI).length:Int)∧((cm.map kvI).length:Int)*((8:Nat):Int)≤140737488355328∧((cm.map kvI).length:Int)≤9223372036854775807:=by rw [Lm]; omega
  refine Yi hmk ?_;refine Xi {p:List (Value × AV) × List Int × Option (Value × AV) // ((p.2.1.map kI)++p.1.map (·.1)).Perm ((cm.map kvI).map (·.1))∧∀ kv ∈ p.1,kv ∈ cm.map kvI} (Xi (fun p=>⟨[(0,F),(5,.mref 15),(10,.msl 44 p.1.2.1.length),(46,.ref 46 0)],[(15,.rom shI (cm.map kvI)),(44,.arr 1 (p.1.2.1.map encI)),(46,.iter (cm.map kvI) p.1.1 p.1.2.2)],hfree⟩) (Xi (fun p=>p.1.1.length) (Yi (Xi ⟨(cm.map kvI,[],none),.refl _,fun _ h=>h⟩ ?_) ?_)))
  ·exact ⟨⟨⟨rfl,hid _⟩,Zr,Zr,Zr,Tv⟩,Z3,Fh,Tv⟩
  intro ⟨⟨rem,bs,cur⟩,r1,r2⟩;have r1:((bs.map kI)++rem.map (·.1)).Perm ((cm.map kvI).map (·.1)):=r1;have r2:∀ kv ∈ rem,kv ∈ cm.map kvI:=r2;have hbl:bs.length≤1000001:=by
   have:=r1.length_eq
   simp only [List.length_append,Lm] at this; omega
  refine Yi ?_ ?_
  ·intro hr;have hr:rem=[]:=hr;subst hr;rw [List.map_nil,List.append_nil,List.map_map] at r1;have hpk:bs.Perm (keysM cm):=by
    have r1:(bs.map kI).Perm ((keysM cm).map kI):=by unfold keysM; rw [List.map_map]; exact r1
    have:=r1.map (fun v:Value=>match v with | .int _ n=>n | _=>0)
    rw [List.map_map,List.map_map] at this;have e:((fun v:Value=>match v with | .int _ n=>n | _=>0) ∘ kI)=id:=rfl;rw [e,List.map_id,List.map_id] at this;exact this
   have hne:bs≠[]:=fun e=>by
    subst e
    have:=hpk.length_eq
    have h0:=i3.keys.1;rw [List.eq_nil_of_length_eq_zero this.symm] at h0; cases h0
   refine Xi (.gen [(44,1000)] 0) (Yi rfl ((c179 bs (by unfold Few; omega) hne).to ?_));intro B hBs;have hBl:B.length=bs.length:=hBs.1.length_eq;have hBn:B.Nodup:=(hBs.1.trans hpk).nodup_iff.2 i3.nd;have hB:BInv B cm:=⟨hBs.1.trans hpk,by
    rw [List.pairwise_iff_getElem];intro a b ha hb hab;have h1:=(List.pairwise_iff_getElem.1 hBs.2) a b ha hb hab;have h2:B[a]≠B[b]:=(List.pairwise_iff_getElem.1 hBn) a b ha hb hab;omega⟩
   have hBpos:0<B.length:=by
    rw [hBl]; exact List.length_pos_iff.2 hne
   have hNE:bs.length=(B.map encI).length:=by rw [Lm,hBl]
   refine Yi (by show InI64 ((bs.length:Int) - 1); unfold InI64; omega) ?_;refine Xi {k:Nat // k≤B.length - 1} (Xi (fun k=>⟨[(0,F),(5,.mref 15),(10,.msl 44 bs.length),(12,.slice (.id 12 2) ((keptB keep cm B k.1).map encSpan)),(13,vi (sumM cm (B.take k.1))),(59,vi ((bs.length:Int) - 1)),(60,vi k.1)],[(12,.tok 2 ((keptB keep cm B k.1).map encSpan).length),(15,.rom shI (cm.map kvI)),(44,.arr 1 (B.map encI))],hfree⟩) (Xi (fun k=>B.length - k.1) (Yi (Xi ⟨0,Nat.zero_le _⟩ ?_) ?_)))
   ·exact ⟨⟨⟨rfl,hid _⟩,Zr,Zr,Zr,Zr,Zr,Zr,Tv⟩,Z3,Fh,Tv⟩
   intro ⟨k,k1⟩;have hkl:=keptB_len keep cm B k;refine Yi ?_ ?_
   ·intro hk;have hk:(k:Int)<(bs.length:Int) - 1:=hk;have hk2:k+1<B.length:=by omega
    have hk3:k<B.length:=by omega
    have hat:(B.map encI)[k]?=some (encI B[k]):=map_at (Ge hk3);have hat2:(B.map encI)[k+1]?=some (encI B[k+1]):=map_at (Ge hk2);have hsum:=sumM_take cm B k hk3;have hrng:=sumM_rng i3 hB k hk3;have hkept:keptB keep cm B (k+1)=keptB keep cm B k++(if keep (sumM cm (B.take (k+1))).toNat then [(B[k],B[k+1])] else []):=by
     show _++(match B[k]?,B[k+1]? with | some a,some b=>if keep (sumM cm (B.take (k+1))).toNat then [(a,b)] else [] | _,_=>[])=_;rw [Ge hk3,Ge hk2]
    refine Xi ⟨[(0,F),(5,.mref 15),(10,.msl 44 bs.length),(12,.slice (.id 12 2) ((keptB keep cm B k).map encSpan)),(13,vi (sumM cm (B.take k))),(14,vi k),(59,vi ((bs.length:Int) - 1)),(60,vi k)],[(12,.tok 2 ((keptB keep cm B k).map encSpan).length),(15,.rom shI (cm.map kvI)),(44,.arr 1 (B.map encI))],hfree⟩ (Yi ⟨⟨⟨rfl,hid _⟩,Zr,Zr,Zr,Zr,Zr,Zr,Zr,Tv⟩,Z3,Fh,Tv⟩ ?_)
    refine Yi ⟨by show (0:Int)≤k; omega,by show (k:Int)<bs.length; omega⟩ ?_;refine Yi hNE (Xi (encI B[k]) (Yi hat ?_));refine found_eq (vi (valM cm B[k])) (vi 0) (valM_look i3.nd B[k]) (valM_zero cm B[k]) (fun q=>q) ?_;refine Yi (by show InI64 (sumM cm (B.take k)+valM cm B[k]); rw [← hsum]; unfold InI64; omega) ?_;have hcall:∀ h,PCallV Tryz.prog (str h F) [vi (sumM cm (B.take k)+valM cm B[k])] (vb (keep (sumM cm (B.take (k+1))).toNat)):=fun h=>by
     rw [← hsum]; exact hF h _ hrng.1 hrng.2
    refine Or.elim (Bt (keep (sumM cm (B.take (k+1))).toNat)) (fun hp=>?_) (fun hp=>?_)
    ·rw [hp] at hcall;rw [hp,if_pos rfl] at hkept;refine Xi .pure (Xi (vb true) (Yi (hcall _) ?_));refine Xi ⟨[(0,F),(5,.mref 15),(10,.msl 44 bs.length),(12,.slice (.id 12 2) ((keptB keep cm B k).map encSpan)),(13,vi (sumM cm (B.take k)+valM cm B[k])),(14,vi k),(59,vi ((bs.length:Int) - 1)),(60,vi k)],[(12,.tok 2 ((keptB keep cm B k).map encSpan).length),(15,.rom shI (cm.map kvI)),(44,.arr 1 (B.map encI))],hfree⟩ (Yi ⟨⟨⟨rfl,hid _⟩,Zr,Zr,Zr,Zr,Zr,Zr,Zr,Tv⟩,Z3,Fh,Tv⟩ ?_)
     have b1:(0:Int)≤(k:Int)+1∧(k:Int)+1<bs.length:=by omega
     have hat3:(B.map encI)[((k:Int)+1).toNat]?=some (encI B[k+1]):=by rw [show ((k:Int)+1).toNat=k+1 by omega]; exact hat2
     refine Yi ⟨by show (0:Int)≤k; omega,by show (k:Int)<bs.length; omega⟩ ?_;refine Yi hNE (Xi (encI B[k]) (Yi hat ?_));refine Yi (Ii k (by omega)) ?_;refine Yi b1 ?_;refine Yi hNE (Xi (encI B[k+1]) (Yi hat3 ?_));have bulk:AllLen 2 [[vi B[k],vi B[k+1]]]∧((keptB keep cm B k).map encSpan).length=((keptB keep cm B k).map encSpan).length∧(((keptB keep cm B k).map encSpan).length+[[vi B[k],vi B[k+1]]].length)*16≤140737488355328∧((keptB keep cm B k).map encSpan).length+[[vi B[k],vi B[k+1]]].length≤9223372036854775807 :=
      ⟨⟨rfl,trivial⟩,rfl,by rw [Lm,List.length_singleton]; omega,by rw [Lm,List.length_singleton]; omega⟩
     refine Yi bulk ?_;refine Yi (by kernel_rfl) ?_;refine Xi ⟨[(0,F),(5,.mref 15),(10,.msl 44 bs.length),(12,.slice (.id 12 2) ((keptB keep cm B k).map encSpan++[[vi B[k],vi B[k+1]]])),(13,vi (sumM cm (B.take k)+valM cm B[k])),(59,vi ((bs.length:Int) - 1)),(60,vi k)],[(12,.tok 2 (((keptB keep cm B k).map encSpan).length+[[vi B[k],vi B[k+1]]].length)),(15,.rom shI (cm.map kvI)),(44,.arr 1 (B.map encI))],hfree⟩ (Yi ⟨⟨⟨rfl,hid _⟩,Zr,Zr,Zr,Zr,Zr,Zr,Tv⟩,Z3,Fh,Tv⟩ ?_)
     refine Yi (Ii k (by omega)) ?_;refine Xi ⟨k+1,by omega⟩ ?_;have e1:AV.slice (.id 12 2) ((keptB keep cm B k).map encSpan++[[vi B[k],vi B[k+1]]])=.slice (.id 12 2) ((keptB keep cm B (k+1)).map encSpan):=by rw [hkept,List.map_append]; rfl
     have e2:vi (sumM cm (B.take k)+valM cm B[k])=vi (sumM cm (B.take (k+1))):=by rw [hsum]
     have e3:HO.tok 2 (((keptB keep cm B k).map encSpan).length+[[vi B[k],vi B[k+1]]].length)=.tok 2 ((keptB keep cm B (k+1)).map encSpan).length:=by rw [hkept,List.map_append,List.length_append]; rfl
     exact ⟨Dl B.length k (by omega),⟨⟨rfl,hid _⟩,Zr,Zr,⟨e1,rfl⟩,⟨e2,rfl⟩,Zr,Zr,Tv⟩,⟨⟨e3,rfl⟩,Zr,Zr,Tv⟩,Fh,Tv⟩
    ·rw [hp] at hcall;have hkept:keptB keep cm B (k+1)=keptB keep cm B k:=by rw [hkept,hp,if_neg Bool.false_ne_true,List.append_nil]
     refine Xi .pure (Xi (vb false) (Yi (hcall _) ?_));refine Xi ⟨[(0,F),(5,.mref 15),(10,.msl 44 bs.length),(12,.slice (.id 12 2) ((keptB keep cm B k).map encSpan)),(13,vi (sumM cm (B.take k)+valM cm B[k])),(59,vi ((bs.length:Int) - 1)),(60,vi k)],[(12,.tok 2 ((keptB keep cm B k).map encSpan).length),(15,.rom shI (cm.map kvI)),(44,.arr 1 (B.map encI))],hfree⟩ (Yi ⟨⟨⟨rfl,hid _⟩,Zr,Zr,Zr,Zr,Zr,Zr,Tv⟩,Z3,Fh,Tv⟩ ?_)
     refine Yi (Ii k (by omega)) ?_;refine Xi ⟨k+1,by omega⟩ ?_;have e1:AV.slice (.id 12 2) ((keptB keep cm B k).map encSpan)=.slice (.id 12 2) ((keptB keep cm B (k+1)).map encSpan):=by rw [hkept]
     have e2:vi (sumM cm (B.take k)+valM cm B[k])=vi (sumM cm (B.take (k+1))):=by rw [hsum]
     have e3:HO.tok 2 ((keptB keep cm B k).map encSpan).length=.tok 2 ((keptB keep cm B (k+1)).map encSpan).length:=by rw [hkept]
     exact ⟨Dl B.length k (by omega),⟨⟨rfl,hid _⟩,Zr,Zr,⟨e1,rfl⟩,⟨e2,rfl⟩,Zr,Zr,Tv⟩,⟨⟨e3,rfl⟩,Zr,Zr,Tv⟩,Fh,Tv⟩
   ·intro hk;have hk:¬ (k:Int)<(bs.length:Int) - 1:=hk;have hk2:k=B.length - 1:=by omega
    have hcan:canon (keptB keep cm B k)=R:=by
     refine (canon_eq hR fun p=>?_).symm;rw [hk2,hRh,kept_has i3 hB]
    have hc:=c102 (keptB keep cm B k) (by unfold Few; omega);rw [hcan] at hc;refine Xi .pure (Xi _ (Yi hc ?_));exact .refl _
  ·intro kv rem' hp;refine Exists.elim (List.mem_map.1 (r2 kv (hp.mem_iff.2 (List.mem_cons_self ..)))) (fun q hq=>?_);have hq2:=hq.2;subst hq2;refine Xi ⟨[(0,F),(5,.mref 15),(10,.msl 44 bs.length),(46,.ref 46 0)],[(15,.rom shI (cm.map kvI)),(44,.arr 1 (bs.map encI)),(46,.iter (cm.map kvI) rem' (some (kvI q)))],hfree⟩ (Yi ⟨⟨⟨rfl,hid _⟩,Zr,Zr,Zr,Tv⟩,Z3,Fh,Tv⟩ ?_)
   have bulk:AllLen 1 [encI q.1]∧(bs.map encI).length=bs.length∧((bs.map encI).length+[encI q.1].length)*8≤140737488355328∧(bs.map encI).length+[encI q.1].length≤9223372036854775807 :=
    ⟨⟨rfl,trivial⟩,by rw [Lm],by rw [Lm,List.length_singleton]; omega,by rw [Lm,List.length_singleton]; omega⟩
   refine Yi bulk ?_;have e1:AV.msl 44 ((bs.map encI).length+[encI q.1].length)=.msl 44 (bs++[q.1]).length:=by simp
   have e2:HO.arr 1 (bs.map encI++[encI q.1])=.arr 1 ((bs++[q.1]).map encI):=by simp
   refine Xi ⟨(rem',bs++[q.1],some (kvI q)),?_,fun kv hkv=>r2 kv (hp.mem_iff.2 (List.mem_cons_of_mem _ hkv))⟩ ?_
   ·show (((bs++[q.1]).map kI)++rem'.map (·.1)).Perm _;have h1:=hp.map (fun x:Value × AV=>x.1);rw [List.map_cons] at h1;rw [List.map_append,List.append_assoc];exact (List.Perm.append_left _ h1.symm).trans r1
   ·exact ⟨by show rem'.length<rem.length; rw [hp.length_eq]; simp,⟨⟨rfl,hid _⟩,Zr,⟨e1,rfl⟩,Zr,Tv⟩,⟨Zr,⟨e2,rfl⟩,Zr,Tv⟩,Fh,Tv⟩
end Go.Eng

namespace Go.Eng
open Go.Proofs
theorem c140 (n:Int) (l:List SpanL):PC 278 [vi n,.cptr [sl encSet l]] (vb (decide (n=l.length))):=by
 refine Ps pl0 Tryz.func278 rfl (Nz rfl) ?_;have e:((l.map encSet).length:Int)=l.length:=by rw [Lm]
 refine Yi ?_ ?_
 ·intro h;have h:n=((l.map encSet).length:Int):=h;rw [show decide (n=(l.length:Int))=true from decide_eq_true (h.trans e)];exact .refl _
 ·intro h;have h:¬ n=((l.map encSet).length:Int):=h;rw [show decide (n=(l.length:Int))=false from decide_eq_false (fun c=>h (c.trans e.symm))];exact .refl _
theorem c143 (n:Int):PC 223 [vi n] (vb (decide (n=0))):=by
 refine Ps pl0 Tryz.func223 rfl (Nz rfl) ?_;refine Yi ?_ ?_
 ·intro h;have h:n=0:=h;rw [decide_eq_true h]; exact .refl _
 ·intro h;have h:¬ n=0:=h;rw [decide_eq_false h]; exact .refl _
theorem c263 (n:Int):PC 264 [vi n] (vb (decide (0<n))):=by
 refine Ps pl0 Tryz.func264 rfl (Nz rfl) ?_;refine Yi ?_ ?_
 ·intro h;have h:0<n:=h;rw [decide_eq_true h]; exact .refl _
 ·intro h;have h:¬ 0<n:=h;rw [decide_eq_false h]; exact .refl _
theorem keep_all (l:List SpanL) (p:Int):decide (cnt l p=l.length)=l.all fun s=>has s p:=by
 unfold cnt;rw [Bool.eq_iff_iff,decide_eq_true_eq,List.countP_eq_length,List.all_eq_true]
theorem keep_any (l:List SpanL) (p:Int):decide (0<cnt l p)=l.any fun s=>has s p:=by
 unfold cnt;rw [Bool.eq_iff_iff,decide_eq_true_eq,List.countP_pos_iff,List.any_eq_true]
theorem c101 (l:List SpanL) (hl:Few l) (hs:∀ s ∈ l,Few s):PC 262 [sl encSet l] (sl encSpan (interL l)):=by
 have hc:=c139 (.clo 278 [.cptr [sl encSet l]]) (fun n=>decide (n=l.length)) l hl hs (fun _=>rfl) (fun h n h0 _=>by
  have:=c140 n l
  have e:decide (n=(l.length:Int))=decide (n.toNat=l.length):=by rw [decide_eq_decide]; omega
  rw [e] at this; exact this) (interL l) (interL_canon l) fun p=>by rw [has_interL,keep_all]
 refine Ps (plz [1]) Tryz.func262 rfl (Nz rfl) ?_;refine Xi .pure (Xi _ (Yi (hc) ?_));exact .refl _
theorem c103 (s:SpanL) (hs:Few s):PC 190 [sl encSpan s] (sl encSpan (compl s)):=by
 have hc:=c139 (.v (fnV 223)) (fun n=>decide (n=0)) [s] (by unfold Few; simp) (fun t ht=>by rw [List.mem_singleton.1 ht]; exact hs) (fun _=>rfl) (fun h n h0 _=>by
  have:=c143 n
  have e:decide (n=0)=decide (n.toNat=0):=by rw [decide_eq_decide]; omega
  rw [e] at this; exact this) (compl s) (compl_canon s) fun p=>by
   rw [has_compl]
   have:cnt [s] p=if has s p then 1 else 0:=by unfold cnt; rw [List.countP_cons]; simp
   rw [this];cases has s p <;> rfl
 refine Ps pl0 Tryz.func190 rfl (Nz rfl) ?_;refine Xi .pure (Xi _ (Yi (hc) ?_));exact .refl _
theorem c249 (l:List SpanL) (hl:Few l) (hs:∀ s ∈ l,Few s):PC 233 [sl encSet l] (sl encSpan (unionL l)):=by
 have hc:=c139 (.v (fnV 264)) (fun n=>decide (0<n)) l hl hs (fun _=>rfl) (fun h n h0 _=>by
  have:=c263 n
  have e:decide (0<n)=decide (0<n.toNat):=by rw [decide_eq_decide]; omega
  rw [e] at this; exact this) (unionL l) (unionL_canon l) fun p=>by
   rw [has_unionL,keep_any];cases h:l.any fun s=>has s p with
   | false=>simp
   | true =>
    obtain ⟨s,_,h2⟩:=List.any_eq_true.1 h
    have:=has_in h2
    simp [inPl,this]
 refine Ps pl0 Tryz.func233 rfl (Nz rfl) ?_;refine Xi .pure (Xi _ (Yi (hc) ?_));exact .refl _
-- terms
theorem c59 (t:Tm) (ht:Few t.set):PC 229 [.agg (encTm t)] (vb (!t.absent&&(canon t.set).isEmpty)):=by
 refine Ps pl0 Tryz.func229 rfl (Nz rfl) ?_;refine Yi ?_ ?_
 ·intro h;have h:t.absent=true:=h;rw [h]; exact .refl _
 ·intro h;have h:t.absent=false:=h;refine Xi .pure (Xi _ (Yi (c102 t.set ht) ?_));refine Yi ?_ ?_
  ·intro h2;have h2:(((canon t.set).map encSpan).length:Int)=0:=h2;have h2:canon t.set=[]:=List.eq_nil_of_length_eq_zero (by rw [Lm] at h2; omega);rw [h,h2]; exact .refl _
  ·intro h2;have h2:¬ (((canon t.set).map encSpan).length:Int)=0:=h2;have h2:(canon t.set).isEmpty=false:=by
    cases hc:canon t.set with
    | nil=>rw [hc] at h2; exact absurd rfl h2
    | cons _ _=>rfl
   rw [h,h2]; exact .refl _
theorem c60 (t:Tm) (ht:Few t.set):PC 230 [.agg (encTm t)] (vb (t.absent&&(compl t.set).isEmpty)):=by
 refine Ps pl0 Tryz.func230 rfl (Nz rfl) ?_;refine Yi ?_ ?_
 ·intro h;have h:t.absent=true:=h;refine Xi .pure (Xi _ (Yi (c103 t.set ht) ?_));refine Yi ?_ ?_
  ·intro h2;have h2:(((compl t.set).map encSpan).length:Int)=0:=h2;have h2:compl t.set=[]:=List.eq_nil_of_length_eq_zero (by rw [Lm] at h2; omega);rw [h,h2]; exact .refl _
  ·intro h2;have h2:¬ (((compl t.set).map encSpan).length:Int)=0:=h2;have h2:(compl t.set).isEmpty=false:=by
    cases hc:compl t.set with
    | nil=>rw [hc] at h2; exact absurd rfl h2
    | cons _ _=>rfl
   rw [h,h2]; exact .refl _
 ·intro h;have h:t.absent=false:=h;rw [h]; exact .refl _
end Go.Eng

namespace Go.Eng
open Go.Proofs
abbrev plcut (l:List Nat):Pol:=⟨[],[],[],[],[],[],[],[],[],[],l⟩
theorem c58 (u t:Tm) (hu:Few u.set) (ht:Few t.set):PC 228 [.agg (encTm u),.agg (encTm t)] (.agg (encTm (bothT u t))):=by
 have hc:PC 262 [sl encSet [u.set,t.set]] (sl encSpan (inter u.set t.set)):=c101 [u.set,t.set] (by unfold Few; simp) (fun s hs=>by
  rcases List.mem_cons.1 hs with rfl | hs
  ·exact hu
  ·rw [List.mem_singleton.1 hs]; exact ht)
 refine Ps (plcut [1]) Tryz.func228 rfl (Nz rfl) ?_;refine Xi ⟨[(2,.ref 2 0),(3,.ref 3 0),(4,.ref 4 0)],[(2,.cells (encTm u)),(3,.cells (encTm t)),(4,.cells [vs ⟨#[]⟩,vb false,.v (.slice none 0 0)])],hfree⟩ (Yi ⟨Z3,Z3,Fh,Tv⟩ ?_)
 refine Yi ?_ ?_
 ·intro h;have h:u.absent=true:=h;refine Yi ?_ ?_
  ·intro h2;have h2:t.absent=true:=h2;have e : [vs u.path,vb true,sl encSpan (inter u.set t.set)]=encTm (bothT u t):=by unfold bothT; rw [h,h2]; rfl
   refine Xi _ (Yi (hc) ?_);refine Yi (Nz rfl) (Yi (by kernel_rfl) (Yi (Nz rfl) ?_));exact .of_eq (congrArg AV.agg e)
  ·intro h2;have h2:t.absent=false:=h2;have e : [vs u.path,vb false,sl encSpan (inter u.set t.set)]=encTm (bothT u t):=by unfold bothT; rw [h,h2]; rfl
   refine Xi _ (Yi (hc) ?_);refine Yi (Nz rfl) (Yi (by kernel_rfl) (Yi (Nz rfl) ?_));exact .of_eq (congrArg AV.agg e)
 ·intro h;have h:u.absent=false:=h;have e : [vs u.path,vb false,sl encSpan (inter u.set t.set)]=encTm (bothT u t):=by unfold bothT; rw [h]; rfl
  refine Xi _ (Yi (hc) ?_);refine Yi (Nz rfl) (Yi (by kernel_rfl) (Yi (Nz rfl) ?_));exact .of_eq (congrArg AV.agg e)
theorem c225 (u t:Tm) (hu:Few u.set) (ht:Few t.set):PC 193 [.agg (encTm u),.agg (encTm t)] (.agg (encTm (eitherT u t))):=by
 have hc:PC 233 [sl encSet [u.set,t.set]] (sl encSpan (union u.set t.set)):=c249 [u.set,t.set] (by unfold Few; simp) (fun s hs=>by
  rcases List.mem_cons.1 hs with rfl | hs
  ·exact hu
  ·rw [List.mem_singleton.1 hs]; exact ht)
 refine Ps (plcut [1]) Tryz.func193 rfl (Nz rfl) ?_;refine Xi ⟨[(2,.ref 2 0),(3,.ref 3 0),(4,.ref 4 0)],[(2,.cells (encTm u)),(3,.cells (encTm t)),(4,.cells [vs ⟨#[]⟩,vb false,.v (.slice none 0 0)])],hfree⟩ (Yi ⟨Z3,Z3,Fh,Tv⟩ ?_)
 refine Yi ?_ ?_
 ·intro h;have h:u.absent=true:=h;have e : [vs u.path,vb true,sl encSpan (union u.set t.set)]=encTm (eitherT u t):=by unfold eitherT; rw [h]; rfl
  refine Xi _ (Yi (hc) ?_);refine Yi (Nz rfl) (Yi (by kernel_rfl) (Yi (Nz rfl) ?_));exact .of_eq (congrArg AV.agg e)
 ·intro h;have h:u.absent=false:=h;refine Yi ?_ ?_
  ·intro h2;have h2:t.absent=true:=h2;have e : [vs u.path,vb true,sl encSpan (union u.set t.set)]=encTm (eitherT u t):=by unfold eitherT; rw [h,h2]; rfl
   refine Xi _ (Yi (hc) ?_);refine Yi (Nz rfl) (Yi (by kernel_rfl) (Yi (Nz rfl) ?_));exact .of_eq (congrArg AV.agg e)
  ·intro h2;have h2:t.absent=false:=h2;have e : [vs u.path,vb false,sl encSpan (union u.set t.set)]=encTm (eitherT u t):=by unfold eitherT; rw [h,h2]; rfl
   refine Xi _ (Yi (hc) ?_);refine Yi (Nz rfl) (Yi (by kernel_rfl) (Yi (Nz rfl) ?_));exact .of_eq (congrArg AV.agg e)
theorem c223 (q:Rq) (hq:Few q.set):PC 188 [.agg (encRq q)] (.agg (encTm (outside q))):=by
 refine Ps pl0 Tryz.func188 rfl (Nz rfl) ?_;refine Xi _ (Yi (c103 q.set hq) ?_);refine Yi (Nz rfl) (Yi (by kernel_rfl) (Yi (Nz rfl) ?_));exact .refl _
end Go.Eng

namespace Go.Eng
open Go.Proofs
abbrev shS:Shape:=⟨false,[.str]⟩
abbrev kvT (t:Tm):Value × AV:=(.string t.path,.agg (encTm t))
abbrev plfin (fin cut:List Nat):Pol:=⟨[],[],[],[],fin,[],[],[],[],[],cut⟩
theorem kvT_mem {m:List Tm} {p:ByteArray} {a:AV} : (Value.string p,a) ∈ m.map kvT↔∃ t ∈ m,t.path=p∧a=.agg (encTm t):=by
 rw [List.mem_map];constructor
 ·rintro ⟨t,h1,h2⟩
  simp only [Prod.mk.injEq,Value.string.injEq] at h2;exact ⟨t,h1,h2.1,h2.2.symm⟩
 ·rintro ⟨t,h1,rfl,rfl⟩
  exact ⟨t,h1,rfl⟩
theorem mput_kvT (m:List Tm) (t:Tm):mput (m.map kvT) (.string t.path) (.agg (encTm t))=(putT m t).map kvT:=by
 unfold putT
 by_cases h:(m.any fun u=>decide (u.path=t.path))=true
 ·rw [if_pos h];obtain ⟨u,h1,h2⟩:=List.any_eq_true.1 h;have h2:=of_decide_eq_true h2
  have:(Value.string t.path,AV.agg (encTm u)) ∈ m.map kvT:=kvT_mem.2 ⟨u,h1,h2,rfl⟩
  rw [mput_some this,List.map_map,List.map_map];apply List.map_congr_left;intro q _;simp only [Function.comp]
  by_cases e:q.path=t.path
  ·simp [e]
  ·have:¬ Value.string q.path=.string t.path:=fun c=>e (by injection c)
   simp [e]
 ·rw [if_neg h]
  have:∀ b,(Value.string t.path,b) ∉ m.map kvT:=fun b hb=>by
   obtain ⟨u,h1,h2,_⟩:=kvT_mem.1 hb;exact h (List.any_eq_true.2 ⟨u,h1,by simp [h2]⟩)
  rw [mput_none this,List.map_append]; rfl
theorem found_tm {m:List Tm} (hn:(pathsT m).Nodup) (p:ByteArray) {K:AV→Prop} {Z:Prop} (hy:∀ u,findT m p=some u→K (.agg (encTm u))) (hno:findT m p=none→Z) :
  (∀ a,(Value.string p,a) ∈ m.map kvT→K a)∧((∀ a,(Value.string p,a) ∉ m.map kvT)→Z) :=
 ⟨fun a h=>by
  obtain ⟨t,h1,h2,rfl⟩:=kvT_mem.1 h;subst h2;exact hy t ((findT_nodup hn).1 h1),fun h=>hno (by
  cases e:findT m p with
  | none=>rfl
  | some u=>exact absurd (kvT_mem.2 ⟨u,findT_mem e,findT_path e,rfl⟩) (h _))⟩
theorem few_can {t:Tm} (h:Canon t.set):Few t.set:=by
 unfold Few
 have:=canon_len h; omega
theorem c57 (l:List Tm) (hl:Few l) (hs:∀ t ∈ l,Few t.set):PC 227 [sl encTm l,.v (fnV 228)] (.cmap shS ((mergeM l).map kvT)):=by
 have hl:l.length≤1073741824:=hl;refine Ps (plfin [10] [5,8]) Tryz.func227 rfl (Nz rfl) ?_;refine Xi {i:Nat // i≤l.length} (Xi (fun i=>⟨[(0,sl encTm l),(1,.v (fnV 228)),(5,.mref 10),(11,sl encTm l),(12,vi (l.map encTm).length),(13,vi i.1)],[(10,.map shS ((mergeM (l.take i.1)).map kvT))],hfree⟩) (Xi (fun i=>l.length - i.1) (Yi (Xi ⟨0,Nat.zero_le _⟩ ?_) ?_)))
 ·exact ⟨Z6,Z1,Fh,Tv⟩
 intro ⟨i,h1⟩;have hn:=mergeM_nodup (l.take i);refine Yi ?_ ?_
 ·intro h;have h:(i:Int)<(l.map encTm).length:=h;have h:i<l.length:=by simpa using h
  have hg:l[i]?=some l[i]:=Ge h;refine Xi (encTm l[i]) (Yi (Yi (Nn i) (by simp [hg])) (Yi rfl ?_));refine Yi (Nz rfl) (Yi (Nz rfl) ?_);have hget:=hs l[i] (List.getElem_mem h);refine Xi ⟨[(0,sl encTm l),(1,.v (fnV 228)),(5,.mref 10),(7,.ref 7 0),(11,sl encTm l),(12,vi (l.map encTm).length),(13,vi i)],[(7,.cells (encTm l[i])),(10,.map shS ((mergeM (l.take i)).map kvT))],hfree⟩ (Yi ⟨Z7,Z2,Fh,Tv⟩ ?_)
  have tail:∀ u:Tm,Few u.set→bothT u l[i]=putO (findT (mergeM (l.take i)) l[i].path) l[i]→mput ((mergeM (l.take i)).map kvT) (.string l[i].path) (.agg (encTm (bothT u l[i])))=(mergeM (l.take (i+1))).map kvT:=fun u hu e=>by
   have hp:(putO (findT (mergeM (l.take i)) l[i].path) l[i]).path=l[i].path:=putO_path _ _ fun u h=>findT_path h;have e2:=mput_kvT (mergeM (l.take i)) (bothT u l[i]);have e3:(bothT u l[i]).path=l[i].path:=by rw [e]; exact hp
   rw [e3] at e2;rw [e2,mergeM_take l i h,e]; rfl
  refine found_tm hn l[i].path (fun u hu=>?_) (fun hu=>?_)
  ·have hus:Few u.set:=few_can (mergeM_canon _ u (findT_mem hu));refine Yi (Nz rfl) ?_;refine Xi ⟨[(0,sl encTm l),(1,.v (fnV 228)),(5,.mref 10),(7,.ref 7 0),(8,.ref 8 0),(11,sl encTm l),(12,vi (l.map encTm).length),(13,vi i)],[(7,.cells (encTm l[i])),(8,.cells (encTm u)),(10,.map shS ((mergeM (l.take i)).map kvT))],hfree⟩ (Yi ⟨Z8,Z3,Fh,Tv⟩ ?_)
   have hput:=tail u hus (by rw [putO_eq,hu]; rfl);refine Yi (Nz rfl) (Yi (Nz rfl) ?_);refine Xi _ (Yi (c58 u l[i] hus hget) ?_);refine Yi (by kernel_rfl) ?_;refine Yi (Ii i (by omega)) ?_;refine Xi ⟨i+1,by omega⟩ ?_;have e1:HO.map shS (mput ((mergeM (l.take i)).map kvT) (.string l[i].path) (.agg (encTm (bothT u l[i]))))=.map shS ((mergeM (l.take (i+1))).map kvT):=by rw [hput]
   exact ⟨Dl l.length i (by omega),Z6,⟨⟨e1,rfl⟩,Tv⟩,Fh,Tv⟩
  ·refine Yi (Nz rfl) ?_;refine Yi (Nz rfl) (Yi (Nz rfl) ?_);refine Xi ⟨[(0,sl encTm l),(1,.v (fnV 228)),(5,.mref 10),(7,.ref 7 0),(8,.ref 8 0),(11,sl encTm l),(12,vi (l.map encTm).length),(13,vi i)],[(7,.cells (encTm l[i])),(8,.cells (encTm l[i])),(10,.map shS ((mergeM (l.take i)).map kvT))],hfree⟩ (Yi ⟨Z8,Z3,Fh,Tv⟩ ?_)
   have hput:=tail l[i] hget (by rw [putO_eq,hu]; rfl);refine Yi (Nz rfl) (Yi (Nz rfl) ?_);refine Xi _ (Yi (c58 l[i] l[i] hget hget) ?_);refine Yi (by kernel_rfl) ?_;refine Yi (Ii i (by omega)) ?_;refine Xi ⟨i+1,by omega⟩ ?_;have e1:HO.map shS (mput ((mergeM (l.take i)).map kvT) (.string l[i].path) (.agg (encTm (bothT l[i] l[i]))))=.map shS ((mergeM (l.take (i+1))).map kvT):=by rw [hput]
   exact ⟨Dl l.length i (by omega),Z6,⟨⟨e1,rfl⟩,Tv⟩,Fh,Tv⟩
 ·intro h;have h:¬ (i:Int)<(l.map encTm).length:=h;have h:¬ i<l.length:=by simpa using h
  have e:(mergeM (l.take i)).map kvT=(mergeM l).map kvT:=by rw [List.take_of_length_le (by omega)]
  exact .of_eq (congrArg (AV.cmap shS) e)
end Go.Eng

namespace Go.Eng
open Go.Proofs
abbrev canRes (l:List Tm):AV:=.tup [sl encTm (ofT l),vb (canonT l).isSome]
abbrev pl29:Pol:=⟨[],[],[(4,3)],[],[],[],[],[],[],[(25,4)],[4,7,10]⟩
abbrev arrTm (l:List Tm):HO:=.arr 3 (l.map encTm)
abbrev keepT (l:List Tm):List Tm:=l.filter fun t=>!alwaysT t
theorem next_kv {l:List Tm} {kv:Value × AV} {rem' : List (Value × AV)} (h:(l.map kvT).Perm (kv :: rem')):∃ t r,kv=kvT t∧rem'=r.map kvT∧l.Perm (t :: r):=by
 obtain ⟨ps,h1,h2⟩:=perm_map_ex h l rfl;cases ps with
 | nil=>cases h2
 | cons t r =>
  rw [List.map_cons,List.cons.injEq] at h2;exact ⟨t,r,h2.1.symm,h2.2.symm,h1.symm⟩
theorem canon_never {l:List Tm} {t:Tm} (h:t ∈ mergeM l) (hn:neverT t=true):canonT l=none:=by
 unfold canonT;rw [if_pos (List.any_eq_true.2 ⟨t,(mem_merge l t).1 h,hn⟩)]
theorem canon_some {l done s:List Tm} (h:done.Perm (mergeM l)) (hn:∀ t ∈ done,neverT t=false) (hp:s.Perm (keepT done)) (hs:s.Pairwise fun x y=>blt y.path x.path=false):canonT l=some s:=by
 unfold canonT;rw [if_neg]
 ·congr 1
  exact (canonT_of_sorted _ (hp.trans (h.filter _)) hs).symm
 ·intro c;obtain ⟨t,h1,h2⟩:=List.any_eq_true.1 c
  have:=hn t (h.mem_iff.2 ((mem_merge l t).2 h1))
  rw [h2] at this; cases this
theorem keepT_len (l:List Tm):(keepT l).length≤l.length:=List.length_filter_le _ _
theorem c29 (l:List Tm) (hl:Few l) (hs:∀ t ∈ l,Few t.set):PC 192 [sl encTm l] (canRes l):=by
 have hl2:l.length≤1073741824:=hl;have hml:(mergeM l).length≤l.length:=by have:=mergeM_len l l.length (Nat.le_refl _); rwa [List.take_length] at this
 refine Ps pl29 Tryz.func192 rfl (Nz rfl) ?_;refine Xi .pure (Xi _ (Yi (c57 l hl hs) ?_));refine Xi {p:List Tm × List Tm × Option (Value × AV) // (p.1++p.2.1).Perm (mergeM l)∧∀ t ∈ p.1,neverT t=false} (Xi (fun p=>⟨[(4,.msl 4 (keepT p.1.1).length),(9,.ref 9 0)],[(4,arrTm (keepT p.1.1)),(9,.iter ((mergeM l).map kvT) (p.1.2.1.map kvT) p.1.2.2)],hfree⟩) (Xi (fun p=>p.1.2.1.length) (Yi (Xi ⟨([],mergeM l,none),.refl _,fun t ht=>by cases ht⟩ ?_) ?_)))
 ·exact ⟨Z2,Z2,Fh,Tv⟩
 intro ⟨⟨done,rem,cur⟩,r1,r2⟩;have r1:(done++rem).Perm (mergeM l):=r1;have r2:∀ t ∈ done,neverT t=false:=r2;have hdl:done.length+rem.length≤l.length:=by have:=r1.length_eq; rw [List.length_append] at this; omega
 have hkl:=keepT_len done;refine Yi ?_ ?_
 ·intro hr;have hr:rem.map kvT=[]:=hr;have hr:rem=[]:=List.map_eq_nil_iff.1 hr;subst hr;rw [List.append_nil] at r1;refine Xi (.gen [(4,1000)] 0) (Yi rfl ((c61 (keepT done) (by unfold Few; omega)).to ?_));intro s hq;have hsl:s.length=(keepT done).length:=hq.1.length_eq;have hc:=canon_some r1 r2 hq.1 hq.2;refine Xi ⟨[(4,.msl 4 (keepT done).length)],[(4,arrTm s)],hfree⟩ (Yi ⟨Z1,Z1,Fh,Tv⟩ ?_)
  refine Yi (by rw [Lm,hsl]) ?_;have e:AV.tup [sl encTm s,vb true]=canRes l:=by unfold canRes ofT; rw [hc]; rfl
  exact .of_eq e
 ·intro kv rem' hp;refine Exists.elim (next_kv hp) (fun t hp=>Exists.elim hp (fun r hp=>?_));have e1:=hp.1;have e2:=hp.2.1;subst e1;subst e2;have hp:=hp.2.2;have htm:t ∈ mergeM l:=r1.mem_iff.1 (List.mem_append_right _ (hp.mem_iff.2 (List.mem_cons_self ..)));have htc:=mergeM_canon l t htm;have htf:=few_can htc;refine Xi ⟨[(4,.msl 4 (keepT done).length),(9,.ref 9 0)],[(4,arrTm (keepT done)),(9,.iter ((mergeM l).map kvT) (r.map kvT) (some (kvT t)))],hfree⟩ (Yi ⟨Z2,Z2,Fh,Tv⟩ ?_)
  refine Yi (Nz rfl) (Yi (Nz rfl) ?_);have hv:PC 229 [.agg (encTm t)] (vb (neverT t)):=never_eq htc▸c59 t htf;have ha:PC 230 [.agg (encTm t)] (vb (alwaysT t)):=always_eq htc▸c60 t htf;refine Or.elim (Bt (neverT t)) (fun h=>?_) (fun h=>?_)
  ·rw [h] at hv;refine Xi .pure (Xi _ (Yi (hv) ?_));have hc:=canon_never htm h;have e:AV.tup [.slice .none [],vb false]=canRes l:=by unfold canRes ofT; rw [hc]; rfl
   have e0:Sub (.tup [.v (.slice none 0 0),vb false]) (.tup [.slice .none [],vb false]):=Sub.tup ⟨.nil,.refl _,trivial⟩;exact e0.trans (.of_eq e)
  ·rw [h] at hv;refine Xi .pure (Xi _ (Yi (hv) ?_));refine Xi ⟨[(4,.msl 4 (keepT done).length),(6,.ref 6 0),(9,.ref 9 0)],[(4,arrTm (keepT done)),(6,.cells (encTm t)),(9,.iter ((mergeM l).map kvT) (r.map kvT) (some (kvT t)))],hfree⟩ (Yi ⟨Z3,Z3,Fh,Tv⟩ ?_)
   refine Yi (Nz rfl) ?_;have hpm:((done++[t])++r).Perm (mergeM l):=by
    rw [List.append_assoc];exact (List.Perm.append_left _ hp.symm).trans r1
   have hnv:∀ u ∈ done++[t],neverT u=false:=fun u hu=>by
    rcases List.mem_append.1 hu with hu | hu
    ·exact r2 u hu
    ·rw [List.mem_singleton.1 hu]; exact h
   have hrl:r.length<rem.length:=by rw [hp.length_eq,List.length_cons]; omega
   refine Or.elim (Bt (alwaysT t)) (fun h2=>?_) (fun h2=>?_)
   rotate_left
   ·rw [h2] at ha;refine Xi .pure (Xi _ (Yi (ha) ?_));have bulk:AllLen 3 [encTm t]∧((keepT done).map encTm).length=(keepT done).length∧(((keepT done).map encTm).length+[encTm t].length)*48≤140737488355328∧((keepT done).map encTm).length+[encTm t].length≤9223372036854775807 :=
     ⟨⟨rfl,trivial⟩,by rw [Lm],by rw [Lm,List.length_singleton]; omega,by rw [Lm,List.length_singleton]; omega⟩
    refine Yi (Nz rfl) ?_;refine Yi bulk ?_;have hk:keepT (done++[t])=keepT done++[t]:=by unfold keepT; rw [List.filter_append,List.filter_cons,if_pos (by rw [h2]; rfl)]; rfl
    have e1:AV.msl 4 (((keepT done).map encTm).length+[encTm t].length)=.msl 4 (keepT (done++[t])).length:=by rw [hk]; simp
    have e2:HO.arr 3 ((keepT done).map encTm++[encTm t])=arrTm (keepT (done++[t])):=by rw [hk]; simp
    refine Xi ⟨(done++[t],r,some (kvT t)),hpm,hnv⟩ ?_;exact ⟨hrl,⟨⟨e1,rfl⟩,Zr,Tv⟩,⟨⟨e2,rfl⟩,Zr,Tv⟩,Fh,Tv⟩
   ·rw [h2] at ha;refine Xi .pure (Xi _ (Yi (ha) ?_));have hk:keepT (done++[t])=keepT done:=by unfold keepT; rw [List.filter_append,List.filter_cons,if_neg (by rw [h2]; decide)]; simp
    have e1:AV.msl 4 (keepT done).length=.msl 4 (keepT (done++[t])).length:=by rw [hk]
    have e2:arrTm (keepT done)=arrTm (keepT (done++[t])):=by rw [hk]
    refine Xi ⟨(done++[t],r,some (kvT t)),hpm,hnv⟩ ?_;exact ⟨hrl,⟨⟨e1,rfl⟩,Zr,Tv⟩,⟨⟨e2,rfl⟩,Zr,Tv⟩,Fh,Tv⟩
end Go.Eng

namespace Go.Eng
open Go.Proofs
theorem c222 (l:List Tm) (hl:Few l) (hs:∀ t ∈ l,Few t.set):PC 187 [sl encTm l] (sl encTm (ofT l)):=by
 refine Ps pl0 Tryz.func187 rfl (Nz rfl) ?_;refine Xi .pure (Xi _ (Yi (c29 l hl hs) ?_));exact .refl _
theorem few_compl (s:SpanL):Few (compl s):=by
 unfold Few; have:=canon_len (compl_canon s); omega
theorem few1 {α:Type} (x:α):Few [x]:=by unfold Few; simp
theorem few2 {α:Type} (x y:α):Few [x,y]:=by unfold Few; simp
theorem c191 (q:Rq) (hq:Few q.set):PC 133 [.agg (encRq q)] (sl encTm (rootT q)):=by
 have hc:PC 187 [sl encTm [outside q]] (sl encTm (rootT q)):=c222 [outside q] (few1 _) fun t ht=>by rw [List.mem_singleton.1 ht]; exact few_compl _
 refine Ps pl0 Tryz.func133 rfl (Nz rfl) ?_;refine Yi (Nz rfl) ?_;refine Xi .pure (Xi _ (Yi (c223 q hq) ?_));refine Xi .pure (Xi _ (Yi (hc) ?_));exact .refl _
theorem c193 (p:ByteArray) (pl:Int) (q:Rq) (hp:InI64 (pl+1)) (hq:Few q.set):PC 134 [vs p,vi pl,.agg (encRq q)] (sl encTm (requiresT p pl q)):=by
 have hc:PC 187 [sl encTm [⟨p,false,[(pl,pl+1)]⟩,outside q]] (sl encTm (requiresT p pl q)):=c222 [⟨p,false,[(pl,pl+1)]⟩,outside q] (few2 _ _) fun t ht=>by
  rcases List.mem_cons.1 ht with rfl | ht
  ·exact few1 _
  ·rw [List.mem_singleton.1 ht]; exact few_compl _
 refine Ps pl0 Tryz.func134 rfl (Nz rfl) ?_;refine Yi hp ?_;refine Yi (Nz rfl) ?_;refine Xi .pure (Xi _ (Yi (c223 q hq) ?_));refine Xi .pure (Xi _ (Yi (hc) ?_));exact .refl _
theorem c194 (p:ByteArray) (s:SpanL) (hs:Few s):PC 137 [vs p,sl encSpan s] (sl encTm (noneT p s)):=by
 have hc:PC 187 [sl encTm [⟨p,false,compl s⟩]] (sl encTm (noneT p s)):=c222 [⟨p,false,compl s⟩] (few1 _) fun t ht=>by rw [List.mem_singleton.1 ht]; exact few_compl _
 refine Ps pl0 Tryz.func137 rfl (Nz rfl) ?_;refine Xi .pure (Xi _ (Yi (c103 s hs) ?_));refine Xi .pure (Xi _ (Yi (hc) ?_));exact .refl _
end Go.Eng
