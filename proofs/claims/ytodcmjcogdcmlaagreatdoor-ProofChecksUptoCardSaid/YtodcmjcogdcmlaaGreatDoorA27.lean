/- Lemmas for the claims of this seat, without a condition: part 27 (R28, R29, R30). -/
import Derived.Test.YtodcmjcogdcmlaaGreatDoorA26
namespace Go.Eng
open Go.Proofs
abbrev encInt (n:Int):List AV:=[vi n]
def availY (x:List Rl) (y:Sl):Bool:=match findRl x y with | some r=>!r.yanked | none=>false
def exclB (N:List Rq) (p:ByteArray) (pl:Int):Bool:=N.any fun q=>decide (q.path=p)&&!has q.set pl
def verAt (x:List Rl) (p:ByteArray) (pl:Int):Ver:=match releaseP x p pl with | some r=>r.ver | none=>⟨0,0,0⟩
def skipQ (N:List Rq) (p:ByteArray) (pl:Int) (o:Rl):Bool:=decide (o.path=p)&&!o.yanked&&decide (plc o.ver<pl)&&!exclB N p (plc o.ver)
def skipL (x:List Rl) (N:List Rq) (p:ByteArray) (pl:Int):List Int:=(x.filter (skipQ N p pl)).map fun o=>plc o.ver
theorem all_upto {α:Type} {f:α→Bool} {l:List α} (h:∀ j (hj:j<l.length),f l[j]=true):l.all f=true:=by
 rw [List.all_eq_true]; intro y hy;obtain ⟨j,hj,rfl⟩:=List.getElem_of_mem hy;exact h j hj
theorem all_bad {α:Type} {f:α→Bool} {l:List α} {j:Nat} (hj:j<l.length) (h:f l[j]=false):l.all f=false:=by
 rw [Bool.eq_false_iff]; intro hc;rw [List.all_eq_true] at hc
 have:=hc _ (List.getElem_mem hj); rw [h] at this; cases this
theorem any_upto {α:Type} {f:α→Bool} {l:List α} (h:∀ j (hj:j<l.length),f l[j]=false):l.any f=false:=by
 rw [List.any_eq_false]; intro y hy;obtain ⟨j,hj,rfl⟩:=List.getElem_of_mem hy;rw [h j hj]; decide
theorem any_hit {α:Type} {f:α→Bool} {l:List α} {j:Nat} (hj:j<l.length) (h:f l[j]=true):l.any f=true:=List.any_eq_true.2 ⟨_,List.getElem_mem hj,h⟩
theorem skipL_take {x:List Rl} {N:List Rq} {p:ByteArray} {pl:Int} {i:Nat} (h:i<x.length):skipL (x.take (i+1)) N p pl=skipL (x.take i) N p pl++(if skipQ N p pl x[i] then [plc x[i].ver] else []):=by
 unfold skipL;rw [List.take_add_one,Ge h,List.filter_append,List.map_append]
 congr 1
 show ([x[i]].filter _).map _=_;rw [List.filter_cons];split <;> rfl
theorem skipL_len (x:List Rl) (N:List Rq) (p:ByteArray) (pl:Int):(skipL x N p pl).length≤x.length:=by
 unfold skipL; rw [Lm]; exact List.length_filter_le ..
section
variable {N:List Rq} {p:ByteArray} {pl:Int} {o:Rl}
theorem sq_path (h:¬ o.path=p):skipQ N p pl o=false:=by unfold skipQ; rw [decide_eq_false h]; rfl
theorem sq_yank (h:o.yanked=true):skipQ N p pl o=false:=by unfold skipQ; rw [h]; simp
theorem sq_ge (h:¬ plc o.ver<pl):skipQ N p pl o=false:=by unfold skipQ; rw [decide_eq_false h]; simp
theorem sq_excl (h:exclB N p (plc o.ver)=true):skipQ N p pl o=false:=by unfold skipQ; rw [h]; simp
theorem sq_yes (h1:o.path=p) (h2:o.yanked=false) (h3:plc o.ver<pl) (h4:exclB N p (plc o.ver)=false):skipQ N p pl o=true:=by
 unfold skipQ; rw [decide_eq_true h1,h2,decide_eq_true h3,h4]; rfl
end
theorem plc_val {v:Ver} (h:validB v=true):place v=plc v:=by unfold plc; rw [if_pos h]
set_option maxHeartbeats 4000000 in
theorem c49 (x:List Rl) (ifs:List (List AV)) (s:List Sl) (hx:∀ r ∈ x,FewR r) (hxl:Few x) (hs:s.length≤1000000):PC 49 [.agg (Ic x ifs),sl encSl s] (vb (s.all (availY x))):=by
 have c83f:∀ (p:ByteArray) (v:Ver),PC 83 [ixV x ifs,vs p,.agg (encVer v)] (optRl (findRl x ⟨p,v⟩)):=fun p v=>c83 x ifs p v hx hxl;refine Ps ⟨[],[],[],[],[],[],[],[],[],[],[5]⟩ Tryz.func49 rfl (Nz rfl) ?_;refine Xi {i:Nat // i≤s.length∧∀ j (h:j<s.length),j<i→availY x s[j]=true} (Xi (fun q=>⟨[(1,sl encSl s),(2,.ref 2 0),(5,vi q.1)],[(2,.cells (Ic x ifs))],hfree⟩) (Xi (fun q=>s.length - q.1) (Yi (Xi ⟨0,Nat.zero_le _,fun j _ h=>by omega⟩ ?_) ?_)))
 ·exact ⟨Z3,Z1,Fh,Tv⟩
 intro ⟨i,i1,i2⟩;refine Yi (fun h1=>?_) (fun h1=>?_)
 ·have h1:(i:Int)<((s.map encSl).length:Int):=h1;have n1:i<s.length:=by have q:=h1; rw [Lm] at q; omega
  have g1:s[i]?=some s[i]:=Ge n1;refine Yi (Nz rfl) ?_;refine Xi (encSl s[i]) (Yi (Yi (Nn i) (map_at g1)) (Yi rfl ?_));refine Xi (encSl s[i]) (Yi (Yi (Nn i) (map_at g1)) (Yi rfl ?_));refine Yi (Nz rfl) ?_;refine Or.elim (opt_cases (findRl x ⟨s[i].path,s[i].ver⟩)) (fun h2=>?_) (fun h2=>?_)
  ·refine Exists.elim h2 (fun r h2=>?_);have hc2:=c83f s[i].path s[i].ver;rw [h2] at hc2;refine Xi _ (Yi hc2 ?_);refine Yi (Nz rfl) ?_;refine Yi (by kernel_rfl) ?_;refine Xi ⟨[(1,sl encSl s),(2,.ref 2 0),(5,vi i),(6,.ref 6 0),(7,vb true)],[(2,.cells (Ic x ifs)),(6,.cells (encRl r))],hfree⟩ (Yi ⟨Z5,Z2,Fh,Tv⟩ ?_)
   refine Yi (fun h3=>?_) (fun h3=>?_)
   ·have h3:r.yanked=true:=h3;exact .of_eq (congrArg vb (show false=s.all (availY x) from (all_bad n1 (by unfold availY; rw [show findRl x s[i]=some r from h2]; show (!r.yanked)=_; rw [h3]; rfl)).symm))
   have h3:r.yanked=false:=h3;refine Yi (Ii i (by omega)) ?_;refine Xi ⟨i+1,by omega,fun j hj hji=>(Nat.lt_or_ge j i).elim (i2 j hj) (fun z=>by have e:i=j:=(by omega); subst e; exact (by unfold availY; rw [show findRl x s[i]=some r from h2]; show (!r.yanked)=_; rw [h3]; rfl))⟩ ?_;exact ⟨Dl s.length i (by omega),Z3,Z1,Fh,Tv⟩
  have hc2:=c83f s[i].path s[i].ver;rw [h2] at hc2;refine Xi _ (Yi hc2 ?_);refine Yi (Nz rfl) ?_;refine Yi (by kernel_rfl) ?_;refine Xi ⟨[(1,sl encSl s),(2,.ref 2 0),(5,vi i),(6,.ref 6 0),(7,vb false)],[(2,.cells (Ic x ifs)),(6,.cells [vs ⟨#[]⟩,vi 0,vi 0,vi 0,.v (.slice none 0 0),vs ⟨#[]⟩,vs ⟨#[]⟩,vs ⟨#[]⟩,vb false])],hfree⟩ (Yi ⟨Z5,Z2,Fh,Tv⟩ ?_)
  exact .of_eq (congrArg vb (show false=s.all (availY x) from (all_bad n1 (by unfold availY; rw [show findRl x s[i]=none from h2])).symm))
 have h1:¬ ((i:Int)<((s.map encSl).length:Int)):=h1;have n1:¬ i<s.length:=by have q:=h1; rw [Lm] at q; omega
 exact .of_eq (congrArg vb (show true=s.all (availY x) from (all_upto fun j hj=>i2 j hj (by omega)).symm))
set_option maxHeartbeats 4000000 in
theorem c134 (x:List Rl) (ifs:List (List AV)) (roots:List Rq) (s:List Sl) (p:ByteArray) (pl:Int) (hx:∀ r ∈ x,FewR r) (hxl:Few x) (hrq:∀ q ∈ roots,Few q.set) (hrl:roots.length≤1000000) (hs:s.length≤1000000):PC 134 [.agg (Ic x ifs),sl encRq roots,sl encSl s,vs p,vi pl] (vb (exclB (needsP x roots s) p pl)):=by
 obtain ⟨N,hN⟩ : ∃ N,N=needsP x roots s:=⟨_,rfl⟩;have h125:=c125 x ifs roots s hx hxl hrl hs;have hNl:=needsP_len x roots s;have hNf:=needsP_few hx hrq s;rw [← hN] at h125 hNl hNf ⊢;refine Ps ⟨[],[],[],[],[],[],[],[],[],[],[4,6]⟩ Tryz.func134 rfl (Nz rfl) ?_;refine Yi (Nz rfl) ?_;refine Xi .pure (Xi _ (Yi h125 ?_));refine Xi {i:Nat // i≤N.length∧∀ j (h:j<N.length),j<i→(decide (N[j].path=p)&&!has N[j].set pl)=false} (Xi (fun q=>⟨[(3,vs p),(4,vi pl),(11,sl encRq N),(12,vi q.1)],[],hfree⟩) (Xi (fun q=>N.length - q.1) (Yi (Xi ⟨0,Nat.zero_le _,fun j _ h=>by omega⟩ ?_) ?_)))
 ·exact ⟨Z4,Tv,Fh,Tv⟩
 intro ⟨i,i1,i2⟩;refine Yi (fun h1=>?_) (fun h1=>?_)
 ·have h1:(i:Int)<((N.map encRq).length:Int):=h1;have n1:i<N.length:=by have q:=h1; rw [Lm] at q; omega
  have g1:N[i]?=some N[i]:=Ge n1;refine Xi (encRq N[i]) (Yi (Yi (Nn i) (map_at g1)) (Yi rfl ?_));refine Yi (fun h2=>?_) (fun h2=>?_)
  ·have h2:(N[i].path:ByteArray)=p:=h2;refine Xi (encRq N[i]) (Yi (Yi (Nn i) (map_at g1)) (Yi rfl ?_));refine Or.elim (Bt (has N[i].set pl)) (fun h3=>?_) (fun h3=>?_)
   ·have h3:(has N[i].set pl)=true:=h3;have hc4:=c132 N[i].set pl (hNf _ (List.getElem_mem n1));rw [show (has N[i].set pl)=true from h3] at hc4;refine Xi .pure (Xi _ (Yi hc4 ?_));refine Xi ⟨[(3,vs p),(4,vi pl),(11,sl encRq N),(12,vi i)],[],hfree⟩ (Yi ⟨Z4,Tv,Fh,Tv⟩ ?_)
    refine Yi (Ii i (by omega)) ?_;refine Xi ⟨i+1,by omega,fun j hj hji=>(Nat.lt_or_ge j i).elim (i2 j hj) (fun z=>by have e:i=j:=(by omega); subst e; exact (by rw [decide_eq_true h2,show has N[i].set pl=true from h3]; rfl))⟩ ?_;exact ⟨Dl N.length i (by omega),Z4,Tv,Fh,Tv⟩
   have h3:(has N[i].set pl)=false:=h3;have hc6:=c132 N[i].set pl (hNf _ (List.getElem_mem n1));rw [show (has N[i].set pl)=false from h3] at hc6;refine Xi .pure (Xi _ (Yi hc6 ?_));refine Xi ⟨[],[],hfree⟩ (Yi ⟨Tv,Tv,Fh,Tv⟩ ?_)
   exact .of_eq (congrArg vb (show true=exclB N p pl from Eq.symm (show N.any (fun q=>decide (q.path=p)&&!has q.set pl)=true from any_hit n1 (by rw [decide_eq_true h2,show has N[i].set pl=false from h3]; rfl))))
  have h2:¬ (N[i].path:ByteArray)=p:=h2;refine Xi ⟨[(3,vs p),(4,vi pl),(11,sl encRq N),(12,vi i)],[],hfree⟩ (Yi ⟨Z4,Tv,Fh,Tv⟩ ?_)
  refine Yi (Ii i (by omega)) ?_;refine Xi ⟨i+1,by omega,fun j hj hji=>(Nat.lt_or_ge j i).elim (i2 j hj) (fun z=>by have e:i=j:=(by omega); subst e; exact (by rw [decide_eq_false h2,Bool.false_and]))⟩ ?_;exact ⟨Dl N.length i (by omega),Z4,Tv,Fh,Tv⟩
 have h1:¬ ((i:Int)<((N.map encRq).length:Int)):=h1;have n1:¬ i<N.length:=by have q:=h1; rw [Lm] at q; omega
 exact .of_eq (congrArg vb (show false=exclB N p pl from (any_upto fun j hj=>i2 j hj (by omega)).symm))
set_option maxHeartbeats 4000000 in
theorem c97 (x:List Rl) (ifs:List (List AV)) (s:List Sl) (p:ByteArray) (pl:Int) (hxl:Few x) (hv:∀ r ∈ x,validB r.ver=true) (hs:s.length≤1000000):PC 97 [.agg (Ic x ifs),sl encSl s,vs p,vi pl] (sl encSl (s++[(⟨p,verAt x p pl⟩ : Sl)])):=by
 refine Ps ⟨[],[],[],[],[],[],[],[],[],[],[2]⟩ Tryz.func97 rfl (Nz rfl) ?_;refine Yi (Nz rfl) ?_;refine Or.elim (opt_cases (releaseP x p pl)) (fun h1=>?_) (fun h1=>?_)
 ·refine Exists.elim h1 (fun r h1=>?_);have hc1:=c70 x ifs p pl hxl hv;rw [h1] at hc1;refine Xi .pure (Xi _ (Yi hc1 ?_));refine Yi (Nz rfl) ?_;refine Xi ⟨[(1,sl encSl s),(2,vs p),(9,.ref 9 0)],[(9,.cells (encRl r))],hfree⟩ (Yi ⟨Z3,Z1,Fh,Tv⟩ ?_)
  have b2:AllLen 4 (s.map encSl)∧([]:List (List AV)).length=0∧(([]:List (List AV)).length+(s.map encSl).length)*40≤140737488355328∧([]:List (List AV)).length+(s.map encSl).length≤9223372036854775807:=⟨(allLen_map (enc:=encSl) (n:=4) (fun _=>rfl) s),(by simp),(by simp only [Lm,List.length_nil]; omega),(by simp only [Lm,List.length_nil]; omega)⟩;refine Yi b2 ?_;refine Yi (Nz rfl) ?_;have b3:AllLen 4 [[vs p,vi r.ver.a,vi r.ver.b,vi r.ver.c]]∧(([]++(s.map encSl)):List (List AV)).length=(([]:List (List AV)).length+(s.map encSl).length)∧((([]++(s.map encSl)):List (List AV)).length+([[vs p,vi r.ver.a,vi r.ver.b,vi r.ver.c]]:List (List AV)).length)*40≤140737488355328∧(([]++(s.map encSl)):List (List AV)).length+([[vs p,vi r.ver.a,vi r.ver.b,vi r.ver.c]]:List (List AV)).length≤9223372036854775807:=⟨⟨rfl,trivial⟩,(by simp),(by simp only [Lm,List.length_append,List.length_cons,List.length_nil]; omega),(by simp only [Lm,List.length_append,List.length_cons,List.length_nil]; omega)⟩;refine Yi b3 ?_;refine Yi (by kernel_rfl) ?_;exact .of_eq (show AV.slice .none ([]++s.map encSl++[encSl (⟨p,r.ver⟩ : Sl)])=.slice .none ((s++[(⟨p,verAt x p pl⟩ : Sl)]).map encSl) by unfold verAt; rw [h1,List.map_append]; rfl)
 have hc1:=c70 x ifs p pl hxl hv;rw [h1] at hc1;refine Xi .pure (Xi _ (Yi hc1 ?_));refine Yi (Nz rfl) ?_;refine Xi ⟨[(1,sl encSl s),(2,vs p),(9,.ref 9 0)],[(9,.cells [vs ⟨#[]⟩,vi 0,vi 0,vi 0,.v (.slice none 0 0),vs ⟨#[]⟩,vs ⟨#[]⟩,vs ⟨#[]⟩,vb false])],hfree⟩ (Yi ⟨Z3,Z1,Fh,Tv⟩ ?_)
 have b5:AllLen 4 (s.map encSl)∧([]:List (List AV)).length=0∧(([]:List (List AV)).length+(s.map encSl).length)*40≤140737488355328∧([]:List (List AV)).length+(s.map encSl).length≤9223372036854775807:=⟨(allLen_map (enc:=encSl) (n:=4) (fun _=>rfl) s),(by simp),(by simp only [Lm,List.length_nil]; omega),(by simp only [Lm,List.length_nil]; omega)⟩;refine Yi b5 ?_;refine Yi (Nz rfl) ?_;have b6:AllLen 4 [[vs p,vi 0,vi 0,vi 0]]∧(([]++(s.map encSl)):List (List AV)).length=(([]:List (List AV)).length+(s.map encSl).length)∧((([]++(s.map encSl)):List (List AV)).length+([[vs p,vi 0,vi 0,vi 0]]:List (List AV)).length)*40≤140737488355328∧(([]++(s.map encSl)):List (List AV)).length+([[vs p,vi 0,vi 0,vi 0]]:List (List AV)).length≤9223372036854775807:=⟨⟨rfl,trivial⟩,(by simp),(by simp only [Lm,List.length_append,List.length_cons,List.length_nil]; omega),(by simp only [Lm,List.length_append,List.length_cons,List.length_nil]; omega)⟩;refine Yi b6 ?_;refine Yi (by kernel_rfl) ?_;exact .of_eq (show AV.slice .none ([]++s.map encSl++[encSl (⟨p,⟨0,0,0⟩⟩ : Sl)])=.slice .none ((s++[(⟨p,verAt x p pl⟩ : Sl)]).map encSl) by unfold verAt; rw [h1,List.map_append]; rfl)
set_option maxHeartbeats 4000000 in
theorem c94 (x:List Rl) (ifs:List (List AV)) (roots:List Rq) (s:List Sl) (p:ByteArray) (pl:Int) (hx:∀ r ∈ x,FewR r) (hxl:Few x) (hrq:∀ q ∈ roots,Few q.set) (hrl:roots.length≤1000000) (hs:s.length≤1000000) (hv:∀ r ∈ x,validB r.ver=true):PC 94 [.agg (Ic x ifs),sl encRq roots,sl encSl s,vs p,vi pl] (sl encInt (skipL x (needsP x roots s) p pl)):=by
 have h134:∀ k:Int,PC 134 [ixV x ifs,sl encRq roots,sl encSl s,vs p,vi k] (vb (exclB (needsP x roots s) p k)):=fun k=>c134 x ifs roots s p k hx hxl hrq hrl hs;obtain ⟨N,hN⟩ : ∃ N,N=needsP x roots s:=⟨_,rfl⟩;rw [← hN] at h134 ⊢;have hxl:x.length≤1073741824:=hxl;refine Ps ⟨[],[],[],[],[],[],[],[],[],[],[4,6,8]⟩ Tryz.func94 rfl (Nz rfl) ?_;refine Xi {i:Nat // i≤x.length} (Xi (fun q=>⟨[(1,sl encRq roots),(2,sl encSl s),(3,vs p),(4,vi pl),(5,.ref 5 0),(11,.slice (.id 15 1) ((skipL (x.take q.1) N p pl).map encInt)),(12,vi q.1)],[(5,.cells (Ic x ifs)),(15,.tok 1 (skipL (x.take q.1) N p pl).length)],hfree⟩) (Xi (fun q=>x.length - q.1) (Yi (Xi ⟨0,Nat.zero_le _⟩ ?_) ?_)))
 ·exact ⟨Z7,Z2,Fh,Tv⟩
 intro ⟨i,i1⟩;have hsl:=skipL_len (x.take i) N p pl;rw [List.length_take] at hsl;refine Yi (fun h1=>?_) (fun h1=>?_)
 ·have h1:(i:Int)<((x.map encRl).length:Int):=h1;have n1:i<x.length:=by have q:=h1; rw [Lm] at q; omega
  have g1:x[i]?=some x[i]:=Ge n1;refine Xi (encRl x[i]) (Yi (Yi (Nn i) (map_at g1)) (Yi rfl ?_));refine Yi (Nz rfl) ?_;refine Yi (Nz rfl) ?_;refine Xi ⟨[(1,sl encRq roots),(2,sl encSl s),(3,vs p),(4,vi pl),(5,.ref 5 0),(11,.slice (.id 15 1) ((skipL (x.take i) N p pl).map encInt)),(12,vi i),(13,.ref 13 0)],[(5,.cells (Ic x ifs)),(13,.cells (encRl x[i])),(15,.tok 1 (skipL (x.take i) N p pl).length)],hfree⟩ (Yi ⟨Z8,Z3,Fh,Tv⟩ ?_)
  refine Yi (Nz rfl) ?_;refine Xi .pure (Xi _ (Yi (show PC 95 [.agg (encVer x[i].ver)] (vi (plc x[i].ver)) from plc_val (hv _ (List.getElem_mem n1))▸c95 x[i].ver (hv _ (List.getElem_mem n1))) ?_));refine Yi (fun h2=>?_) (fun h2=>?_)
  ·have h2:(x[i].path:ByteArray)=p:=h2;refine Yi (fun h3=>?_) (fun h3=>?_)
   ·have h3:x[i].yanked=true:=h3;refine Xi ⟨[(1,sl encRq roots),(2,sl encSl s),(3,vs p),(4,vi pl),(5,.ref 5 0),(11,.slice (.id 15 1) ((skipL (x.take i) N p pl).map encInt)),(12,vi i)],[(5,.cells (Ic x ifs)),(15,.tok 1 (skipL (x.take i) N p pl).length)],hfree⟩ (Yi ⟨Z7,Z2,Fh,Tv⟩ ?_)
    refine Yi (Ii i (by omega)) ?_;have es:skipL (x.take (i+1)) N p pl=skipL (x.take i) N p pl:=by rw [skipL_take n1,if_neg (by rw [sq_yank h3]; decide)]; simp
    refine Xi ⟨i+1,by omega⟩ ?_;exact ⟨Dl x.length i (by omega),⟨Zr,Zr,Zr,Zr,Zr,⟨(show AV.slice (.id 15 1) ((skipL (x.take i) N p pl).map encInt)=.slice (.id 15 1) ((skipL (x.take (i+1)) N p pl).map encInt) by rw [es]),rfl⟩,Zr,Tv⟩,⟨Zr,⟨(show HO.tok 1 (skipL (x.take i) N p pl).length=.tok 1 (skipL (x.take (i+1)) N p pl).length by rw [es]),rfl⟩,Tv⟩,Fh,Tv⟩
   have h3:x[i].yanked=false:=h3;refine Yi (fun h5=>?_) (fun h5=>?_)
   ·have h5:(plc x[i].ver:Int)<(pl:Int):=h5;refine Yi (Nz rfl) ?_;refine Or.elim (Bt (exclB N p (plc x[i].ver))) (fun h6=>?_) (fun h6=>?_)
    ·have h6:(exclB N p (plc x[i].ver))=true:=h6;have hc7:=(h134 (plc x[i].ver));rw [show (exclB N p (plc x[i].ver))=true from h6] at hc7;refine Xi .pure (Xi _ (Yi hc7 ?_));refine Xi ⟨[(1,sl encRq roots),(2,sl encSl s),(3,vs p),(4,vi pl),(5,.ref 5 0),(11,.slice (.id 15 1) ((skipL (x.take i) N p pl).map encInt)),(12,vi i)],[(5,.cells (Ic x ifs)),(15,.tok 1 (skipL (x.take i) N p pl).length)],hfree⟩ (Yi ⟨Z7,Z2,Fh,Tv⟩ ?_)
     refine Yi (Ii i (by omega)) ?_;have es:skipL (x.take (i+1)) N p pl=skipL (x.take i) N p pl:=by rw [skipL_take n1,if_neg (by rw [sq_excl h6]; decide)]; simp
     refine Xi ⟨i+1,by omega⟩ ?_;exact ⟨Dl x.length i (by omega),⟨Zr,Zr,Zr,Zr,Zr,⟨(show AV.slice (.id 15 1) ((skipL (x.take i) N p pl).map encInt)=.slice (.id 15 1) ((skipL (x.take (i+1)) N p pl).map encInt) by rw [es]),rfl⟩,Zr,Tv⟩,⟨Zr,⟨(show HO.tok 1 (skipL (x.take i) N p pl).length=.tok 1 (skipL (x.take (i+1)) N p pl).length by rw [es]),rfl⟩,Tv⟩,Fh,Tv⟩
    have h6:(exclB N p (plc x[i].ver))=false:=h6;have hc9:=(h134 (plc x[i].ver));rw [show (exclB N p (plc x[i].ver))=false from h6] at hc9;refine Xi .pure (Xi _ (Yi hc9 ?_));refine Xi ⟨[(1,sl encRq roots),(2,sl encSl s),(3,vs p),(4,vi pl),(5,.ref 5 0),(11,.slice (.id 15 1) ((skipL (x.take i) N p pl).map encInt)),(12,vi i),(14,vi (plc x[i].ver))],[(5,.cells (Ic x ifs)),(15,.tok 1 (skipL (x.take i) N p pl).length)],hfree⟩ (Yi ⟨Z8,Z2,Fh,Tv⟩ ?_)
    have b10:AllLen 1 [[vi (plc x[i].ver)]]∧((skipL (x.take i) N p pl).map encInt).length=(skipL (x.take i) N p pl).length∧(((skipL (x.take i) N p pl).map encInt).length+([[vi (plc x[i].ver)]]:List (List AV)).length)*8≤140737488355328∧((skipL (x.take i) N p pl).map encInt).length+([[vi (plc x[i].ver)]]:List (List AV)).length≤9223372036854775807:=⟨⟨rfl,trivial⟩,(by simp),(by simp only [Lm,List.length_cons,List.length_nil]; omega),(by simp only [Lm,List.length_cons,List.length_nil]; omega)⟩;refine Yi b10 ?_;refine Xi ⟨[(1,sl encRq roots),(2,sl encSl s),(3,vs p),(4,vi pl),(5,.ref 5 0),(11,.slice (.id 15 1) (((skipL (x.take i) N p pl).map encInt)++[[vi (plc x[i].ver)]])),(12,vi i)],[(5,.cells (Ic x ifs)),(15,.tok 1 (((skipL (x.take i) N p pl).map encInt).length+([[vi (plc x[i].ver)]]:List (List AV)).length))],hfree⟩ (Yi ⟨Z7,Z2,Fh,Tv⟩ ?_)
    refine Yi (Ii i (by omega)) ?_;have es:skipL (x.take (i+1)) N p pl=skipL (x.take i) N p pl++[plc x[i].ver]:=by rw [skipL_take n1,if_pos (sq_yes h2 h3 h5 h6)]
    refine Xi ⟨i+1,by omega⟩ ?_;exact ⟨Dl x.length i (by omega),⟨Zr,Zr,Zr,Zr,Zr,⟨(show AV.slice (.id 15 1) ((skipL (x.take i) N p pl).map encInt++[[vi (plc x[i].ver)]])=.slice (.id 15 1) ((skipL (x.take (i+1)) N p pl).map encInt) by rw [es,List.map_append]; rfl),rfl⟩,Zr,Tv⟩,⟨Zr,⟨(show HO.tok 1 (((skipL (x.take i) N p pl).map encInt).length+([[vi (plc x[i].ver)]]:List (List AV)).length)=.tok 1 (skipL (x.take (i+1)) N p pl).length by rw [es,Lm,List.length_append]; rfl),rfl⟩,Tv⟩,Fh,Tv⟩
   have h5:¬ ((plc x[i].ver:Int)<(pl:Int)):=h5;refine Xi ⟨[(1,sl encRq roots),(2,sl encSl s),(3,vs p),(4,vi pl),(5,.ref 5 0),(11,.slice (.id 15 1) ((skipL (x.take i) N p pl).map encInt)),(12,vi i)],[(5,.cells (Ic x ifs)),(15,.tok 1 (skipL (x.take i) N p pl).length)],hfree⟩ (Yi ⟨Z7,Z2,Fh,Tv⟩ ?_)
   refine Yi (Ii i (by omega)) ?_;have es:skipL (x.take (i+1)) N p pl=skipL (x.take i) N p pl:=by rw [skipL_take n1,if_neg (by rw [sq_ge h5]; decide)]; simp
   refine Xi ⟨i+1,by omega⟩ ?_;exact ⟨Dl x.length i (by omega),⟨Zr,Zr,Zr,Zr,Zr,⟨(show AV.slice (.id 15 1) ((skipL (x.take i) N p pl).map encInt)=.slice (.id 15 1) ((skipL (x.take (i+1)) N p pl).map encInt) by rw [es]),rfl⟩,Zr,Tv⟩,⟨Zr,⟨(show HO.tok 1 (skipL (x.take i) N p pl).length=.tok 1 (skipL (x.take (i+1)) N p pl).length by rw [es]),rfl⟩,Tv⟩,Fh,Tv⟩
  have h2:¬ (x[i].path:ByteArray)=p:=h2;refine Xi ⟨[(1,sl encRq roots),(2,sl encSl s),(3,vs p),(4,vi pl),(5,.ref 5 0),(11,.slice (.id 15 1) ((skipL (x.take i) N p pl).map encInt)),(12,vi i)],[(5,.cells (Ic x ifs)),(15,.tok 1 (skipL (x.take i) N p pl).length)],hfree⟩ (Yi ⟨Z7,Z2,Fh,Tv⟩ ?_)
  refine Yi (Ii i (by omega)) ?_;have es:skipL (x.take (i+1)) N p pl=skipL (x.take i) N p pl:=by rw [skipL_take n1,if_neg (by rw [sq_path h2]; decide)]; simp
  refine Xi ⟨i+1,by omega⟩ ?_;exact ⟨Dl x.length i (by omega),⟨Zr,Zr,Zr,Zr,Zr,⟨(show AV.slice (.id 15 1) ((skipL (x.take i) N p pl).map encInt)=.slice (.id 15 1) ((skipL (x.take (i+1)) N p pl).map encInt) by rw [es]),rfl⟩,Zr,Tv⟩,⟨Zr,⟨(show HO.tok 1 (skipL (x.take i) N p pl).length=.tok 1 (skipL (x.take (i+1)) N p pl).length by rw [es]),rfl⟩,Tv⟩,Fh,Tv⟩
 have h1:¬ ((i:Int)<((x.map encRl).length:Int)):=h1;have n1:¬ i<x.length:=by have q:=h1; rw [Lm] at q; omega
 exact .of_eq (show sl encInt (skipL (x.take i) N p pl)=sl encInt (skipL x N p pl) by rw [List.take_of_length_le (by omega)])
end Go.Eng

namespace Go.Eng
open Go.Proofs
def reachB (q:Rq) (r:Rl):Bool:=decide (q.path=r.path)&&has q.set (plc r.ver)
def anyRB (m:List Rq) (r:Rl):Bool:=m.any fun q=>reachB q r
theorem rb_no {q:Rq} {r:Rl} (h:¬ q.path=r.path):reachB q r=false:=by unfold reachB; rw [decide_eq_false h]; rfl
theorem rb_is {q:Rq} {r:Rl} {b:Bool} (h:q.path=r.path) (hb:has q.set (plc r.ver)=b):reachB q r=b:=by unfold reachB; rw [decide_eq_true h,hb]; rfl
set_option maxHeartbeats 4000000 in
theorem c177 (q:Rq) (r:Rl) (hq:Few q.set) (hv:validB r.ver=true):PC 177 [.agg (encRq q),.agg (encRl r)] (vb (reachB q r)):=by
 refine Ps ⟨[],[],[],[],[],[],[],[],[],[],[]⟩ Tryz.func177 rfl (Nz rfl) ?_;refine Yi (fun h1=>?_) (fun h1=>?_)
 ·have h1:(q.path:ByteArray)=r.path:=h1;refine Yi (Nz rfl) ?_;refine Xi _ (Yi (show PC 95 [.agg (encVer r.ver)] (vi (plc r.ver)) from plc_val hv▸c95 r.ver hv) ?_);refine Or.elim (Bt (has q.set (plc r.ver))) (fun h2=>?_) (fun h2=>?_)
  ·have h2:(has q.set (plc r.ver))=true:=h2;have hc3:=c132 q.set (plc r.ver) hq;rw [show (has q.set (plc r.ver))=true from h2] at hc3;refine Xi _ (Yi hc3 ?_);refine Yi (by kernel_rfl) ?_;exact .of_eq (congrArg vb (rb_is h1 h2).symm)
  have h2:(has q.set (plc r.ver))=false:=h2;have hc5:=c132 q.set (plc r.ver) hq;rw [show (has q.set (plc r.ver))=false from h2] at hc5;refine Xi _ (Yi hc5 ?_);refine Yi (by kernel_rfl) ?_;exact .of_eq (congrArg vb (rb_is h1 h2).symm)
 have h1:¬ (q.path:ByteArray)=r.path:=h1;refine Yi (by kernel_rfl) ?_;exact .of_eq (congrArg vb (rb_no h1).symm)
set_option maxHeartbeats 4000000 in
theorem c133 (m:List Rq) (r:Rl) (hml:m.length≤1000000) (hq:∀ q ∈ m,Few q.set) (hv:validB r.ver=true):PC 133 [sl encRq m,.agg (encRl r)] (vb (anyRB m r)):=by
 refine Ps ⟨[],[],[],[],[],[],[],[],[],[],[3,5]⟩ Tryz.func133 rfl (Nz rfl) ?_;refine Xi {i:Nat // i≤m.length∧∀ j (h:j<m.length),j<i→reachB m[j] r=false} (Xi (fun q=>⟨[(0,sl encRq m),(3,.ref 3 0),(5,vi q.1)],[(3,.cells (encRl r))],hfree⟩) (Xi (fun q=>m.length - q.1) (Yi (Xi ⟨0,Nat.zero_le _,fun j _ h=>by omega⟩ ?_) ?_)))
 ·exact ⟨Z3,Z1,Fh,Tv⟩
 intro ⟨i,i1,i2⟩;refine Yi (fun h1=>?_) (fun h1=>?_)
 ·have h1:(i:Int)<((m.map encRq).length:Int):=h1;have n1:i<m.length:=by have q:=h1; rw [Lm] at q; omega
  have g1:m[i]?=some m[i]:=Ge n1;refine Xi (encRq m[i]) (Yi (Yi (Nn i) (map_at g1)) (Yi rfl ?_));refine Yi (Nz rfl) ?_;refine Yi (Nz rfl) ?_;refine Or.elim (Bt (reachB m[i] r)) (fun h2=>?_) (fun h2=>?_)
  ·have h2:(reachB m[i] r)=true:=h2;have hc3:=c177 m[i] r (hq _ (List.getElem_mem n1)) hv;rw [show (reachB m[i] r)=true from h2] at hc3;refine Xi _ (Yi hc3 ?_);refine Yi (by kernel_rfl) ?_;refine Xi ⟨[],[],hfree⟩ (Yi ⟨Tv,Tv,Fh,Tv⟩ ?_)
   exact .of_eq (congrArg vb (show true=anyRB m r from Eq.symm (show m.any (fun q=>reachB q r)=true from any_hit n1 h2)))
  have h2:(reachB m[i] r)=false:=h2;have hc5:=c177 m[i] r (hq _ (List.getElem_mem n1)) hv;rw [show (reachB m[i] r)=false from h2] at hc5;refine Xi _ (Yi hc5 ?_);refine Yi (by kernel_rfl) ?_;refine Xi ⟨[(0,sl encRq m),(3,.ref 3 0),(5,vi i)],[(3,.cells (encRl r))],hfree⟩ (Yi ⟨Z3,Z1,Fh,Tv⟩ ?_)
  refine Yi (Ii i (by omega)) ?_;refine Xi ⟨i+1,by omega,fun j hj hji=>(Nat.lt_or_ge j i).elim (i2 j hj) (fun z=>by have e:i=j:=(by omega); subst e; exact h2)⟩ ?_;exact ⟨Dl m.length i (by omega),Z3,Z1,Fh,Tv⟩
 have h1:¬ ((i:Int)<((m.map encRq).length:Int)):=h1;have n1:¬ i<m.length:=by have q:=h1; rw [Lm] at q; omega
 exact .of_eq (congrArg vb (show false=anyRB m r from (any_upto fun j hj=>i2 j hj (by omega)).symm))
abbrev encB (b:Bool):List AV:=[vb b]
def memP (Cl:List ByteArray) (p:ByteArray):Bool:=Cl.any fun q=>decide (q=p)
def numF (B:List Bool):Nat:=(B.filter fun b=>!b).length
theorem numF_set:∀ {B:List Bool} {i:Nat} (h:i<B.length),B[i]=false→numF (B.set i true)<numF B
 | b :: B,0,_,hb=>by
  have hb:b=false:=hb;subst hb;simp [numF]
 | b :: B,i+1,h,hb=>by
  have:=numF_set (B:=B) (i:=i) (by simpa using h) hb
  unfold numF at *
  rw [List.set_cons_succ,List.filter_cons,List.filter_cons];split <;> simp at*<;> omega
def partB (l:List Rl) (roots:List Rq) (B:List Bool) (i:Rl) (k:Nat):Bool:=anyRB roots i||(List.range k).any fun k=>B.getD k false&&anyRB ((l[k]?.map (·.reqs)).getD []) i
theorem partB_zero (l:List Rl) (roots:List Rq) (B:List Bool) (i:Rl):partB l roots B i 0=anyRB roots i:=by unfold partB; simp
theorem partB_succ {l:List Rl} {roots:List Rq} {B:List Bool} {i:Rl} {k:Nat} (h:k<l.length) (hB:k<B.length):partB l roots B i (k+1)=(partB l roots B i k||(B[k]&&anyRB l[k].reqs i)):=by
 unfold partB;rw [List.range_succ,List.any_append,← Bool.or_assoc];simp [Ge h,hB]
structure Snd (l:List Rl) (Cl:List ByteArray) (B:List Bool):Prop where
 len:B.length=l.length
 snd:∀ k (h:k<l.length),B[k]?=some true→l[k].path ∈ Cl
structure Clo (l:List Rl) (roots:List Rq) (Cl:List ByteArray):Prop where
 root:∀ q ∈ roots,q.path ∈ Cl
 req:∀ r ∈ l,r.path ∈ Cl→∀ q ∈ r.reqs,q.path ∈ Cl
section
variable {l:List Rl} {roots:List Rq} {Cl:List ByteArray} {B:List Bool}
theorem anyR_path {m:List Rq} {r:Rl} (h:anyRB m r=true):∃ q ∈ m,q.path=r.path:=by
 obtain ⟨q,hq,e⟩:=List.any_eq_true.1 h;unfold reachB at e;simp only [Bool.and_eq_true,decide_eq_true_eq] at e;exact ⟨q,hq,e.1⟩
theorem Snd.part (h:Snd l Cl B) (hc:Clo l roots Cl) {i:Rl} {k:Nat} (hk:k≤l.length) (hr:partB l roots B i k=true):i.path ∈ Cl:=by
 unfold partB at hr;rw [Bool.or_eq_true] at hr;rcases hr with hr | hr
 ·obtain ⟨q,hq,e⟩:=anyR_path hr;rw [← e]; exact hc.root q hq
 ·obtain ⟨j,hj,e⟩:=List.any_eq_true.1 hr;rw [List.mem_range] at hj;rw [Bool.and_eq_true] at e;have hjl:j<l.length:=by omega
  rw [Ge hjl] at e;obtain ⟨q,hq,e2⟩:=anyR_path (m:=l[j].reqs) e.2;have hb:B[j]?=some true:=by
   have hjB:j<B.length:=by rw [h.len]; exact hjl
   have:=e.1
   rw [List.getD_eq_getElem?_getD,Ge hjB] at this;rw [Ge hjB]; exact congrArg some this
  rw [← e2];exact hc.req _ (List.getElem_mem hjl) (h.snd j hjl hb) q hq
theorem Snd.set (h:Snd l Cl B) {i:Nat} (hi:i<l.length) (hp:l[i].path ∈ Cl):Snd l Cl (B.set i true) :=
 ⟨by rw [List.length_set]; exact h.len,fun k hk hb=>by
  by_cases e:i=k
  ·subst e; exact hp
  ·rw [List.getElem?_set_ne e] at hb; exact h.snd k hk hb⟩
structure Rnd (l:List Rl) (roots:List Rq) (Cl:List ByteArray) (B0:List Bool) (i:Nat) (B:List Bool) (ch:Bool):Prop where
 snd:Snd l Cl B
 no:ch=false→B=B0∧∀ j (h:j<l.length),j<i→partB l roots B l[j] l.length=true→B[j]?=some true
 yes:ch=true→numF B<numF B0
theorem Rnd.start (h:Snd l Cl B):Rnd l roots Cl B 0 B false:=⟨h,fun _=>⟨rfl,fun j _ hj=>absurd hj (Nat.not_lt_zero j)⟩,fun h=>(by cases h)⟩
variable {B0:List Bool} {i:Nat} {ch:Bool}
theorem Rnd.set (h:Rnd l roots Cl B0 i B ch) (hc:Clo l roots Cl) (hi:i<l.length) (hr:partB l roots B l[i] l.length=true) (hb:∀ hib:i<B.length,B[i]=false):Rnd l roots Cl B0 (i+1) (B.set i true) true:=by
 have hib:i<B.length:=by rw [h.snd.len]; exact hi
 have hlt:=numF_set hib (hb hib);refine ⟨h.snd.set hi (h.snd.part hc (Nat.le_refl _) hr),fun h=>(by cases h),fun _=>?_⟩;cases ch with
 | true=>have:=h.yes rfl; omega
 | false=>rw [← (h.no rfl).1]; exact hlt
theorem Rnd.keep (h:Rnd l roots Cl B0 i B ch) (hi:i<l.length) (hk:partB l roots B l[i] l.length=true→B[i]?=some true):Rnd l roots Cl B0 (i+1) B ch :=
 ⟨h.snd,fun hf=>⟨(h.no hf).1,fun j hj hji hr=>by
  by_cases e:j=i
  ·subst e; exact hk hr
  ·exact (h.no hf).2 j hj (by omega) hr⟩,h.yes⟩
structure Out (l:List Rl) (roots:List Rq) (Cl:List ByteArray) (B:List Bool) (ch:Bool):Prop where
 snd:Snd l Cl B
 no:ch=false→∀ j (h:j<l.length),partB l roots B l[j] l.length=true→B[j]?=some true
theorem Rnd.out (h:Rnd l roots Cl B0 i B ch) (hi:l.length≤i):Out l roots Cl B ch:=⟨h.snd,fun hf j hj hr=>(h.no hf).2 j hj (by omega) hr⟩
theorem Rnd.mu (h:Rnd l roots Cl B0 i B ch):2*numF B+(if ch then 1 else 0)<2*numF B0+1:=by
 cases ch with
 | true=>have:=h.yes rfl; simp; omega
 | false=>have:=(h.no rfl).1; rw [this]; simp
theorem Out.fin (h:Out l roots Cl B false) (hmin:∀ D:List ByteArray,(∀ q ∈ roots,q.path ∈ D)→(∀ r ∈ l,r.path ∈ D→∀ q ∈ r.reqs,q.path ∈ D)→∀ p ∈ Cl,p ∈ D)
  (hok:∀ q,q ∈ roots∨(∃ r ∈ l,q ∈ r.reqs)→∀ r ∈ l,q.path=r.path→has q.set (plc r.ver)=true) (hn:(l.map (·.path)).Nodup) (hin:∀ q,q ∈ roots∨(∃ r ∈ l,q ∈ r.reqs)→∃ r ∈ l,r.path=q.path) :
  ∀ j (hj:j<l.length),B[j]?=some (memP Cl l[j].path):=by
 have hmark:∀ (m:List Rq) (i:Rl),i ∈ l→(∀ q ∈ m,q ∈ roots∨∃ r ∈ l,q ∈ r.reqs)→∀ q ∈ m,q.path=i.path→anyRB m i=true:=fun m i hi hm q hq e=>by
  refine List.any_eq_true.2 ⟨q,hq,?_⟩;unfold reachB;rw [decide_eq_true e,hok q (hm q hq) i hi e]; rfl
 let D:List ByteArray:=((List.range l.length).filter fun k=>B.getD k false).filterMap fun k=>(l[k]?).map (·.path)
 have hD:∀ j (hj:j<l.length),B[j]?=some true→l[j].path ∈ D:=fun j hj hb=>by
  refine List.mem_filterMap.2 ⟨j,List.mem_filter.2 ⟨List.mem_range.2 hj,?_⟩,by rw [Ge hj]; rfl⟩;rw [List.getD_eq_getElem?_getD,hb]; rfl
 have hD2:∀ j (hj:j<l.length),l[j].path ∈ D→B[j]?=some true:=fun j hj hm=>by
  obtain ⟨k,hk,e⟩:=List.mem_filterMap.1 hm;obtain ⟨h1,h2⟩:=List.mem_filter.1 hk;have hkl:=List.mem_range.1 h1;rw [Ge hkl] at e;have e:l[k].path=l[j].path:=Option.some.inj e
  have:k=j:=(List.getElem_inj (xs:=l.map (·.path)) (h₀:=by rw [Lm]; exact hkl) (h₁:=by rw [Lm]; exact hj) hn).1 (by rw [List.getElem_map,List.getElem_map]; exact e)
  subst this;have hkB:k<B.length:=by rw [h.snd.len]; exact hkl
  rw [List.getD_eq_getElem?_getD,Ge hkB] at h2;rw [Ge hkB]; exact congrArg some h2
 have hsub:=hmin D (fun q hq=>by
   obtain ⟨r,hr,e⟩:=hin q (.inl hq);obtain ⟨j,hj,rfl⟩:=List.getElem_of_mem hr;rw [← e];refine hD j hj (h.no rfl j hj ?_);unfold partB;rw [hmark roots _ hr (fun q h=>.inl h) q hq e.symm]; rfl)
  (fun r hr hp q hq=>by
   obtain ⟨k,hk,rfl⟩:=List.getElem_of_mem hr;have hkb:=hD2 k hk hp;obtain ⟨r2,hr2,e⟩:=hin q (.inr ⟨_,hr,hq⟩);obtain ⟨j,hj,rfl⟩:=List.getElem_of_mem hr2;rw [← e];refine hD j hj (h.no rfl j hj ?_);unfold partB;rw [Bool.or_eq_true]; right;refine List.any_eq_true.2 ⟨k,List.mem_range.2 hk,?_⟩;rw [List.getD_eq_getElem?_getD,hkb,Ge hk];show (true&&anyRB l[k].reqs l[j])=true;rw [hmark l[k].reqs _ hr2 (fun q h=>.inr ⟨_,hr,h⟩) q hq e.symm]; rfl)
 intro j hj;have hjB:j<B.length:=by rw [h.snd.len]; exact hj
 cases hc:memP Cl l[j].path with
 | true=>exact hD2 j hj (hsub _ (any_mem.1 hc))
 | false =>
  rw [Ge hjB];cases hb:B[j] with
  | false=>rfl
  | true =>
   have:=any_mem.2 (h.snd.snd j hj (by rw [Ge hjB,hb]))
   unfold memP at hc;rw [hc] at this; cases this
end
end Go.Eng

namespace Go.Eng
open Go.Proofs
theorem Out.start {l:List Rl} {roots:List Rq} {Cl:List ByteArray} : Out l roots Cl (List.replicate l.length false) true:=⟨⟨by simp,fun k hk h=>by simp [hk] at h⟩,fun h=>by cases h⟩
set_option maxHeartbeats 4000000 in
theorem c93 (l:List Rl) (ifs:List (List AV)) (roots:List Rq) (Cl:List ByteArray) (hc:Clo l roots Cl) (hmin:∀ D:List ByteArray,(∀ q ∈ roots,q.path ∈ D)→(∀ r ∈ l,r.path ∈ D→∀ q ∈ r.reqs,q.path ∈ D)→∀ p ∈ Cl,p ∈ D)
  (hok:∀ q,q ∈ roots∨(∃ r ∈ l,q ∈ r.reqs)→∀ r ∈ l,q.path=r.path→has q.set (plc r.ver)=true) (hn:(l.map (·.path)).Nodup) (hin:∀ q,q ∈ roots∨(∃ r ∈ l,q ∈ r.reqs)→∃ r ∈ l,r.path=q.path)
  (h0:checkIx l=0) (hx:∀ r ∈ l,FewR r) (hrq:∀ q ∈ roots,Few q.set) (hrl:roots.length≤1000000):PC 93 [.agg (Ic l ifs),sl encRq roots] (sl encSl ((l.filter fun r=>memP Cl r.path).map keyR)):=by
 have h67:=c67 l ifs hx;rw [h0] at h67;have hl:=(ix_few h0).1;have hv:∀ r ∈ l,validB r.ver=true:=fun r hr=>((checkIx_ok h0).1 r hr).val;refine Ps ⟨[],[],[(18,1)],[],[],[],[],[],[],[],[4,9,11,13,16,21,23]⟩ Tryz.func93 rfl (Nz rfl) ?_;refine Yi (Nz rfl) ?_;refine Xi .pure (Xi _ (Yi h67 ?_));refine Yi (fun h=>absurd h (by decide)) (fun _=>?_);refine Yi (show (0:Int)≤(l.map encRl).length∧((l.map encRl).length:Int)≤(l.map encRl).length∧((l.map encRl).length:Int)*1≤140737488355328∧((l.map encRl).length:Int)≤9223372036854775807 by rw [Lm]; omega) ?_;refine Xi ⟨[(1,sl encRq roots),(2,.ref 2 0),(5,.msl 18 ((List.replicate ((l.map encRl).length:Int).toNat [vb false]):List (List AV)).length)],[(2,.cells (Ic l ifs)),(18,.arr 1 (List.replicate ((l.map encRl).length:Int).toNat [vb false]))],hfree⟩ (Yi ⟨Z3,Z2,Fh,Tv⟩ ?_)
 refine Xi {q:List Bool × Bool // Out l roots Cl q.1 q.2} (Xi (fun q=>⟨[(1,sl encRq roots),(2,.ref 2 0),(5,.msl 18 q.1.1.length),(6,vb q.1.2)],[(2,.cells (Ic l ifs)),(18,.arr 1 (q.1.1.map encB))],hfree⟩) (Xi (fun q=>2*numF q.1.1+(if q.1.2 then 1 else 0)) (Yi (Xi ⟨(List.replicate l.length false,true),Out.start⟩ ?_) ?_)))
 ·exact ⟨⟨Zr,Zr,⟨(show AV.msl 18 (List.replicate ((l.map encRl).length:Int).toNat [vb false]).length=.msl 18 (List.replicate l.length false).length by simp),rfl⟩,Zr,Tv⟩,⟨Zr,⟨(show HO.arr 1 (List.replicate ((l.map encRl).length:Int).toNat [vb false])=.arr 1 ((List.replicate l.length false).map encB) by simp),rfl⟩,Tv⟩,Fh,Tv⟩
 intro ⟨⟨B,ch⟩,o⟩;have o:Out l roots Cl B ch:=o;have hBl:=o.snd.len;refine Or.elim (Bt ch) (fun h1=>?_) (fun h1=>?_)
 ·have h1:ch=true:=h1;refine awp_eq (congrArg (fun bb=>(⟨[(1,sl encRq roots),(2,.ref 2 0),(5,.msl 18 B.length),(6,vb bb)],[(2,.cells (Ic l ifs)),(18,.arr 1 (B.map encB))],hfree⟩ : LS)) h1) ?_;refine Xi {q:Nat × List Bool × Bool // q.1≤l.length∧Rnd l roots Cl B q.1 q.2.1 q.2.2} (Xi (fun q=>⟨[(1,sl encRq roots),(2,.ref 2 0),(5,.msl 18 q.1.2.1.length),(6,vb q.1.2.2),(7,vi q.1.1)],[(2,.cells (Ic l ifs)),(18,.arr 1 (q.1.2.1.map encB))],hfree⟩) (Xi (fun q=>l.length - q.1.1) (Yi (Xi ⟨(0,B,false),Nat.zero_le _,Rnd.start o.snd⟩ ?_) ?_)))
  ·exact ⟨Z5,Z2,Fh,Tv⟩
  intro ⟨⟨i,B1,ch1⟩,i1,rnd⟩;have i1:i≤l.length:=i1;have rnd:Rnd l roots Cl B i B1 ch1:=rnd;have hB1:=rnd.snd.len;refine Yi (fun h2=>?_) (fun h2=>?_)
  ·have h2:(i:Int)<((l.map encRl).length:Int):=h2;have n2:i<l.length:=by have q:=h2; rw [Lm] at q; omega
   have g2:l[i]?=some l[i]:=Ge n2;have ni:i<l.length:=by have q:=h2; rw [Lm] at q; omega
   have mi:i<B1.length:=by omega
   have gbi:B1[i]?=some B1[i]:=Ge mi;refine Xi (encRl l[i]) (Yi (Yi (Nn i) (map_at g2)) (Yi rfl ?_));refine Yi (Nz rfl) ?_;refine Or.elim (Bt (anyRB roots l[i])) (fun h3=>?_) (fun h3=>?_)
   ·have h3:(anyRB roots l[i])=true:=h3;have hc4:=c133 roots l[i] hrl hrq (hv _ (List.getElem_mem ni));rw [show anyRB roots l[i]=true from h3] at hc4;refine Xi .pure (Xi _ (Yi hc4 ?_));refine Xi ⟨[(1,sl encRq roots),(2,.ref 2 0),(5,.msl 18 B1.length),(6,vb ch1),(7,vi i),(8,vb true)],[(2,.cells (Ic l ifs)),(18,.arr 1 (B1.map encB))],hfree⟩ (Yi ⟨Z6,Z2,Fh,Tv⟩ ?_)
    refine Xi {q:Nat × Bool // q.1≤l.length∧q.2=partB l roots B1 l[i] q.1} (Xi (fun q=>⟨[(1,sl encRq roots),(2,.ref 2 0),(5,.msl 18 B1.length),(6,vb ch1),(7,vi i),(8,vb q.1.2),(9,vi q.1.1)],[(2,.cells (Ic l ifs)),(18,.arr 1 (B1.map encB))],hfree⟩) (Xi (fun q=>l.length - q.1.1) (Yi (Xi ⟨(0,true),Nat.zero_le _,by show true=_; rw [partB_zero]; exact (h3).symm⟩ ?_) ?_)))
    ·exact ⟨Z7,Z2,Fh,Tv⟩
    intro ⟨⟨k,b⟩,k1,hb⟩;have k1:k≤l.length:=k1;have hb:b=partB l roots B1 l[i] k:=hb;refine Or.elim (Bt b) (fun h5=>?_) (fun h5=>?_)
    ·have h5:b=true:=h5;refine awp_eq (congrArg (fun bb=>(⟨[(1,sl encRq roots),(2,.ref 2 0),(5,.msl 18 B1.length),(6,vb ch1),(7,vi i),(8,vb bb),(9,vi k)],[(2,.cells (Ic l ifs)),(18,.arr 1 (B1.map encB))],hfree⟩ : LS)) h5) ?_;refine Yi (fun h6=>?_) (fun h6=>?_)
     ·have h6:(k:Int)<((l.map encRl).length:Int):=h6;have n6:k<l.length:=by have q:=h6; rw [Lm] at q; omega
      have g6:l[k]?=some l[k]:=Ge n6;have nk:k<l.length:=by have q:=h6; rw [Lm] at q; omega
      have mk:k<B1.length:=by omega
      have gbk:B1[k]?=some B1[k]:=Ge mk;refine Yi (by kernel_rfl) ?_;refine Xi ⟨[(1,sl encRq roots),(2,.ref 2 0),(5,.msl 18 B1.length),(6,vb ch1),(7,vi i),(8,vb true),(9,vi k)],[(2,.cells (Ic l ifs)),(18,.arr 1 (B1.map encB))],hfree⟩ (Yi ⟨Z7,Z2,Fh,Tv⟩ ?_)
      refine Yi (Ii k (by omega)) ?_;refine Xi ⟨(k+1,true),by omega,by show true=_; rw [partB_succ nk mk,← hb,h5]; rfl⟩ ?_;exact ⟨Dl l.length k (by omega),Z7,Z2,Fh,Tv⟩
     have h6:¬ ((k:Int)<((l.map encRl).length:Int)):=h6;have n6:¬ k<l.length:=by have q:=h6; rw [Lm] at q; omega
     refine Yi (by show (0:Int)≤i∧(i:Int)<(B1.length:Nat); omega) ?_;refine Yi (show B1.length=(B1.map encB).length by simp) (Xi (encB B1[i]) (Yi (map_at gbi) ?_));refine Yi (fun h8=>?_) (fun h8=>?_)
     ·have h8:B1[i]=true:=h8;refine Xi ⟨[(1,sl encRq roots),(2,.ref 2 0),(5,.msl 18 B1.length),(6,vb ch1),(7,vi i)],[(2,.cells (Ic l ifs)),(18,.arr 1 (B1.map encB))],hfree⟩ (Yi ⟨Z5,Z2,Fh,Tv⟩ ?_)
      refine Yi (Ii i (by omega)) ?_;refine Xi ⟨(i+1,B1,ch1),by omega,rnd.keep ni (fun _=>by rw [gbi,h8])⟩ ?_;exact ⟨Dl l.length i (by omega),Z5,Z2,Fh,Tv⟩
     have h8:B1[i]=false:=h8;refine Xi ⟨[(1,sl encRq roots),(2,.ref 2 0),(5,.msl 18 B1.length),(7,vi i)],[(2,.cells (Ic l ifs)),(18,.arr 1 (B1.map encB))],hfree⟩ (Yi ⟨Z4,Z2,Fh,Tv⟩ ?_)
     refine Yi (by show (0:Int)≤i∧(i:Int)<(B1.length:Nat); omega) ?_;refine Yi (show B1.length=(B1.map encB).length by simp) (Xi (encB B1[i]) (Yi (map_at gbi) (Yi (Nz rfl) ?_)));refine Xi ⟨[(1,sl encRq roots),(2,.ref 2 0),(5,.msl 18 B1.length),(6,vb true),(7,vi i)],[(2,.cells (Ic l ifs)),(18,.arr 1 ((B1.map encB).set i [vb true]))],hfree⟩ (Yi ⟨Z5,Z2,Fh,Tv⟩ ?_)
     refine Yi (Ii i (by omega)) ?_;refine Xi ⟨(i+1,B1.set i true,true),by omega,rnd.set hc ni (show partB l roots B1 l[i] l.length=true by rw [show l.length=k by omega,← hb]; exact h5) (fun _=>h8)⟩ ?_;exact ⟨Dl l.length i (by omega),⟨Zr,Zr,⟨(show AV.msl 18 B1.length=.msl 18 (B1.set i true).length by rw [List.length_set]),rfl⟩,Zr,Zr,Tv⟩,⟨Zr,⟨(show HO.arr 1 ((B1.map encB).set i [vb true])=.arr 1 ((B1.set i true).map encB) by rw [List.map_set]),rfl⟩,Tv⟩,Fh,Tv⟩
    have h5:b=false:=h5;refine awp_eq (congrArg (fun bb=>(⟨[(1,sl encRq roots),(2,.ref 2 0),(5,.msl 18 B1.length),(6,vb ch1),(7,vi i),(8,vb bb),(9,vi k)],[(2,.cells (Ic l ifs)),(18,.arr 1 (B1.map encB))],hfree⟩ : LS)) h5) ?_;refine Yi (fun h11=>?_) (fun h11=>?_)
    ·have h11:(k:Int)<((l.map encRl).length:Int):=h11;have n11:k<l.length:=by have q:=h11; rw [Lm] at q; omega
     have g11:l[k]?=some l[k]:=Ge n11;have nk:k<l.length:=by have q:=h11; rw [Lm] at q; omega
     have mk:k<B1.length:=by omega
     have gbk:B1[k]?=some B1[k]:=Ge mk;refine Yi (by show (0:Int)≤k∧(k:Int)<(B1.length:Nat); omega) ?_;refine Yi (show B1.length=(B1.map encB).length by simp) (Xi (encB B1[k]) (Yi (map_at gbk) ?_));refine Yi (fun h12=>?_) (fun h12=>?_)
     ·have h12:B1[k]=true:=h12;refine Xi (encRl l[k]) (Yi (Yi (Nn k) (map_at g11)) (Yi rfl ?_));refine Xi (encRl l[i]) (Yi (Yi (Nn i) (map_at g2)) (Yi rfl ?_));refine Yi (Nz rfl) ?_;refine Or.elim (Bt (anyRB l[k].reqs l[i])) (fun h13=>?_) (fun h13=>?_)
      ·have h13:(anyRB l[k].reqs l[i])=true:=h13;have hc14:=c133 l[k].reqs l[i] (by have:=(ix_few h0).2 _ (List.getElem_mem nk); omega) (fun q hq=>((hx _ (List.getElem_mem nk)).2 q hq).1) (hv _ (List.getElem_mem ni));rw [show anyRB l[k].reqs l[i]=true from h13] at hc14;refine Xi _ (Yi hc14 ?_);refine Yi (by kernel_rfl) ?_;refine Xi ⟨[(1,sl encRq roots),(2,.ref 2 0),(5,.msl 18 B1.length),(6,vb ch1),(7,vi i),(8,vb true),(9,vi k)],[(2,.cells (Ic l ifs)),(18,.arr 1 (B1.map encB))],hfree⟩ (Yi ⟨Z7,Z2,Fh,Tv⟩ ?_)
       refine Yi (Ii k (by omega)) ?_;refine Xi ⟨(k+1,true),by omega,by show true=_; rw [partB_succ nk mk,← hb,h5,h12,h13]; rfl⟩ ?_;exact ⟨Dl l.length k (by omega),Z7,Z2,Fh,Tv⟩
      have h13:(anyRB l[k].reqs l[i])=false:=h13;have hc16:=c133 l[k].reqs l[i] (by have:=(ix_few h0).2 _ (List.getElem_mem nk); omega) (fun q hq=>((hx _ (List.getElem_mem nk)).2 q hq).1) (hv _ (List.getElem_mem ni));rw [show anyRB l[k].reqs l[i]=false from h13] at hc16;refine Xi _ (Yi hc16 ?_);refine Yi (by kernel_rfl) ?_;refine Xi ⟨[(1,sl encRq roots),(2,.ref 2 0),(5,.msl 18 B1.length),(6,vb ch1),(7,vi i),(8,vb false),(9,vi k)],[(2,.cells (Ic l ifs)),(18,.arr 1 (B1.map encB))],hfree⟩ (Yi ⟨Z7,Z2,Fh,Tv⟩ ?_)
      refine Yi (Ii k (by omega)) ?_;refine Xi ⟨(k+1,false),by omega,by show false=_; rw [partB_succ nk mk,← hb,h5,h12,h13]; rfl⟩ ?_;exact ⟨Dl l.length k (by omega),Z7,Z2,Fh,Tv⟩
     have h12:B1[k]=false:=h12;refine Yi (by kernel_rfl) ?_;refine Xi ⟨[(1,sl encRq roots),(2,.ref 2 0),(5,.msl 18 B1.length),(6,vb ch1),(7,vi i),(8,vb false),(9,vi k)],[(2,.cells (Ic l ifs)),(18,.arr 1 (B1.map encB))],hfree⟩ (Yi ⟨Z7,Z2,Fh,Tv⟩ ?_)
     refine Yi (Ii k (by omega)) ?_;refine Xi ⟨(k+1,false),by omega,by show false=_; rw [partB_succ nk mk,← hb,h5,h12]; rfl⟩ ?_;exact ⟨Dl l.length k (by omega),Z7,Z2,Fh,Tv⟩
    have h11:¬ ((k:Int)<((l.map encRl).length:Int)):=h11;have n11:¬ k<l.length:=by have q:=h11; rw [Lm] at q; omega
    refine Xi ⟨[(1,sl encRq roots),(2,.ref 2 0),(5,.msl 18 B1.length),(6,vb ch1),(7,vi i)],[(2,.cells (Ic l ifs)),(18,.arr 1 (B1.map encB))],hfree⟩ (Yi ⟨Z5,Z2,Fh,Tv⟩ ?_)
    refine Yi (Ii i (by omega)) ?_;refine Xi ⟨(i+1,B1,ch1),by omega,rnd.keep ni (fun h=>by rw [(show partB l roots B1 l[i] l.length=false by rw [show l.length=k by omega,← hb]; exact h5)] at h; cases h)⟩ ?_;exact ⟨Dl l.length i (by omega),Z5,Z2,Fh,Tv⟩
   have h3:(anyRB roots l[i])=false:=h3;have hc20:=c133 roots l[i] hrl hrq (hv _ (List.getElem_mem ni));rw [show anyRB roots l[i]=false from h3] at hc20;refine Xi .pure (Xi _ (Yi hc20 ?_));refine Xi ⟨[(1,sl encRq roots),(2,.ref 2 0),(5,.msl 18 B1.length),(6,vb ch1),(7,vi i),(8,vb false)],[(2,.cells (Ic l ifs)),(18,.arr 1 (B1.map encB))],hfree⟩ (Yi ⟨Z6,Z2,Fh,Tv⟩ ?_)
   refine Xi {q:Nat × Bool // q.1≤l.length∧q.2=partB l roots B1 l[i] q.1} (Xi (fun q=>⟨[(1,sl encRq roots),(2,.ref 2 0),(5,.msl 18 B1.length),(6,vb ch1),(7,vi i),(8,vb q.1.2),(9,vi q.1.1)],[(2,.cells (Ic l ifs)),(18,.arr 1 (B1.map encB))],hfree⟩) (Xi (fun q=>l.length - q.1.1) (Yi (Xi ⟨(0,false),Nat.zero_le _,by show false=_; rw [partB_zero]; exact (h3).symm⟩ ?_) ?_)))
   ·exact ⟨Z7,Z2,Fh,Tv⟩
   intro ⟨⟨k,b⟩,k1,hb⟩;have k1:k≤l.length:=k1;have hb:b=partB l roots B1 l[i] k:=hb;refine Or.elim (Bt b) (fun h21=>?_) (fun h21=>?_)
   ·have h21:b=true:=h21;refine awp_eq (congrArg (fun bb=>(⟨[(1,sl encRq roots),(2,.ref 2 0),(5,.msl 18 B1.length),(6,vb ch1),(7,vi i),(8,vb bb),(9,vi k)],[(2,.cells (Ic l ifs)),(18,.arr 1 (B1.map encB))],hfree⟩ : LS)) h21) ?_;refine Yi (fun h22=>?_) (fun h22=>?_)
    ·have h22:(k:Int)<((l.map encRl).length:Int):=h22;have n22:k<l.length:=by have q:=h22; rw [Lm] at q; omega
     have g22:l[k]?=some l[k]:=Ge n22;have nk:k<l.length:=by have q:=h22; rw [Lm] at q; omega
     have mk:k<B1.length:=by omega
     have gbk:B1[k]?=some B1[k]:=Ge mk;refine Yi (by kernel_rfl) ?_;refine Xi ⟨[(1,sl encRq roots),(2,.ref 2 0),(5,.msl 18 B1.length),(6,vb ch1),(7,vi i),(8,vb true),(9,vi k)],[(2,.cells (Ic l ifs)),(18,.arr 1 (B1.map encB))],hfree⟩ (Yi ⟨Z7,Z2,Fh,Tv⟩ ?_)
     refine Yi (Ii k (by omega)) ?_;refine Xi ⟨(k+1,true),by omega,by show true=_; rw [partB_succ nk mk,← hb,h21]; rfl⟩ ?_;exact ⟨Dl l.length k (by omega),Z7,Z2,Fh,Tv⟩
    have h22:¬ ((k:Int)<((l.map encRl).length:Int)):=h22;have n22:¬ k<l.length:=by have q:=h22; rw [Lm] at q; omega
    refine Yi (by show (0:Int)≤i∧(i:Int)<(B1.length:Nat); omega) ?_;refine Yi (show B1.length=(B1.map encB).length by simp) (Xi (encB B1[i]) (Yi (map_at gbi) ?_));refine Yi (fun h24=>?_) (fun h24=>?_)
    ·have h24:B1[i]=true:=h24;refine Xi ⟨[(1,sl encRq roots),(2,.ref 2 0),(5,.msl 18 B1.length),(6,vb ch1),(7,vi i)],[(2,.cells (Ic l ifs)),(18,.arr 1 (B1.map encB))],hfree⟩ (Yi ⟨Z5,Z2,Fh,Tv⟩ ?_)
     refine Yi (Ii i (by omega)) ?_;refine Xi ⟨(i+1,B1,ch1),by omega,rnd.keep ni (fun _=>by rw [gbi,h24])⟩ ?_;exact ⟨Dl l.length i (by omega),Z5,Z2,Fh,Tv⟩
    have h24:B1[i]=false:=h24;refine Xi ⟨[(1,sl encRq roots),(2,.ref 2 0),(5,.msl 18 B1.length),(7,vi i)],[(2,.cells (Ic l ifs)),(18,.arr 1 (B1.map encB))],hfree⟩ (Yi ⟨Z4,Z2,Fh,Tv⟩ ?_)
    refine Yi (by show (0:Int)≤i∧(i:Int)<(B1.length:Nat); omega) ?_;refine Yi (show B1.length=(B1.map encB).length by simp) (Xi (encB B1[i]) (Yi (map_at gbi) (Yi (Nz rfl) ?_)));refine Xi ⟨[(1,sl encRq roots),(2,.ref 2 0),(5,.msl 18 B1.length),(6,vb true),(7,vi i)],[(2,.cells (Ic l ifs)),(18,.arr 1 ((B1.map encB).set i [vb true]))],hfree⟩ (Yi ⟨Z5,Z2,Fh,Tv⟩ ?_)
    refine Yi (Ii i (by omega)) ?_;refine Xi ⟨(i+1,B1.set i true,true),by omega,rnd.set hc ni (show partB l roots B1 l[i] l.length=true by rw [show l.length=k by omega,← hb]; exact h21) (fun _=>h24)⟩ ?_;exact ⟨Dl l.length i (by omega),⟨Zr,Zr,⟨(show AV.msl 18 B1.length=.msl 18 (B1.set i true).length by rw [List.length_set]),rfl⟩,Zr,Zr,Tv⟩,⟨Zr,⟨(show HO.arr 1 ((B1.map encB).set i [vb true])=.arr 1 ((B1.set i true).map encB) by rw [List.map_set]),rfl⟩,Tv⟩,Fh,Tv⟩
   have h21:b=false:=h21;refine awp_eq (congrArg (fun bb=>(⟨[(1,sl encRq roots),(2,.ref 2 0),(5,.msl 18 B1.length),(6,vb ch1),(7,vi i),(8,vb bb),(9,vi k)],[(2,.cells (Ic l ifs)),(18,.arr 1 (B1.map encB))],hfree⟩ : LS)) h21) ?_;refine Yi (fun h27=>?_) (fun h27=>?_)
   ·have h27:(k:Int)<((l.map encRl).length:Int):=h27;have n27:k<l.length:=by have q:=h27; rw [Lm] at q; omega
    have g27:l[k]?=some l[k]:=Ge n27;have nk:k<l.length:=by have q:=h27; rw [Lm] at q; omega
    have mk:k<B1.length:=by omega
    have gbk:B1[k]?=some B1[k]:=Ge mk;refine Yi (by show (0:Int)≤k∧(k:Int)<(B1.length:Nat); omega) ?_;refine Yi (show B1.length=(B1.map encB).length by simp) (Xi (encB B1[k]) (Yi (map_at gbk) ?_));refine Yi (fun h28=>?_) (fun h28=>?_)
    ·have h28:B1[k]=true:=h28;refine Xi (encRl l[k]) (Yi (Yi (Nn k) (map_at g27)) (Yi rfl ?_));refine Xi (encRl l[i]) (Yi (Yi (Nn i) (map_at g2)) (Yi rfl ?_));refine Yi (Nz rfl) ?_;refine Or.elim (Bt (anyRB l[k].reqs l[i])) (fun h29=>?_) (fun h29=>?_)
     ·have h29:(anyRB l[k].reqs l[i])=true:=h29;have hc30:=c133 l[k].reqs l[i] (by have:=(ix_few h0).2 _ (List.getElem_mem nk); omega) (fun q hq=>((hx _ (List.getElem_mem nk)).2 q hq).1) (hv _ (List.getElem_mem ni));rw [show anyRB l[k].reqs l[i]=true from h29] at hc30;refine Xi _ (Yi hc30 ?_);refine Yi (by kernel_rfl) ?_;refine Xi ⟨[(1,sl encRq roots),(2,.ref 2 0),(5,.msl 18 B1.length),(6,vb ch1),(7,vi i),(8,vb true),(9,vi k)],[(2,.cells (Ic l ifs)),(18,.arr 1 (B1.map encB))],hfree⟩ (Yi ⟨Z7,Z2,Fh,Tv⟩ ?_)
      refine Yi (Ii k (by omega)) ?_;refine Xi ⟨(k+1,true),by omega,by show true=_; rw [partB_succ nk mk,← hb,h21,h28,h29]; rfl⟩ ?_;exact ⟨Dl l.length k (by omega),Z7,Z2,Fh,Tv⟩
     have h29:(anyRB l[k].reqs l[i])=false:=h29;have hc32:=c133 l[k].reqs l[i] (by have:=(ix_few h0).2 _ (List.getElem_mem nk); omega) (fun q hq=>((hx _ (List.getElem_mem nk)).2 q hq).1) (hv _ (List.getElem_mem ni));rw [show anyRB l[k].reqs l[i]=false from h29] at hc32;refine Xi _ (Yi hc32 ?_);refine Yi (by kernel_rfl) ?_;refine Xi ⟨[(1,sl encRq roots),(2,.ref 2 0),(5,.msl 18 B1.length),(6,vb ch1),(7,vi i),(8,vb false),(9,vi k)],[(2,.cells (Ic l ifs)),(18,.arr 1 (B1.map encB))],hfree⟩ (Yi ⟨Z7,Z2,Fh,Tv⟩ ?_)
     refine Yi (Ii k (by omega)) ?_;refine Xi ⟨(k+1,false),by omega,by show false=_; rw [partB_succ nk mk,← hb,h21,h28,h29]; rfl⟩ ?_;exact ⟨Dl l.length k (by omega),Z7,Z2,Fh,Tv⟩
    have h28:B1[k]=false:=h28;refine Yi (by kernel_rfl) ?_;refine Xi ⟨[(1,sl encRq roots),(2,.ref 2 0),(5,.msl 18 B1.length),(6,vb ch1),(7,vi i),(8,vb false),(9,vi k)],[(2,.cells (Ic l ifs)),(18,.arr 1 (B1.map encB))],hfree⟩ (Yi ⟨Z7,Z2,Fh,Tv⟩ ?_)
    refine Yi (Ii k (by omega)) ?_;refine Xi ⟨(k+1,false),by omega,by show false=_; rw [partB_succ nk mk,← hb,h21,h28]; rfl⟩ ?_;exact ⟨Dl l.length k (by omega),Z7,Z2,Fh,Tv⟩
   have h27:¬ ((k:Int)<((l.map encRl).length:Int)):=h27;have n27:¬ k<l.length:=by have q:=h27; rw [Lm] at q; omega
   refine Xi ⟨[(1,sl encRq roots),(2,.ref 2 0),(5,.msl 18 B1.length),(6,vb ch1),(7,vi i)],[(2,.cells (Ic l ifs)),(18,.arr 1 (B1.map encB))],hfree⟩ (Yi ⟨Z5,Z2,Fh,Tv⟩ ?_)
   refine Yi (Ii i (by omega)) ?_;refine Xi ⟨(i+1,B1,ch1),by omega,rnd.keep ni (fun h=>by rw [(show partB l roots B1 l[i] l.length=false by rw [show l.length=k by omega,← hb]; exact h21)] at h; cases h)⟩ ?_;exact ⟨Dl l.length i (by omega),Z5,Z2,Fh,Tv⟩
  have h2:¬ ((i:Int)<((l.map encRl).length:Int)):=h2;have n2:¬ i<l.length:=by have q:=h2; rw [Lm] at q; omega
  refine Xi ⟨(B1,ch1),rnd.out (by omega)⟩ ?_;exact ⟨by have q:=rnd.mu; show 2*numF B1+(if ch1 then 1 else 0)<2*numF B+(if ch then 1 else 0); rw [h1]; exact q,Z4,Z2,Fh,Tv⟩
 have h1:ch=false:=h1;have hfin:=Out.fin (h1▸o) hmin hok hn hin;refine awp_eq (congrArg (fun bb=>(⟨[(1,sl encRq roots),(2,.ref 2 0),(5,.msl 18 B.length),(6,vb bb)],[(2,.cells (Ic l ifs)),(18,.arr 1 (B.map encB))],hfree⟩ : LS)) h1) ?_;refine Xi {q:Nat × List Sl // q.1≤l.length∧q.2=((l.take q.1).filter fun r=>memP Cl r.path).map keyR} (Xi (fun q=>⟨[(2,.ref 2 0),(5,.msl 18 B.length),(10,.slice (.id 73 4) (q.1.2.map encSl)),(11,vi q.1.1)],[(2,.cells (Ic l ifs)),(18,.arr 1 (B.map encB)),(73,.tok 4 q.1.2.length)],hfree⟩) (Xi (fun q=>l.length - q.1.1) (Yi (Xi ⟨(0,[]),Nat.zero_le _,rfl⟩ ?_) ?_)))
 ·exact ⟨Z4,Z3,Fh,Tv⟩
 intro ⟨⟨j,O⟩,j1,j2⟩;have j1:j≤l.length:=j1;have j2:O=((l.take j).filter fun r=>memP Cl r.path).map keyR:=j2;have hO:O.length≤j:=by
  have:=List.length_filter_le (fun r:Rl=>memP Cl r.path) (l.take j)
  rw [List.length_take] at this; rw [j2,Lm]; omega
 refine Yi (fun h37=>?_) (fun h37=>?_)
 ·have h37:(j:Int)<((l.map encRl).length:Int):=h37;have n37:j<l.length:=by have q:=h37; rw [Lm] at q; omega
  have g37:l[j]?=some l[j]:=Ge n37;have nj:j<l.length:=by have q:=h37; rw [Lm] at q; omega
  have mj:j<B.length:=by omega
  have gbj:B[j]?=some B[j]:=Ge mj;refine Yi (by show (0:Int)≤j∧(j:Int)<(B.length:Nat); omega) ?_;refine Yi (show B.length=(B.map encB).length by simp) (Xi (encB B[j]) (Yi (map_at gbj) ?_));refine Yi (fun h38=>?_) (fun h38=>?_)
  ·have h38:B[j]=true:=h38;refine Xi ⟨[(2,.ref 2 0),(5,.msl 18 B.length),(10,.slice (.id 73 4) (O.map encSl)),(11,vi j)],[(2,.cells (Ic l ifs)),(18,.arr 1 (B.map encB)),(73,.tok 4 O.length)],hfree⟩ (Yi ⟨Z4,Z3,Fh,Tv⟩ ?_)
   refine Xi (encRl l[j]) (Yi (Yi (Nn j) (map_at g37)) (Yi rfl ?_));refine Xi (encRl l[j]) (Yi (Yi (Nn j) (map_at g37)) (Yi rfl ?_));refine Yi (Nz rfl) ?_;have b39:AllLen 4 [[vs l[j].path,vi l[j].ver.a,vi l[j].ver.b,vi l[j].ver.c]]∧(O.map encSl).length=O.length∧((O.map encSl).length+([[vs l[j].path,vi l[j].ver.a,vi l[j].ver.b,vi l[j].ver.c]]:List (List AV)).length)*40≤140737488355328∧(O.map encSl).length+([[vs l[j].path,vi l[j].ver.a,vi l[j].ver.b,vi l[j].ver.c]]:List (List AV)).length≤9223372036854775807:=⟨⟨rfl,trivial⟩,(by simp),(by simp only [Lm,List.length_cons,List.length_nil]; omega),(by simp only [Lm,List.length_cons,List.length_nil]; omega)⟩;refine Yi b39 ?_;refine Yi (by kernel_rfl) ?_;refine Xi ⟨[(2,.ref 2 0),(5,.msl 18 B.length),(10,.slice (.id 73 4) ((O.map encSl)++[[vs l[j].path,vi l[j].ver.a,vi l[j].ver.b,vi l[j].ver.c]])),(11,vi j)],[(2,.cells (Ic l ifs)),(18,.arr 1 (B.map encB)),(73,.tok 4 ((O.map encSl).length+([[vs l[j].path,vi l[j].ver.a,vi l[j].ver.b,vi l[j].ver.c]]:List (List AV)).length))],hfree⟩ (Yi ⟨Z4,Z3,Fh,Tv⟩ ?_)
   refine Yi (Ii j (by omega)) ?_;refine Xi ⟨(j+1,(O++[keyR l[j]])),by omega,by show (O++[keyR l[j]])=((l.take (j+1)).filter _).map keyR; rw [List.take_add_one,Ge nj,List.filter_append,List.map_append,← j2]; show _=O++([l[j]].filter _).map keyR; rw [List.filter_cons,if_pos (show memP Cl l[j].path=true from (Option.some.inj (gbj.symm.trans (hfin j nj))).symm.trans h38)]; simp⟩ ?_;exact ⟨Dl l.length j (by omega),⟨Zr,Zr,⟨(show AV.slice (.id 73 4) (O.map encSl++[encSl (keyR l[j])])=.slice (.id 73 4) ((O++[keyR l[j]]).map encSl) by simp),rfl⟩,Zr,Tv⟩,⟨Zr,Zr,⟨(show HO.tok 4 ((O.map encSl).length+([encSl (keyR l[j])]:List (List AV)).length)=.tok 4 (O++[keyR l[j]]).length by simp),rfl⟩,Tv⟩,Fh,Tv⟩
  have h38:B[j]=false:=h38;refine Xi ⟨[(2,.ref 2 0),(5,.msl 18 B.length),(10,.slice (.id 73 4) (O.map encSl)),(11,vi j)],[(2,.cells (Ic l ifs)),(18,.arr 1 (B.map encB)),(73,.tok 4 O.length)],hfree⟩ (Yi ⟨Z4,Z3,Fh,Tv⟩ ?_)
  refine Yi (Ii j (by omega)) ?_;refine Xi ⟨(j+1,O),by omega,by show O=((l.take (j+1)).filter _).map keyR; rw [List.take_add_one,Ge nj,List.filter_append,List.map_append,← j2]; show _=O++([l[j]].filter _).map keyR; rw [List.filter_cons,if_neg (by rw [(show memP Cl l[j].path=false from (Option.some.inj (gbj.symm.trans (hfin j nj))).symm.trans h38)]; decide)]; simp⟩ ?_;exact ⟨Dl l.length j (by omega),Z4,Z3,Fh,Tv⟩
 have h37:¬ ((j:Int)<((l.map encRl).length:Int)):=h37;have n37:¬ j<l.length:=by have q:=h37; rw [Lm] at q; omega
 exact .of_eq (congrArg (sl encSl) (show O=(l.filter fun r=>memP Cl r.path).map keyR by rw [j2,List.take_of_length_le (by omega)]))
end Go.Eng
