/- Lemmas for the claims of this seat, without a condition: part 25 (E11, E21, E22). -/
import Derived.Test.YtpgfieopnnkpfaaGreatDoorSA24
namespace Go.Eng
open Go.Proofs
abbrev rlN (a b:Int):List AV:=[vs exB,vi a,vi b,vi 0,nilA,vs mt,vs mt,vs mt,vb false]
abbrev exC:List AV:=[.slice .none [encRl ⟨exA,⟨1,0,0⟩,[⟨exB,[(2000,1000000)]⟩],mt,mt,mt,false⟩,rlN 1 0,rlN 1 1],nilA]
theorem ex_sub:Sub (.agg exC) (ixV exIx []) :=
 have h (a b:Int):SubL (rlN a b) (encRl ⟨exB,⟨a,b,0⟩,[],mt,mt,mt,false⟩):=⟨.refl _,.refl _,.refl _,.refl _,.nil,.refl _,.refl _,.refl _,.refl _,trivial⟩
 Sub.agg ⟨Sub.slice ⟨⟨.refl _,.refl _,.refl _,.refl _,.refl _,.refl _,.refl _,.refl _,.refl _,trivial⟩,h 1 0,h 1 1,trivial⟩,.nil,trivial⟩
theorem ex_short:ShortP exIx exRoots exInf:=by
 have h:∀ p ∈ pathsU exIx exRoots exInf,p.size≤100:=by decide +kernel
 intro p hp
 have:=h p hp
 show p.size≤1048576;omega
set_option maxHeartbeats 4000000 in
theorem e11  : PC 11 [] (vb true):=by
 have ha:=awake38_true;unfold awake38 at ha;simp only [Bool.and_eq_true,decide_eq_true_eq] at ha;obtain ⟨⟨⟨⟨⟨⟨⟨b1,b2⟩,b3⟩,b4⟩,b5⟩,b6⟩,b7⟩,b8⟩:=ha;have h24:=e24 exIx [] exRoots exInf 6 ex_ck (by decide) ⟨by decide,by decide⟩ (by decide) ex_short;have h24:=h24.args (args':=[.agg exC,sl encRq exRoots,sl encNf exInf,vi 6]) ⟨ex_sub,.refl _,.refl _,.refl _,trivial⟩;have h18:=e18 exInf 5 (by decide) ⟨by decide,by decide⟩;have h21:=e21 exInf 2 (by decide) ⟨by decide,by decide⟩;rw [b7] at h18;have h17:=e17 [3,4,5] [3,4,5] (by decide);rw [decide_eq_true rfl] at h17;unfold linR at h24;rw [b1] at h24;generalize (linesP exIx exRoots exInf 6).1=L at h24 b2 b3 b4 b5 b6;generalize trimL exInf 2=M at h21 b8;have hg (k:Nat) (s:ByteArray) (h:L[k]?=some s):(L.map encStr)[k]?=some (encStr s):=by rw [List.getElem?_map,h]; rfl
 have hg2:=hg 2 _ b3;have hg3:=hg 3 _ b4;have hg5:=hg 5 _ b5;have hg6:=hg 6 _ b6;have hLl:((L.map encStr).length:Int)=7:=by rw [Lm,b2]; rfl
 have hMl:((M.map encNf).length:Int)=3:=by rw [Lm,b8]; rfl
 refine Ps ⟨[],[],[],[],[],[],[],[],[],[],[2,3,4,5,6,7]⟩ Tryz.func11 rfl (Nz rfl) ?_;refine Yi (Nz rfl) ?_;refine Xi ⟨[(1,.ref 1 0)],[(1,.cells [vi 1,vi 0,vi 0])],hfree⟩ (Yi ⟨Z1,Z1,Fh,Tv⟩ ?_)
 refine Xi ⟨[(1,.ref 1 0),(2,.slice (.id 12 2) [[vs ⟨#[98,47,118,49]⟩,.slice .none [[vi 2000,vi 1000000]]]])],[(1,.cells [vi 1,vi 0,vi 0]),(12,.tok 2 1)],hfree⟩ (Yi ⟨Z2,Z2,Fh,Tv⟩ ?_)
 refine Yi (Nz rfl) ?_;refine Yi (Nz rfl) ?_;refine Yi (Nz rfl) ?_;refine Xi ⟨[(3,.ref 3 0)],[(3,.cells [.slice (.id 20 9) [[vs ⟨#[97,47,118,49]⟩,vi 1,vi 0,vi 0,.slice .none [[vs ⟨#[98,47,118,49]⟩,.slice .none [[vi 2000,vi 1000000]]]],vs ⟨#[]⟩,vs ⟨#[]⟩,vs ⟨#[]⟩,vb false],[vs ⟨#[98,47,118,49]⟩,vi 1,vi 0,vi 0,.v (.slice none 0 0),vs ⟨#[]⟩,vs ⟨#[]⟩,vs ⟨#[]⟩,vb false],[vs ⟨#[98,47,118,49]⟩,vi 1,vi 1,vi 0,.v (.slice none 0 0),vs ⟨#[]⟩,vs ⟨#[]⟩,vs ⟨#[]⟩,vb false]],.v (.slice none 0 0)]),(20,.tok 9 3)],hfree⟩ (Yi ⟨Z1,Z2,Fh,Tv⟩ ?_)
 refine Xi ⟨[(3,.ref 3 0),(4,.slice (.id 25 2) [[vs ⟨#[97,47,118,49]⟩,.slice .none [[vi 0,vi 1000000]]]])],[(3,.cells [.slice (.id 20 9) [[vs ⟨#[97,47,118,49]⟩,vi 1,vi 0,vi 0,.slice .none [[vs ⟨#[98,47,118,49]⟩,.slice .none [[vi 2000,vi 1000000]]]],vs ⟨#[]⟩,vs ⟨#[]⟩,vs ⟨#[]⟩,vb false],[vs ⟨#[98,47,118,49]⟩,vi 1,vi 0,vi 0,.v (.slice none 0 0),vs ⟨#[]⟩,vs ⟨#[]⟩,vs ⟨#[]⟩,vb false],[vs ⟨#[98,47,118,49]⟩,vi 1,vi 1,vi 0,.v (.slice none 0 0),vs ⟨#[]⟩,vs ⟨#[]⟩,vs ⟨#[]⟩,vb false]],.v (.slice none 0 0)]),(20,.tok 9 3),(25,.tok 2 1)],hfree⟩ (Yi ⟨Z2,Z3,Fh,Tv⟩ ?_)
 refine Xi ⟨[(3,.ref 3 0),(4,.slice (.id 25 2) [[vs ⟨#[97,47,118,49]⟩,.slice .none [[vi 0,vi 1000000]]]]),(5,.slice (.id 33 6) [[vi 0,vs ⟨#[]⟩,vi 0,vi 0,vi 0,vi 0],[vi 2,vs ⟨#[97,47,118,49]⟩,vi 0,vi 0,vi 0,vi 0],[vi 3,vs ⟨#[97,47,118,49]⟩,vi 0,vi 0,vi 0,vi 1],[vi 1,vs ⟨#[97,47,118,49]⟩,vi 0,vi 0,vi 0,vi 0],[vi 2,vs ⟨#[98,47,118,49]⟩,vi 0,vi 0,vi 0,vi 0],[vi 3,vs ⟨#[98,47,118,49]⟩,vi 0,vi 0,vi 3,vi 4],[vi 3,vs ⟨#[97,47,118,49]⟩,vi 0,vi 0,vi 2,vi 5]])],[(3,.cells [.slice (.id 20 9) [[vs ⟨#[97,47,118,49]⟩,vi 1,vi 0,vi 0,.slice .none [[vs ⟨#[98,47,118,49]⟩,.slice .none [[vi 2000,vi 1000000]]]],vs ⟨#[]⟩,vs ⟨#[]⟩,vs ⟨#[]⟩,vb false],[vs ⟨#[98,47,118,49]⟩,vi 1,vi 0,vi 0,.v (.slice none 0 0),vs ⟨#[]⟩,vs ⟨#[]⟩,vs ⟨#[]⟩,vb false],[vs ⟨#[98,47,118,49]⟩,vi 1,vi 1,vi 0,.v (.slice none 0 0),vs ⟨#[]⟩,vs ⟨#[]⟩,vs ⟨#[]⟩,vb false]],.v (.slice none 0 0)]),(20,.tok 9 3),(25,.tok 2 1),(33,.tok 6 7)],hfree⟩ (Yi ⟨Z3,Z4,Fh,Tv⟩ ?_)
 refine Yi (Nz rfl) ?_;refine Xi .pure (Xi _ (Yi h24 ?_));refine Xi ⟨[(5,.slice (.id 33 6) [[vi 0,vs ⟨#[]⟩,vi 0,vi 0,vi 0,vi 0],[vi 2,vs ⟨#[97,47,118,49]⟩,vi 0,vi 0,vi 0,vi 0],[vi 3,vs ⟨#[97,47,118,49]⟩,vi 0,vi 0,vi 0,vi 1],[vi 1,vs ⟨#[97,47,118,49]⟩,vi 0,vi 0,vi 0,vi 0],[vi 2,vs ⟨#[98,47,118,49]⟩,vi 0,vi 0,vi 0,vi 0],[vi 3,vs ⟨#[98,47,118,49]⟩,vi 0,vi 0,vi 3,vi 4],[vi 3,vs ⟨#[97,47,118,49]⟩,vi 0,vi 0,vi 2,vi 5]]),(6,sl encStr L),(7,vi 0)],[(33,.tok 6 7)],hfree⟩ (Yi ⟨Z3,Z1,Fh,Tv⟩ ?_)
 refine Yi (fun _=>?_) (fun h=>absurd (by decide) h);refine Yi (fun h1=>?_) (fun h1=>?_)
 ·have h1:((L.map encStr).length:Int)=(7:Int):=h1;refine Xi (encStr exL2) (Yi ⟨by decide,hg2⟩ (Yi rfl ?_));refine Yi (fun h2=>?_) (fun h2=>?_)
  ·have h2:(exL2:ByteArray)=⟨#[51,46,32,97,47,118,49,32,49,46,48,46,48,32,105,115,32,110,101,101,100,101,100,32,40,102,114,111,109,32,49,32,97,110,100,32,50,41]⟩:=h2;refine Xi (encStr exL3) (Yi ⟨by decide,hg3⟩ (Yi rfl ?_));refine Yi (fun h3=>?_) (fun h3=>?_)
   ·have h3:(exL3:ByteArray)=⟨#[52,46,32,97,47,118,49,32,49,46,48,46,48,32,110,101,101,100,115,32,98,47,118,49,32,49,46,50,46,48,46,46,32,40,98,121,32,97,47,118,49,32,49,46,48,46,48,41]⟩:=h3;refine Xi (encStr exL5) (Yi ⟨by decide,hg5⟩ (Yi rfl ?_));refine Yi (fun h4=>?_) (fun h4=>?_)
    ·have h4:(exL5:ByteArray)=⟨#[54,46,32,97,47,118,49,32,49,46,48,46,48,32,105,115,32,105,109,112,111,115,115,105,98,108,101,32,40,102,114,111,109,32,52,32,97,110,100,32,53,41]⟩:=h4;refine Xi (encStr exL6) (Yi ⟨by decide,hg6⟩ (Yi rfl ?_));refine Yi (fun h5=>?_) (fun h5=>?_)
     ·have h5:(exL6:ByteArray)=⟨#[55,46,32,116,104,105,115,32,105,115,32,105,109,112,111,115,115,105,98,108,101,32,40,102,114,111,109,32,51,32,97,110,100,32,54,41]⟩:=h5;refine Xi .pure (Xi _ (Yi h18 ?_));refine Xi .pure (Xi _ (Yi h17 ?_));refine Xi .pure (Xi _ (Yi h21 ?_));refine Yi (fun h6=>?_) (fun h6=>?_)
      ·have h6:((M.map encNf).length:Int)=(3:Int):=h6;exact .refl _
      have h6:¬ (((M.map encNf).length:Int)=(3:Int)):=h6;exact absurd hMl h6
     have h5:¬ (exL6:ByteArray)=⟨#[55,46,32,116,104,105,115,32,105,115,32,105,109,112,111,115,115,105,98,108,101,32,40,102,114,111,109,32,51,32,97,110,100,32,54,41]⟩:=h5;exact absurd rfl h5
    have h4:¬ (exL5:ByteArray)=⟨#[54,46,32,97,47,118,49,32,49,46,48,46,48,32,105,115,32,105,109,112,111,115,115,105,98,108,101,32,40,102,114,111,109,32,52,32,97,110,100,32,53,41]⟩:=h4;exact absurd rfl h4
   have h3:¬ (exL3:ByteArray)=⟨#[52,46,32,97,47,118,49,32,49,46,48,46,48,32,110,101,101,100,115,32,98,47,118,49,32,49,46,50,46,48,46,46,32,40,98,121,32,97,47,118,49,32,49,46,48,46,48,41]⟩:=h3;exact absurd rfl h3
  have h2:¬ (exL2:ByteArray)=⟨#[51,46,32,97,47,118,49,32,49,46,48,46,48,32,105,115,32,110,101,101,100,101,100,32,40,102,114,111,109,32,49,32,97,110,100,32,50,41]⟩:=h2;exact absurd rfl h2
 have h1:¬ (((L.map encStr).length:Int)=(7:Int)):=h1;exact absurd hLl h1
end Go.Eng

namespace Go.Eng
open Go.Proofs
theorem verF_size (v:Ver):(verF v).size≤65:=by
 unfold verF;split
 ·rename_i hv;unfold validB at hv;simp only [Bool.and_eq_true,decide_eq_true_eq] at hv;obtain ⟨⟨h1,h2⟩,h3⟩:=hv;unfold okPart at h1 h2 h3;exact verT_size (by omega) (by omega) (by omega)
 ·decide
theorem join4 (a b c d:ByteArray):(joinB bBlank [a,b,c,d]).size=a.size+b.size+c.size+d.size+3:=by
 have e:bBlank.size=1:=rfl;rw [joinB_cons,joinB_cons,joinB_two];simp only [bsize_app,e]; omega
theorem join3 (a b c:ByteArray):(joinB bBlank [a,b,c]).size=a.size+b.size+c.size+2:=by
 have e:bBlank.size=1:=rfl;rw [joinB_cons,joinB_two];simp only [bsize_app,e]; omega
abbrev ansR (x:List Rl) (roots:List Rq) (a:An):AV:=.tup [sl encStr (ansP x roots a).1,vi (ansP x roots a).2]
theorem ansR_no {x:List Rl} {roots:List Rq} {a:An} {e:Int} (h:ansP x roots a=([],e)):Sub (.tup [.v (.slice none 0 0),vi e]) (ansR x roots a) :=
 (show Sub (.tup [.v (.slice none 0 0),vi e]) (.tup [.slice .none [],vi e]) from Sub.tup ⟨.nil,.refl _,trivial⟩).trans (.of_eq (show AV.tup [.slice .none [],vi e]=ansR x roots a by unfold ansR; rw [h]; rfl))
def flP (d:List (List Tm)) (sel:List Sl) (skips:List Sk) (O:List ByteArray) (j:Nat):List ByteArray:=(O.take j).flatMap (partI d sel skips)
def skP (d:List (List Tm)) (skips:List Sk) (p:ByteArray) (k:Nat):List ByteArray:=((skips.take k).filter fun s=>decide (s.path=p)).map (skipI d p)
theorem skP_succ (d:List (List Tm)) (skips:List Sk) (p:ByteArray) (k:Nat) (h:k<skips.length):skP d skips p (k+1)=if skips[k].path=p then skP d skips p k++[skipI d p skips[k]] else skP d skips p k:=by
 unfold skP;rw [List.take_succ_eq_append_getElem h,List.filter_append,List.map_append]
 by_cases e:skips[k].path=p
 ·rw [if_pos e,List.filter_cons_of_pos (by simp [e])]; rfl
 ·rw [if_neg e,List.filter_cons_of_neg (by simp [e]),List.filter_nil,List.map_nil,List.append_nil]
theorem flP_succ (d:List (List Tm)) (sel:List Sl) (skips:List Sk) (O:List ByteArray) (j:Nat) (h:j<O.length) {y:Sl} (hy:findSl sel O[j]=some y):flP d sel skips O (j+1)=flP d sel skips O j++skP d skips O[j] skips.length++[selI O[j] y.ver]:=by
 unfold flP skP;rw [List.take_succ_eq_append_getElem h,List.flatMap_append,List.take_length];show _++(partI d sel skips O[j]++[])=_;unfold partI;rw [hy,List.append_nil,Option.getD_some,List.append_assoc]
theorem skP_len (d:List (List Tm)) (skips:List Sk) (p:ByteArray) (k:Nat):(skP d skips p k).length≤k:=by
 unfold skP;rw [Lm];have h1:=List.length_filter_le (fun s:Sk=>decide (s.path=p)) (skips.take k);rw [List.length_take] at h1; omega
theorem flP_len (d:List (List Tm)) (sel:List Sl) (skips:List Sk) (O:List ByteArray):∀ j,(flP d sel skips O j).length≤j*(skips.length+1):=fun j=>by
 unfold flP;have h1:∀ L:List ByteArray,(L.flatMap (partI d sel skips)).length≤L.length*(skips.length+1):=fun L=>by
  induction L with
  | nil=>simp
  | cons p L ih =>
   rw [List.flatMap_cons,List.length_append,List.length_cons];have h2:(partI d sel skips p).length≤skips.length+1:=by
    unfold partI;rw [List.length_append,Lm]
    have:=List.length_filter_le (fun s:Sk=>decide (s.path=p)) skips
    simp only [List.length_cons,List.length_nil]; omega
   rw [Nat.succ_mul]; omega
 have h3:=h1 (O.take j);have h4:(O.take j).length*(skips.length+1)≤j*(skips.length+1):=Nat.mul_le_mul (by rw [List.length_take]; omega) (Nat.le_refl _);omega
theorem e77 (y:Sl) (p:ByteArray):PC 77 ([.agg (encSl y)]++[.cptr [vs p]]) (vb (decide (y.path=p))):=by
 refine Ps ⟨[],[],[],[],[],[],[],[],[],[],[]⟩ Tryz.func77 rfl (Nz rfl) ?_;refine Yi (fun h1=>?_) (fun h1=>?_)
 ·have h1:(y.path:ByteArray)=p:=h1;exact .of_eq (show vb true=vb (decide (y.path=p)) by rw [decide_eq_true h1])
 have h1:¬ (y.path:ByteArray)=p:=h1;exact .of_eq (show vb false=vb (decide (y.path=p)) by rw [decide_eq_false h1])
theorem sel_at {s:List Sl} {p:ByteArray} (h:∃ y,findSl s p=some y):∃ (i:Nat) (y:Sl),idx (fun y:Sl=>decide (y.path=p)) s 0=(i:Nat)∧s[i]?=some y∧findSl s p=some y:=by
 rcases idx_find1 s p with h1 | h1
 ·obtain ⟨y,hy⟩:=h; rw [h1.2] at hy; cases hy
 ·exact h1
theorem nthZ_get {α:Type} {d:List α} {i:Int} {t:α} (h:nthZ d i=some t):0≤i∧d[i.toNat]?=some t:=by
 unfold nthZ at h;split at h
 ·cases h
 ·exact ⟨by omega,h⟩
set_option maxHeartbeats 4000000 in
theorem e33 (x:List Rl) (ifs:List (List AV)) (roots:List Rq) (a:An) (L:Lim x roots) (hx:(smallX x 16&&smallQs roots)=true) (hsm:small a=true) (hP:ShortP x roots a.infs):PC 33 [.agg (Ic x ifs),sl encRq roots,.agg [vb a.found,sl encSl a.sel,sl encNf a.infs,sl encSk a.skips]] (ansR x roots a):=by
 have hml:(a.infs.map encNf).length=a.infs.length:=Lm _;obtain ⟨hs1,hs2,hs3⟩:=small_sel hsm;obtain ⟨ck,hc0⟩ : ∃ c,c=checkP x roots a:=⟨_,rfl⟩;have k35:=L.c21 ifs hx a hsm;rw [← hc0] at k35;have k24:=e24 x ifs roots a.infs ((a.infs.length:Int) - 1) (L.ck ifs) (by unfold Few; omega) (by unfold InI64; omega) L.rs hP;have k24:PC 24 [ixV x ifs,sl encRq roots,sl encNf a.infs,vi (((a.infs.map encNf).length:Int) - 1)] (linR x roots a.infs ((a.infs.length:Int) - 1)):=by rw [Lm]; exact k24
 unfold linR at k24;obtain ⟨LL,hLL⟩ : ∃ l,l=(linesP x roots a.infs ((a.infs.length:Int) - 1)).1:=⟨_,rfl⟩;obtain ⟨le,hle⟩ : ∃ l,l=(linesP x roots a.infs ((a.infs.length:Int) - 1)).2:=⟨_,rfl⟩;rw [← hLL,← hle] at k24;have k27:=c12 x ifs roots a.infs (L.ck ifs);obtain ⟨d,hd⟩ : ∃ d,d=(deriveP x roots a.infs).1:=⟨_,rfl⟩;obtain ⟨de,hde⟩ : ∃ d,d=(deriveP x roots a.infs).2:=⟨_,rfl⟩;rw [← hd,← hde] at k27;have k37:=c18 x ifs roots a.sel (L.c84 ifs) L.x L.rq (by omega);unfold decV at k37;obtain ⟨O,hO⟩ : ∃ d,d=(decisionsP x roots a.sel).1:=⟨_,rfl⟩;obtain ⟨oe,hoe⟩ : ∃ d,d=(decisionsP x roots a.sel).2:=⟨_,rfl⟩;rw [← hO,← hoe] at k37;refine Ps ⟨[15],[(13,1)],[],[],[],[],[],[],[],[],[1,2,4,6,7,8,12,15,16,17,19,20,21]⟩ Tryz.func33 rfl (Nz rfl) ?_;refine Xi ⟨[(1,sl encRq roots),(3,.ref 3 0),(5,.ref 5 0)],[(3,.cells (Ic x ifs)),(5,.cells [vb a.found,sl encSl a.sel,sl encNf a.infs,sl encSk a.skips])],hfree⟩ (Yi ⟨Z3,Z2,Fh,Tv⟩ ?_)
 refine Yi (Nz rfl) ?_;refine Yi (Nz rfl) ?_;refine Xi .pure (Xi _ (Yi k35 ?_));refine Xi ⟨[(1,sl encRq roots),(3,.ref 3 0),(5,.ref 5 0),(8,vi ck)],[(3,.cells (Ic x ifs)),(5,.cells [vb a.found,sl encSl a.sel,sl encNf a.infs,sl encSk a.skips])],hfree⟩ (Yi ⟨Z4,Z2,Fh,Tv⟩ ?_)
 refine Yi (fun h1=>?_) (fun h1=>?_)
 ·have h1:(ck:Int)≠(0:Int):=h1;exact ansR_no (by unfold ansP ansG; rw [if_pos (by rw [← hc0]; exact h1),← hc0])
 have h1:(ck:Int)=(0:Int):=Classical.byContradiction h1;have hck:checkP x roots a=0:=by rw [← hc0]; exact h1
 refine Xi ⟨[(1,sl encRq roots),(3,.ref 3 0),(5,.ref 5 0)],[(3,.cells (Ic x ifs)),(5,.cells [vb a.found,sl encSl a.sel,sl encNf a.infs,sl encSk a.skips])],hfree⟩ (Yi ⟨Z3,Z2,Fh,Tv⟩ ?_)
 refine Yi (fun h3=>?_) (fun h3=>?_)
 ·have h3:a.found=true:=h3;have hfd:a.found=true:=h3;obtain ⟨hd0,hsk,he0,hor⟩:=ans_facts hck hfd;rw [← hd] at hsk;have hord:∀ p ∈ O,FewP p∧∃ y,findSl a.sel p=some y:=fun p hp=>by
   rw [hO] at hp;obtain ⟨h1,h2⟩:=hor p hp;exact ⟨hP p (by unfold pathsU; exact List.mem_append_left _ h1),h2⟩
  have hdt:∀ t ∈ d,TmsI t:=by rw [hd]; exact derived_tms hP hd0
  have hOl:O.length≤16:=by rw [hO,(steps_ok hck hfd).2.2.1]; exact hs1
  refine Xi ⟨[(1,sl encRq roots),(3,.ref 3 0),(5,.ref 5 0)],[(3,.cells (Ic x ifs)),(5,.cells [vb a.found,sl encSl a.sel,sl encNf a.infs,sl encSk a.skips])],hfree⟩ (Yi ⟨Z3,Z2,Fh,Tv⟩ ?_)
  refine Yi (Nz rfl) ?_;refine Xi .pure (Xi _ (Yi k27 ?_));refine Xi ⟨[(1,sl encRq roots),(3,.ref 3 0),(5,.ref 5 0),(9,sl encInc d)],[(3,.cells (Ic x ifs)),(5,.cells [vb a.found,sl encSl a.sel,sl encNf a.infs,sl encSk a.skips])],hfree⟩ (Yi ⟨Z4,Z2,Fh,Tv⟩ ?_)
  refine Yi (Nz rfl) ?_;refine Xi .pure (Xi _ (Yi k37 ?_));refine Xi ⟨[(5,.ref 5 0),(9,sl encInc d),(11,sl encStr O)],[(5,.cells [vb a.found,sl encSl a.sel,sl encNf a.infs,sl encSk a.skips])],hfree⟩ (Yi ⟨Z3,Z1,Fh,Tv⟩ ?_)
  refine Xi {j:Nat // j≤O.length} (Xi (fun q=>⟨[(5,.ref 5 0),(9,sl encInc d),(13,.slice (.id 13 1) ((flP d a.sel a.skips O q.1).map encStr)),(58,sl encStr O),(59,vi (O.map encStr).length),(60,vi q.1)],[(5,.cells [vb a.found,sl encSl a.sel,sl encNf a.infs,sl encSk a.skips]),(13,.tok 1 (flP d a.sel a.skips O q.1).length)],hfree⟩) (Xi (fun q=>O.length - q.1) (Yi (Xi ⟨0,Nat.zero_le _⟩ ?_) ?_)))
  ·exact ⟨Z6,Z2,Fh,Tv⟩
  intro ⟨j,j1⟩;have j1:j≤O.length:=j1;have hfl:=flP_len d a.sel a.skips O j;have hfl2:j*(a.skips.length+1)≤16*101:=Nat.mul_le_mul (by omega) (by omega);refine Yi (fun h4=>?_) (fun h4=>?_)
  ·have h4:(j:Int)<((O.map encStr).length:Int):=h4;have n4:j<O.length:=by have q:=h4; rw [Lm] at q; omega
   have g4:O[j]?=some O[j]:=Ge n4;have hOm:=hord O[j] (List.getElem_mem n4);have hOp:FewP O[j]:=hOm.1;obtain ⟨i,y,hix,hsy,hfy⟩:=sel_at hOm.2;have hvz:=verF_size y.ver;refine Xi (encStr O[j]) (Yi (Yi (Nn j) (map_at g4)) (Yi rfl ?_));refine Yi (Nz rfl) ?_;refine Xi ⟨[(5,.ref 5 0),(9,sl encInc d),(13,.slice (.id 13 1) ((flP d a.sel a.skips O j).map encStr)),(15,.ref 15 0),(58,sl encStr O),(59,vi (O.map encStr).length),(60,vi j)],[(5,.cells [vb a.found,sl encSl a.sel,sl encNf a.infs,sl encSk a.skips]),(13,.tok 1 (flP d a.sel a.skips O j).length),(15,.ro [vs O[j]])],hfree⟩ (Yi ⟨Z7,Z3,Fh,Tv⟩ ?_)
   refine Xi {k:Nat // k≤a.skips.length} (Xi (fun q=>⟨[(5,.ref 5 0),(9,sl encInc d),(13,.slice (.id 13 1) ((flP d a.sel a.skips O j++skP d a.skips O[j] q.1).map encStr)),(15,.ref 15 0),(58,sl encStr O),(59,vi (O.map encStr).length),(60,vi j),(65,sl encSk a.skips),(66,vi (a.skips.map encSk).length),(67,vi q.1)],[(5,.cells [vb a.found,sl encSl a.sel,sl encNf a.infs,sl encSk a.skips]),(13,.tok 1 (flP d a.sel a.skips O j++skP d a.skips O[j] q.1).length),(15,.ro [vs O[j]])],hfree⟩) (Xi (fun q=>a.skips.length - q.1) (Yi (Xi ⟨0,Nat.zero_le _⟩ ?_) ?_)))
   ·exact ⟨⟨Zr,Zr,⟨(show AV.slice (.id 13 1) ((flP d a.sel a.skips O j).map encStr)=.slice (.id 13 1) ((flP d a.sel a.skips O j++skP d a.skips O[j] 0).map encStr) by rw [show skP d a.skips O[j] 0=[] from rfl,List.append_nil]),rfl⟩,Zr,Zr,Zr,Zr,Zr,Zr,Zr,Tv⟩,⟨Zr,⟨(show HO.tok 1 (flP d a.sel a.skips O j).length=.tok 1 (flP d a.sel a.skips O j++skP d a.skips O[j] 0).length by rw [show skP d a.skips O[j] 0=[] from rfl,List.append_nil]),rfl⟩,Zr,Tv⟩,Fh,Tv⟩
   intro ⟨k,k1⟩;have k1:k≤a.skips.length:=k1;have hsl:=skP_len d a.skips O[j] k;have hil:(flP d a.sel a.skips O j++skP d a.skips O[j] k).length≤2000:=by rw [List.length_append]; omega
   refine Yi (fun h5=>?_) (fun h5=>?_)
   ·have h5:(k:Int)<((a.skips.map encSk).length:Int):=h5;have n5:k<a.skips.length:=by have q:=h5; rw [Lm] at q; omega
    have g5:a.skips[k]?=some a.skips[k]:=Ge n5;obtain ⟨hpl,tt,htt⟩:=hsk a.skips[k] (List.getElem_mem n5);have hin:=nthZ_get htt;have gin:d[a.skips[k].inf.toNat]?=some (d.getD a.skips[k].inf.toNat []):=by rw [List.getD_eq_getElem?_getD,hin.2]; rfl
    have htm:TmsI (d.getD a.skips[k].inf.toNat []):=hdt _ (List.mem_of_getElem? gin);have hz1:=incText_size htm;have hz2:=atT_size O[j] a.skips[k].place;refine Xi (encSk a.skips[k]) (Yi (Yi (Nn k) (map_at g5)) (Yi rfl ?_));refine Yi (Nz rfl) ?_;refine Yi (Nz rfl) ?_;refine Xi ⟨[(5,.ref 5 0),(9,sl encInc d),(13,.slice (.id 13 1) ((flP d a.sel a.skips O j++skP d a.skips O[j] k).map encStr)),(15,.ref 15 0),(17,.ref 17 0),(58,sl encStr O),(59,vi (O.map encStr).length),(60,vi j),(65,sl encSk a.skips),(66,vi (a.skips.map encSk).length),(67,vi k)],[(5,.cells [vb a.found,sl encSl a.sel,sl encNf a.infs,sl encSk a.skips]),(13,.tok 1 (flP d a.sel a.skips O j++skP d a.skips O[j] k).length),(15,.ro [vs O[j]]),(17,.cells (encSk a.skips[k]))],hfree⟩ (Yi ⟨Z11,Z4,Fh,Tv⟩ ?_)
    refine Yi (fun h6=>?_) (fun h6=>?_)
    ·have h6:(a.skips[k].path:ByteArray)=O[j]:=h6;refine Xi ⟨[(5,.ref 5 0),(9,sl encInc d),(13,.slice (.id 13 1) ((flP d a.sel a.skips O j++skP d a.skips O[j] k).map encStr)),(15,.ref 15 0),(17,.ref 17 0),(58,sl encStr O),(59,vi (O.map encStr).length),(60,vi j),(65,sl encSk a.skips),(66,vi (a.skips.map encSk).length),(67,vi k)],[(5,.cells [vb a.found,sl encSl a.sel,sl encNf a.infs,sl encSk a.skips]),(13,.tok 1 (flP d a.sel a.skips O j++skP d a.skips O[j] k).length),(15,.ro [vs O[j]]),(17,.cells (encSk a.skips[k]))],hfree⟩ (Yi ⟨Z11,Z4,Fh,Tv⟩ ?_)
     refine Xi _ (Yi (e75 O[j] a.skips[k].place hOp.s (by unfold InI64; omega)) ?_);refine Yi (cat_ok (Nat.le_trans hz2 (by decide)) (by decide)) ?_;refine Xi (encInc (d.getD a.skips[k].inf.toNat [])) (Yi (Yi hin.1 (map_at gin)) (Yi rfl ?_));refine Xi _ (Yi (e15 (d.getD a.skips[k].inf.toNat []) htm.len htm.few htm.path) ?_);refine Xi _ (Yi (e44 [(⟨#[115,107,105,112]⟩ : ByteArray),O[j],(atT O[j] a.skips[k].place)++(⟨#[58]⟩ : ByteArray),(incText (d.getD a.skips[k].inf.toNat []))] (by simp) (show (joinB bBlank [(⟨#[115,107,105,112]⟩ : ByteArray),O[j],(atT O[j] a.skips[k].place)++(⟨#[58]⟩ : ByteArray),(incText (d.getD a.skips[k].inf.toNat []))]).size≤281474976710656 by have q1:O[j].size≤1048576:=hOp; have q2:=hz1; have q3:=hz2; have q4:=bsize_app (atT O[j] a.skips[k].place) ⟨#[58]⟩; have q5:(⟨#[58]⟩ : ByteArray).size=1:=rfl; have q6:(⟨#[115,107,105,112]⟩ : ByteArray).size=4:=rfl; have q9:=join4 ((⟨#[115,107,105,112]⟩ : ByteArray)) (O[j]) ((atT O[j] a.skips[k].place)++(⟨#[58]⟩ : ByteArray)) ((incText (d.getD a.skips[k].inf.toNat []))); omega)) ?_);have b7:AllLen 1 [[vs (wordsB [(⟨#[115,107,105,112]⟩ : ByteArray),O[j],(atT O[j] a.skips[k].place)++(⟨#[58]⟩ : ByteArray),(incText (d.getD a.skips[k].inf.toNat []))])]]∧((flP d a.sel a.skips O j++skP d a.skips O[j] k).map encStr).length=(flP d a.sel a.skips O j++skP d a.skips O[j] k).length∧(((flP d a.sel a.skips O j++skP d a.skips O[j] k).map encStr).length+([[vs (wordsB [(⟨#[115,107,105,112]⟩ : ByteArray),O[j],(atT O[j] a.skips[k].place)++(⟨#[58]⟩ : ByteArray),(incText (d.getD a.skips[k].inf.toNat []))])]]:List (List AV)).length)*16≤140737488355328∧((flP d a.sel a.skips O j++skP d a.skips O[j] k).map encStr).length+([[vs (wordsB [(⟨#[115,107,105,112]⟩ : ByteArray),O[j],(atT O[j] a.skips[k].place)++(⟨#[58]⟩ : ByteArray),(incText (d.getD a.skips[k].inf.toNat []))])]]:List (List AV)).length≤9223372036854775807:=⟨⟨rfl,trivial⟩,(by rw [Lm]),(by simp only [Lm,List.length_append,List.length_cons,List.length_nil]; omega),(by simp only [Lm,List.length_append,List.length_cons,List.length_nil]; omega)⟩;refine Yi b7 ?_;refine Yi (by kernel_rfl) ?_;refine Xi ⟨[(5,.ref 5 0),(9,sl encInc d),(13,.slice (.id 13 1) (((flP d a.sel a.skips O j++skP d a.skips O[j] k).map encStr)++[[vs (wordsB [(⟨#[115,107,105,112]⟩ : ByteArray),O[j],(atT O[j] a.skips[k].place)++(⟨#[58]⟩ : ByteArray),(incText (d.getD a.skips[k].inf.toNat []))])]])),(15,.ref 15 0),(58,sl encStr O),(59,vi (O.map encStr).length),(60,vi j),(65,sl encSk a.skips),(66,vi (a.skips.map encSk).length),(67,vi k)],[(5,.cells [vb a.found,sl encSl a.sel,sl encNf a.infs,sl encSk a.skips]),(13,.tok 1 (((flP d a.sel a.skips O j++skP d a.skips O[j] k).map encStr).length+([[vs (wordsB [(⟨#[115,107,105,112]⟩ : ByteArray),O[j],(atT O[j] a.skips[k].place)++(⟨#[58]⟩ : ByteArray),(incText (d.getD a.skips[k].inf.toNat []))])]]:List (List AV)).length)),(15,.ro [vs O[j]])],hfree⟩ (Yi ⟨Z10,Z3,Fh,Tv⟩ ?_)
     refine Yi (Ii k (by omega)) ?_;have hss:=skP_succ d a.skips O[j] k n5;rw [if_pos h6] at hss;refine Xi ⟨k+1,by omega⟩ ?_;exact ⟨Dl a.skips.length k (by omega),⟨Zr,Zr,⟨(show AV.slice (.id 13 1) ((flP d a.sel a.skips O j++skP d a.skips O[j] k).map encStr++[[vs (wordsB [bSkip,O[j],atT O[j] a.skips[k].place++bColon,incText (d.getD a.skips[k].inf.toNat [])])]])=.slice (.id 13 1) ((flP d a.sel a.skips O j++skP d a.skips O[j] (k+1)).map encStr) by rw [hss,← List.append_assoc,List.map_append (l₁:=(flP d a.sel a.skips O j++skP d a.skips O[j] k))]; rfl),rfl⟩,Zr,Zr,Zr,Zr,Zr,Zr,Zr,Tv⟩,⟨Zr,⟨(show HO.tok 1 (((flP d a.sel a.skips O j++skP d a.skips O[j] k).map encStr).length+([[vs (wordsB [bSkip,O[j],atT O[j] a.skips[k].place++bColon,incText (d.getD a.skips[k].inf.toNat [])])]]:List (List AV)).length)=.tok 1 (flP d a.sel a.skips O j++skP d a.skips O[j] (k+1)).length by rw [hss,← List.append_assoc,show ((flP d a.sel a.skips O j++skP d a.skips O[j] k)++[skipI d O[j] a.skips[k]]).length=_ from List.length_append ..,Lm]; rfl),rfl⟩,Zr,Tv⟩,Fh,Tv⟩
    have h6:¬ (a.skips[k].path:ByteArray)=O[j]:=h6;refine Xi ⟨[(5,.ref 5 0),(9,sl encInc d),(13,.slice (.id 13 1) ((flP d a.sel a.skips O j++skP d a.skips O[j] k).map encStr)),(15,.ref 15 0),(58,sl encStr O),(59,vi (O.map encStr).length),(60,vi j),(65,sl encSk a.skips),(66,vi (a.skips.map encSk).length),(67,vi k)],[(5,.cells [vb a.found,sl encSl a.sel,sl encNf a.infs,sl encSk a.skips]),(13,.tok 1 (flP d a.sel a.skips O j++skP d a.skips O[j] k).length),(15,.ro [vs O[j]])],hfree⟩ (Yi ⟨Z10,Z3,Fh,Tv⟩ ?_)
    refine Yi (Ii k (by omega)) ?_;have hss:=skP_succ d a.skips O[j] k n5;rw [if_neg h6] at hss;refine Xi ⟨k+1,by omega⟩ ?_;exact ⟨Dl a.skips.length k (by omega),⟨Zr,Zr,⟨(show AV.slice (.id 13 1) ((flP d a.sel a.skips O j++skP d a.skips O[j] k).map encStr)=.slice (.id 13 1) ((flP d a.sel a.skips O j++skP d a.skips O[j] (k+1)).map encStr) by rw [hss]),rfl⟩,Zr,Zr,Zr,Zr,Zr,Zr,Zr,Tv⟩,⟨Zr,⟨(show HO.tok 1 (flP d a.sel a.skips O j++skP d a.skips O[j] k).length=.tok 1 (flP d a.sel a.skips O j++skP d a.skips O[j] (k+1)).length by rw [hss]),rfl⟩,Zr,Tv⟩,Fh,Tv⟩
   have h5:¬ ((k:Int)<((a.skips.map encSk).length:Int)):=h5;have n5:¬ k<a.skips.length:=by have q:=h5; rw [Lm] at q; omega
   refine Xi .pure (Xi _ (Yi (show PC 76 [sl encSl a.sel,.clo 77 [.cptr [vs O[j]]]] (vi (i:Nat)) by rw [← hix]; exact c78 (Stable.ptr [vs O[j]]) a.sel (fun y=>decide (y.path=O[j])) (fun y _=>e77 y O[j]) (by omega)) ?_));refine Xi ⟨[(5,.ref 5 0),(9,sl encInc d),(13,.slice (.id 13 1) ((flP d a.sel a.skips O j++skP d a.skips O[j] k).map encStr)),(15,.ref 15 0),(18,vi i),(58,sl encStr O),(59,vi (O.map encStr).length),(60,vi j)],[(5,.cells [vb a.found,sl encSl a.sel,sl encNf a.infs,sl encSk a.skips]),(13,.tok 1 (flP d a.sel a.skips O j++skP d a.skips O[j] k).length),(15,.ro [vs O[j]])],hfree⟩ (Yi ⟨Z8,Z3,Fh,Tv⟩ ?_)
   refine Xi (encSl y) (Yi (Yi (show (0:Int)≤(i:Nat) by omega) (map_at hsy)) (Yi rfl ?_));refine Yi (Nz rfl) ?_;refine Xi .pure (Xi _ (Yi (e78 y.ver) ?_));refine Xi ⟨[(5,.ref 5 0),(9,sl encInc d),(13,.slice (.id 13 1) ((flP d a.sel a.skips O j++skP d a.skips O[j] k).map encStr)),(15,.ref 15 0),(19,vs (verF y.ver)),(58,sl encStr O),(59,vi (O.map encStr).length),(60,vi j)],[(5,.cells [vb a.found,sl encSl a.sel,sl encNf a.infs,sl encSk a.skips]),(13,.tok 1 (flP d a.sel a.skips O j++skP d a.skips O[j] k).length),(15,.ro [vs O[j]])],hfree⟩ (Yi ⟨Z8,Z3,Fh,Tv⟩ ?_)
   refine Xi .pure (Xi _ (Yi (e44 [(⟨#[115,101,108,101,99,116]⟩ : ByteArray),O[j],(verF y.ver)] (by simp) (show (joinB bBlank [(⟨#[115,101,108,101,99,116]⟩ : ByteArray),O[j],(verF y.ver)]).size≤281474976710656 by have q1:O[j].size≤1048576:=hOp; have q2:=hvz; have q6:(⟨#[115,101,108,101,99,116]⟩ : ByteArray).size=6:=rfl; have q9:=join3 ((⟨#[115,101,108,101,99,116]⟩ : ByteArray)) (O[j]) ((verF y.ver)); omega)) ?_));have b10:AllLen 1 [[vs (wordsB [(⟨#[115,101,108,101,99,116]⟩ : ByteArray),O[j],(verF y.ver)])]]∧((flP d a.sel a.skips O j++skP d a.skips O[j] k).map encStr).length=(flP d a.sel a.skips O j++skP d a.skips O[j] k).length∧(((flP d a.sel a.skips O j++skP d a.skips O[j] k).map encStr).length+([[vs (wordsB [(⟨#[115,101,108,101,99,116]⟩ : ByteArray),O[j],(verF y.ver)])]]:List (List AV)).length)*16≤140737488355328∧((flP d a.sel a.skips O j++skP d a.skips O[j] k).map encStr).length+([[vs (wordsB [(⟨#[115,101,108,101,99,116]⟩ : ByteArray),O[j],(verF y.ver)])]]:List (List AV)).length≤9223372036854775807:=⟨⟨rfl,trivial⟩,(by rw [Lm]),(by simp only [Lm,List.length_append,List.length_cons,List.length_nil]; omega),(by simp only [Lm,List.length_append,List.length_cons,List.length_nil]; omega)⟩;refine Yi b10 ?_;refine Xi ⟨[(5,.ref 5 0),(9,sl encInc d),(13,.slice (.id 13 1) (((flP d a.sel a.skips O j++skP d a.skips O[j] k).map encStr)++[[vs (wordsB [(⟨#[115,101,108,101,99,116]⟩ : ByteArray),O[j],(verF y.ver)])]])),(58,sl encStr O),(59,vi (O.map encStr).length),(60,vi j)],[(5,.cells [vb a.found,sl encSl a.sel,sl encNf a.infs,sl encSk a.skips]),(13,.tok 1 (((flP d a.sel a.skips O j++skP d a.skips O[j] k).map encStr).length+([[vs (wordsB [(⟨#[115,101,108,101,99,116]⟩ : ByteArray),O[j],(verF y.ver)])]]:List (List AV)).length))],hfree⟩ (Yi ⟨Z6,Z2,Fh,Tv⟩ ?_)
   refine Yi (Ii j (by omega)) ?_;have hkk:k=a.skips.length:=by omega
   have hfs:=flP_succ d a.sel a.skips O j n4 hfy;rw [← hkk] at hfs;refine Xi ⟨j+1,by omega⟩ ?_;exact ⟨Dl O.length j (by omega),⟨Zr,Zr,⟨(show AV.slice (.id 13 1) (((flP d a.sel a.skips O j++skP d a.skips O[j] k).map encStr)++[[vs (wordsB [bSelect,O[j],verF y.ver])]])=.slice (.id 13 1) ((flP d a.sel a.skips O (j+1)).map encStr) by rw [hfs,List.map_append (l₁:=flP d a.sel a.skips O j++skP d a.skips O[j] k)]; rfl),rfl⟩,Zr,Zr,Zr,Tv⟩,⟨Zr,⟨(show HO.tok 1 (((flP d a.sel a.skips O j++skP d a.skips O[j] k).map encStr).length+([[vs (wordsB [bSelect,O[j],verF y.ver])]]:List (List AV)).length)=.tok 1 (flP d a.sel a.skips O (j+1)).length by rw [hfs,show (flP d a.sel a.skips O j++skP d a.skips O[j] k++[selI O[j] y.ver]).length=_ from List.length_append ..,Lm]; rfl),rfl⟩,Tv⟩,Fh,Tv⟩
  have h4:¬ ((j:Int)<((O.map encStr).length:Int)):=h4;have n4:¬ j<O.length:=by have q:=h4; rw [Lm] at q; omega
  exact .of_eq (show AV.tup [sl encStr (flP d a.sel a.skips O j),vi 0]=ansR x roots a by unfold ansR ansP ansG flP; rw [if_neg (fun h=>h hck),if_neg (by rw [hfd]; decide),← hd,← hO,List.take_of_length_le (by omega)])
 have h3:a.found=false:=h3;refine Yi (Nz rfl) ?_;refine Yi (by show InI64 (((a.infs.map encNf).length:Int) - (1:Int)); unfold InI64; omega) ?_;refine Xi .pure (Xi _ (Yi k24 ?_));exact .of_eq (show AV.tup [sl encStr LL,vi le]=ansR x roots a by unfold ansR ansP ansG; rw [if_neg (fun h=>h hck),if_pos h3,hLL,hle])
end Go.Eng

namespace Go.Eng
open Go.Proofs
theorem e38 (s p:ByteArray):PC 38 [vs s,vs p] (vb (preB p s)):=by
 have h:=pcall_same [.string s,.string p] (.bool (Go.Lib.hasPrefix s.data.toList p.data.toList)) (ent 38 Tryz.func38 (by kernel_rfl) rfl) rfl (fun g w=>.v _ _) fun w _=>Any.strings_HasPrefix Tryz.layHasP s p w;have e:Go.Lib.hasPrefix s.data.toList p.data.toList=preB p s:=by
  unfold preB Go.Lib.hasPrefix;rw [Bool.eq_iff_iff,List.isPrefixOf_iff_prefix,decide_eq_true_iff,List.prefix_iff_eq_take];exact ⟨Eq.symm,Eq.symm⟩
 rw [e] at h;exact h
theorem steps_fail {P:List ByteArray} {A:List ByteArray} {i k:Nat} {r:Nat × Nat} (h:stepsGo P A i k=some r) (s:ByteArray) (B:List ByteArray) (e:A=s :: B):∃ p,P[i]?=some p∧((preB (rSkip++p++bBlank) s=true∧stepsGo P B i (k+1)=some r)∨(preB (rSkip++p++bBlank) s=false∧preB (rSelect++p++bBlank) s=true∧stepsGo P B (i+1) k=some r)):=by
 subst e;rw [stepsGo_cons] at h;cases hp:P[i]? with
 | none=>rw [hp] at h; cases h
 | some p =>
  rw [hp] at h;refine ⟨p,rfl,?_⟩;dsimp only at h;cases h1:preB (rSkip++p++bBlank) s with
  | true=>rw [h1,if_pos rfl] at h; exact .inl ⟨rfl,h⟩
  | false =>
   rw [h1,if_neg (by decide)] at h;cases h2:preB (rSelect++p++bBlank) s with
   | true=>rw [h2,if_pos rfl] at h; exact .inr ⟨rfl,rfl,h⟩
   | false=>rw [h2,if_neg (by decide)] at h; cases h
theorem cont_has {s p:ByteArray} (h:0≤Go.Lib.index s.data.toList p.data.toList):Go.Lib.contains s.data.toList p.data.toList=true:=by
 unfold Go.Lib.contains; exact decide_eq_true h
theorem last_size {x:List Rl} {roots:List Rq} {l:List Nf} (hP:ShortP x roots l) (hr0:roots.length≤1073741824) (h:(deriveP x roots l).2=0) (hr:refutedB (deriveP x roots l).1=true) {m' : Nat} {s:ByteArray}
  (k1:(linesP x roots l ((l.length:Int) - 1)).1.length=m'+1) (k2:(linesP x roots l ((l.length:Int) - 1)).1[m']?=some s):s.size≤1000000000∧m'≤65536:=by
 obtain ⟨h1,h2,h3,h4⟩:=deriveP_ok h;have hdl:=(derive_at h4).1;have hpos:0<l.length:=by
  rw [← hdl];cases e:(deriveP x roots l).1 with
  | nil=>rw [e] at hr; cases hr
  | cons a b=>simp
 obtain ⟨t,hlt⟩ : ∃ t,l.length=t+1:=⟨l.length - 1,by omega⟩;have htl:t<l.length:=by omega
 have hT:((l.length:Int) - 1)=(t:Int):=by omega
 rw [hT] at k1 k2;obtain ⟨m,f1,f2,f3,f4,_⟩:=trim_facts h4 htl;have e:linesP x roots l t=(linesW lineI (trimL l t) ((usedL l t).map fun i=>(deriveP x roots l).1.getD i []),0):=by
  unfold linesP;rw [if_neg (by rw [h]; decide),if_neg (by omega)]
 rw [e] at k1 k2;rw [refutes_last (hdl.trans hlt)] at hr;have hnil:=of_decide_eq_true hr;have hm:m'=m:=by
  have q:(linesW lineI (trimL l t) ((usedL l t).map fun i=>(deriveP x roots l).1.getD i [])).length=m'+1:=k1;unfold linesW at q;rw [Lm,List.length_range,f2] at q; omega
 subst hm;have hmo:m' < (trimL l t).length:=by omega
 have hs:s=lineI m' (((usedL l t).map fun i=>(deriveP x roots l).1.getD i []).getD m' []) ((trimL l t).getD m' nf0):=by
  have q:(linesW lineI (trimL l t) ((usedL l t).map fun i=>(deriveP x roots l).1.getD i []))[m']?=some s:=k2;unfold linesW at q;rw [List.getElem?_map,List.getElem?_range hmo] at q;exact (Option.some.inj q).symm
 rw [hs,f3,hnil];have hy:NfI ((trimL l t).getD m' nf0):=trim_nf hP hr0 h htl _ (by rw [List.getD_eq_getElem?_getD,Ge hmo]; exact List.getElem_mem hmo);have z:=reasonI_size hy;have hD:(deriveP x roots (trimL l t)).1.length≤65536:=derive_few;obtain ⟨mm,g1,g2,g3,_⟩:=keeps_ok h htl;have hm2:m'≤65536:=by omega
 refine ⟨?_,hm2⟩;have z2:=itB_size (n:=(m' : Int)+1) (by omega) (by omega);unfold lineI;rw [join3,bsize_app];have z3:(incText []).size=18:=rfl;have z4:bDot.size=1:=rfl;omega
theorem ansP_err {x:List Rl} {roots:List Rq} {a:An} : (ansP x roots a).2=checkP x roots a:=by
 by_cases h:checkP x roots a=0
 ·cases hf:a.found with
  | true=>rw [h]; exact (steps_ok h hf).1
  | false=>rw [h]; exact (steps_no h hf).1
 ·unfold ansP ansG; rw [if_pos h]
theorem ansP_bad {x:List Rl} {roots:List Rq} {a:An} (h:checkP x roots a≠0):(ansP x roots a).1=[]:=by
 unfold ansP ansG; rw [if_pos h]
theorem ans_last {x:List Rl} {roots:List Rq} {a:An} (hP:ShortP x roots a.infs) (hr0:roots.length≤1073741824) (h:checkP x roots a=0) (hf:a.found=false) :
  ∃ m s,(ansP x roots a).1.length=m+1∧(ansP x roots a).1[m]?=some s∧(s.size≤1000000000∧m≤65536)∧Go.Lib.contains s.data.toList bImpossible.data.toList=true:=by
 obtain ⟨_,m,s,k1,k2,k3⟩:=steps_no h hf;refine ⟨m,s,k1,k2,?_,cont_has k3⟩;obtain ⟨h0,h1 | ⟨h1,_⟩⟩:=checkP_ok h
 ·have e:ansP x roots a=linesP x roots a.infs ((a.infs.length:Int) - 1):=by
   unfold ansP ansG;rw [if_neg (by rw [h]; decide),if_pos hf]
  rw [e] at k1 k2;exact last_size hP hr0 h0 h1.2.2.2 k1 k2
 ·rw [h1] at hf; cases hf
theorem small_of {a:An} (h1:a.sel.length≤16) (h2:a.skips.length≤100) (h3:a.infs.length≤400):small a=true:=by
 unfold small; simp [h1,h2,h3]
set_option maxHeartbeats 4000000 in
theorem e9 (x:List Rl) (ifs:List (List AV)) (roots:List Rq) (a:An) (L:Lim x roots) (hP:ShortP x roots a.infs):PC 9 [.agg (Ic x ifs),sl encRq roots,.agg [vb a.found,sl encSl a.sel,sl encNf a.infs,sl encSk a.skips]] (vb true):=by
 have k23:=L.c11 ifs;refine Ps ⟨[],[],[],[],[],[],[],[],[],[],[3,5,6,8,10,12,13,15,19,21,23]⟩ Tryz.func9 rfl (Nz rfl) ?_;refine Xi .pure (Xi _ (Yi e11 ?_));refine Xi ⟨[(1,sl encRq roots),(3,.ref 3 0),(5,.ref 5 0)],[(3,.cells (Ic x ifs)),(5,.cells [vb a.found,sl encSl a.sel,sl encNf a.infs,sl encSk a.skips])],hfree⟩ (Yi ⟨Z3,Z2,Fh,Tv⟩ ?_)
 refine Yi (Nz rfl) ?_;refine Or.elim (Bt (smallX x 16&&smallQs roots)) (fun h1=>?_) (fun h1=>?_)
 ·have h1:(smallX x 16&&smallQs roots)=true:=h1;have hc2:=k23;rw [show (smallX x 16&&smallQs roots)=true from h1] at hc2;refine Xi .pure (Xi _ (Yi hc2 ?_));refine Yi (fun h3=>?_) (fun h3=>?_)
  ·have h3:(400:Int)<((a.infs.map encNf).length:Int):=h3;have n3:400<a.infs.length:=by have q:=h3; rw [Lm] at q; omega
   exact .refl _
  have h3:¬ ((400:Int)<((a.infs.map encNf).length:Int)):=h3;have n3:¬ 400<a.infs.length:=by have q:=h3; rw [Lm] at q; omega
  refine Yi (fun h5=>?_) (fun h5=>?_)
  ·have h5:(16:Int)<((a.sel.map encSl).length:Int):=h5;have n5:16<a.sel.length:=by have q:=h5; rw [Lm] at q; omega
   exact .refl _
  have h5:¬ ((16:Int)<((a.sel.map encSl).length:Int)):=h5;have n5:¬ 16<a.sel.length:=by have q:=h5; rw [Lm] at q; omega
  refine Yi (fun h7=>?_) (fun h7=>?_)
  ·have h7:(100:Int)<((a.skips.map encSk).length:Int):=h7;have n7:100<a.skips.length:=by have q:=h7; rw [Lm] at q; omega
   exact .refl _
  have h7:¬ ((100:Int)<((a.skips.map encSk).length:Int)):=h7;have n7:¬ 100<a.skips.length:=by have q:=h7; rw [Lm] at q; omega
  refine Xi ⟨[(1,sl encRq roots),(3,.ref 3 0),(5,.ref 5 0)],[(3,.cells (Ic x ifs)),(5,.cells [vb a.found,sl encSl a.sel,sl encNf a.infs,sl encSk a.skips])],hfree⟩ (Yi ⟨Z3,Z2,Fh,Tv⟩ ?_)
  refine Yi (Nz rfl) ?_;refine Yi (Nz rfl) ?_;have hsm:small a=true:=small_of (by have q:=h5; rw [Lm] at q; omega) (by have q:=h7; rw [Lm] at q; omega) (by have q:=h3; rw [Lm] at q; omega);have hx:=h1;have hss:=small_sel hsm;have k33:=e33 x ifs roots a L hx hsm hP;unfold ansR at k33;rw [ansP_err] at k33;have k35:=L.c21 ifs hx a hsm;have k37:=c18 x ifs roots a.sel (L.c84 ifs) L.x L.rq (by omega);unfold decV at k37;obtain ⟨A,hA⟩ : ∃ l,l=(ansP x roots a).1:=⟨_,rfl⟩;obtain ⟨O,hO⟩ : ∃ d,d=(decisionsP x roots a.sel).1:=⟨_,rfl⟩;obtain ⟨oe,hoe⟩ : ∃ d,d=(decisionsP x roots a.sel).2:=⟨_,rfl⟩;obtain ⟨ck,hck⟩ : ∃ c,c=checkP x roots a:=⟨_,rfl⟩;rw [← hA,← hck] at k33;rw [← hck] at k35;rw [← hO,← hoe] at k37;refine Xi .pure (Xi _ (Yi k33 ?_));refine Xi ⟨[(1,sl encRq roots),(3,.ref 3 0),(5,.ref 5 0),(7,sl encStr A),(8,vi ck)],[(3,.cells (Ic x ifs)),(5,.cells [vb a.found,sl encSl a.sel,sl encNf a.infs,sl encSk a.skips])],hfree⟩ (Yi ⟨Z5,Z2,Fh,Tv⟩ ?_)
  refine Yi (Nz rfl) ?_;refine Yi (Nz rfl) ?_;refine Xi .pure (Xi _ (Yi k35 ?_));refine Yi (fun h9=>?_) (fun h9=>?_)
  ·have h9:(ck:Int)≠(ck:Int):=h9;exact absurd rfl h9
  have h9:(ck:Int)=(ck:Int):=Classical.byContradiction h9;refine Xi ⟨[(1,sl encRq roots),(3,.ref 3 0),(5,.ref 5 0),(7,sl encStr A),(8,vi ck)],[(3,.cells (Ic x ifs)),(5,.cells [vb a.found,sl encSl a.sel,sl encNf a.infs,sl encSk a.skips])],hfree⟩ (Yi ⟨Z5,Z2,Fh,Tv⟩ ?_)
  refine Yi (fun h11=>?_) (fun h11=>?_)
  ·have h11:(ck:Int)≠(0:Int):=h11;refine Yi (fun h12=>?_) (fun h12=>?_)
   ·have h12:((A.map encStr).length:Int)=(0:Int):=h12;exact .refl _
   have h12:¬ (((A.map encStr).length:Int)=(0:Int)):=h12;exact absurd (by rw [hA,ansP_bad (by rw [← hck]; exact h11)]; rfl) h12
  have h11:(ck:Int)=(0:Int):=Classical.byContradiction h11;refine Xi ⟨[(1,sl encRq roots),(3,.ref 3 0),(5,.ref 5 0),(7,sl encStr A)],[(3,.cells (Ic x ifs)),(5,.cells [vb a.found,sl encSl a.sel,sl encNf a.infs,sl encSk a.skips])],hfree⟩ (Yi ⟨Z4,Z2,Fh,Tv⟩ ?_)
  refine Yi (fun h15=>?_) (fun h15=>?_)
  ·have h15:a.found=true:=h15;have hc0:checkP x roots a=0:=by rw [← hck]; exact h11
   have hfd:a.found=true:=h15;have hst:=(steps_ok hc0 hfd).2;rw [← hA,← hO] at hst;have hlA:A.length=a.skips.length+a.sel.length:=hst.1;have hlO:O.length=a.sel.length:=hst.2.1;have hord:∀ p ∈ O,p.size≤1048576:=fun p hp=>by
    rw [hO] at hp;exact hP p (by unfold pathsU; exact List.mem_append_left _ ((ans_facts hc0 hfd).2.2.2 p hp).1)
   have hst:A.length=a.skips.length+a.sel.length∧O.length=a.sel.length∧stepsGo O A 0 0=some (O.length,a.skips.length):=hst;refine Xi ⟨[(1,sl encRq roots),(3,.ref 3 0),(5,.ref 5 0),(7,sl encStr A)],[(3,.cells (Ic x ifs)),(5,.cells [vb a.found,sl encSl a.sel,sl encNf a.infs,sl encSk a.skips])],hfree⟩ (Yi ⟨Z4,Z2,Fh,Tv⟩ ?_)
   refine Yi (Nz rfl) ?_;refine Xi .pure (Xi _ (Yi k37 ?_));refine Xi ⟨[(5,.ref 5 0),(7,sl encStr A),(9,sl encStr O)],[(5,.cells [vb a.found,sl encSl a.sel,sl encNf a.infs,sl encSk a.skips])],hfree⟩ (Yi ⟨Z3,Z1,Fh,Tv⟩ ?_)
   refine Yi (by show InI64 (((a.skips.map encSk).length:Int)+((a.sel.map encSl).length:Int)); unfold InI64; omega) ?_;refine Yi (fun h16=>?_) (fun h16=>?_)
   ·have h16:((A.map encStr).length:Int)≠((a.skips.map encSk).length+(a.sel.map encSl).length:Int):=h16
    exfalso; have q:=h16; simp only [Lm] at q; omega
   have h16:((A.map encStr).length:Int)=((a.skips.map encSk).length+(a.sel.map encSl).length:Int):=Classical.byContradiction h16;refine Yi (fun h18=>?_) (fun h18=>?_)
   ·have h18:((O.map encStr).length:Int)≠((a.sel.map encSl).length:Int):=h18
    exfalso; have q:=h18; simp only [Lm] at q; omega
   have h18:((O.map encStr).length:Int)=((a.sel.map encSl).length:Int):=Classical.byContradiction h18;refine Xi ⟨[(5,.ref 5 0),(7,sl encStr A),(9,sl encStr O)],[(5,.cells [vb a.found,sl encSl a.sel,sl encNf a.infs,sl encSk a.skips])],hfree⟩ (Yi ⟨Z3,Z1,Fh,Tv⟩ ?_)
   refine Xi {q:Nat × Nat × Nat // (q.1≤A.length∧q.2.1≤q.1∧q.2.2≤q.1)∧stepsGo O (A.drop q.1) q.2.1 q.2.2=some (O.length,a.skips.length)} (Xi (fun q=>⟨[(5,.ref 5 0),(9,sl encStr O),(11,vi q.1.2.1),(12,vi q.1.2.2),(98,sl encStr A),(99,vi (A.map encStr).length),(100,vi q.1.1)],[(5,.cells [vb a.found,sl encSl a.sel,sl encNf a.infs,sl encSk a.skips])],hfree⟩) (Xi (fun q=>A.length - q.1.1) (Yi (Xi ⟨(0,0,0),⟨Nat.zero_le _,Nat.le_refl _,Nat.le_refl _⟩,hst.2.2⟩ ?_) ?_)))
   ·exact ⟨Z7,Z1,Fh,Tv⟩
   intro ⟨⟨i,m,c⟩,i1,i2⟩;have i1:i≤A.length∧m≤i∧c≤i:=i1;have i2:stepsGo O (A.drop i) m c=some (O.length,a.skips.length):=i2;refine Yi (fun h20=>?_) (fun h20=>?_)
   ·have h20:(i:Int)<((A.map encStr).length:Int):=h20;have n20:i<A.length:=by have q:=h20; rw [Lm] at q; omega
    have g20:A[i]?=some A[i]:=Ge n20;obtain ⟨p,hp,hcs⟩:=steps_fail i2 A[i] (A.drop (i+1)) (List.drop_eq_getElem_cons n20);have hmO:m<O.length:=(List.getElem?_eq_some_iff.1 hp).1;have hpe:p=O[m]:=(List.getElem?_eq_some_iff.1 hp).2.symm;subst hpe;have gO:O[m]?=some O[m]:=Ge hmO;have hOz:O[m].size≤1048576:=hord O[m] (List.getElem_mem hmO);refine Xi (encStr A[i]) (Yi (Yi (Nn i) (map_at g20)) (Yi rfl ?_));refine Xi ⟨[(5,.ref 5 0),(9,sl encStr O),(11,vi m),(12,vi c),(14,vs A[i]),(98,sl encStr A),(99,vi (A.map encStr).length),(100,vi i)],[(5,.cells [vb a.found,sl encSl a.sel,sl encNf a.infs,sl encSk a.skips])],hfree⟩ (Yi ⟨Z8,Z1,Fh,Tv⟩ ?_)
    refine Yi (fun h21=>?_) (fun h21=>?_)
    ·have h21:((O.map encStr).length:Int)≤(m:Int):=h21
     exfalso; have q:=h21; simp only [Lm] at q; omega
    have h21:¬ (((O.map encStr).length:Int)≤(m:Int)):=h21;refine Xi ⟨[(5,.ref 5 0),(9,sl encStr O),(11,vi m),(12,vi c),(14,vs A[i]),(98,sl encStr A),(99,vi (A.map encStr).length),(100,vi i)],[(5,.cells [vb a.found,sl encSl a.sel,sl encNf a.infs,sl encSk a.skips])],hfree⟩ (Yi ⟨Z8,Z1,Fh,Tv⟩ ?_)
    refine Xi (encStr O[m]) (Yi (Yi (show (0:Int)≤(m:Nat) by omega) (map_at gO)) (Yi rfl ?_));refine Yi (by have q0:=hOz; have q1:(⟨#[115,107,105,112,32]⟩ : ByteArray).size=5:=rfl; have q2:(⟨#[115,101,108,101,99,116,32]⟩ : ByteArray).size=7:=rfl; have q3:(⟨#[32]⟩ : ByteArray).size=1:=rfl; have q4:=bsize_app ⟨#[115,107,105,112,32]⟩ O[m]; have q5:=bsize_app ⟨#[115,101,108,101,99,116,32]⟩ O[m]; show ((ByteArray.size (⟨#[115,107,105,112,32]⟩)+ByteArray.size (O[m]):Nat):Int)≤_; omega) ?_;refine Yi (by have q0:=hOz; have q1:(⟨#[115,107,105,112,32]⟩ : ByteArray).size=5:=rfl; have q2:(⟨#[115,101,108,101,99,116,32]⟩ : ByteArray).size=7:=rfl; have q3:(⟨#[32]⟩ : ByteArray).size=1:=rfl; have q4:=bsize_app ⟨#[115,107,105,112,32]⟩ O[m]; have q5:=bsize_app ⟨#[115,101,108,101,99,116,32]⟩ O[m]; show ((ByteArray.size (⟨#[115,107,105,112,32]⟩++O[m])+ByteArray.size (⟨#[32]⟩):Nat):Int)≤_; omega) ?_;refine Or.elim (Bt (preB (rSkip++O[m]++bBlank) A[i])) (fun h23=>?_) (fun h23=>?_)
    ·have h23:(preB (rSkip++O[m]++bBlank) A[i])=true:=h23;have hc24:=(e38 A[i] (rSkip++O[m]++bBlank));rw [show (preB (rSkip++O[m]++bBlank) A[i])=true from h23] at hc24;refine Xi .pure (Xi _ (Yi hc24 ?_));refine Yi (Ii c (by omega)) ?_;refine Yi (Ii i (by omega)) ?_;refine Xi ⟨(i+1,m,c+1),⟨show i+1≤A.length by omega,show m≤i+1 by omega,show c+1≤i+1 by omega⟩,hcs.elim (fun h=>h.2) (fun h=>absurd (h23.symm.trans h.1) (by decide))⟩ ?_;exact ⟨Dl A.length i (by omega),Z7,Z1,Fh,Tv⟩
    have h23:(preB (rSkip++O[m]++bBlank) A[i])=false:=h23;have hc26:=(e38 A[i] (rSkip++O[m]++bBlank));rw [show (preB (rSkip++O[m]++bBlank) A[i])=false from h23] at hc26;refine Xi .pure (Xi _ (Yi hc26 ?_));refine Xi ⟨[(5,.ref 5 0),(9,sl encStr O),(11,vi m),(12,vi c),(14,vs A[i]),(98,sl encStr A),(99,vi (A.map encStr).length),(100,vi i)],[(5,.cells [vb a.found,sl encSl a.sel,sl encNf a.infs,sl encSk a.skips])],hfree⟩ (Yi ⟨Z8,Z1,Fh,Tv⟩ ?_)
    refine Xi (encStr O[m]) (Yi (Yi (show (0:Int)≤(m:Nat) by omega) (map_at gO)) (Yi rfl ?_));refine Yi (by have q0:=hOz; have q1:(⟨#[115,107,105,112,32]⟩ : ByteArray).size=5:=rfl; have q2:(⟨#[115,101,108,101,99,116,32]⟩ : ByteArray).size=7:=rfl; have q3:(⟨#[32]⟩ : ByteArray).size=1:=rfl; have q4:=bsize_app ⟨#[115,107,105,112,32]⟩ O[m]; have q5:=bsize_app ⟨#[115,101,108,101,99,116,32]⟩ O[m]; show ((ByteArray.size (⟨#[115,101,108,101,99,116,32]⟩)+ByteArray.size (O[m]):Nat):Int)≤_; omega) ?_;refine Yi (by have q0:=hOz; have q1:(⟨#[115,107,105,112,32]⟩ : ByteArray).size=5:=rfl; have q2:(⟨#[115,101,108,101,99,116,32]⟩ : ByteArray).size=7:=rfl; have q3:(⟨#[32]⟩ : ByteArray).size=1:=rfl; have q4:=bsize_app ⟨#[115,107,105,112,32]⟩ O[m]; have q5:=bsize_app ⟨#[115,101,108,101,99,116,32]⟩ O[m]; show ((ByteArray.size (⟨#[115,101,108,101,99,116,32]⟩++O[m])+ByteArray.size (⟨#[32]⟩):Nat):Int)≤_; omega) ?_;refine Or.elim (Bt (preB (rSelect++O[m]++bBlank) A[i])) (fun h27=>?_) (fun h27=>?_)
    ·have h27:(preB (rSelect++O[m]++bBlank) A[i])=true:=h27;have hc28:=(e38 A[i] (rSelect++O[m]++bBlank));rw [show (preB (rSelect++O[m]++bBlank) A[i])=true from h27] at hc28;refine Xi .pure (Xi _ (Yi hc28 ?_));refine Yi (Ii m (by omega)) ?_;refine Yi (Ii i (by omega)) ?_;refine Xi ⟨(i+1,m+1,c),⟨show i+1≤A.length by omega,show m+1≤i+1 by omega,show c≤i+1 by omega⟩,hcs.elim (fun h=>absurd (h.1.symm.trans h23) (by decide)) (fun h=>h.2.2)⟩ ?_;exact ⟨Dl A.length i (by omega),Z7,Z1,Fh,Tv⟩
    have h27:(preB (rSelect++O[m]++bBlank) A[i])=false:=h27;have hc30:=(e38 A[i] (rSelect++O[m]++bBlank));rw [show (preB (rSelect++O[m]++bBlank) A[i])=false from h27] at hc30;refine Xi .pure (Xi _ (Yi hc30 ?_));exact absurd (hcs.elim (fun h=>absurd (h.1.symm.trans h23) (by decide)) (fun h=>h.2.1.symm.trans h27)) (by decide)
   have h20:¬ ((i:Int)<((A.map encStr).length:Int)):=h20;have n20:¬ i<A.length:=by have q:=h20; rw [Lm] at q; omega
   refine Yi (fun h32=>?_) (fun h32=>?_)
   ·have h32:(m:Int)=((O.map encStr).length:Int):=h32;refine Yi (fun h33=>?_) (fun h33=>?_)
    ·have h33:(c:Int)=((a.skips.map encSk).length:Int):=h33;exact .refl _
    have h33:¬ ((c:Int)=((a.skips.map encSk).length:Int)):=h33;have hnd:A.drop i=[]:=List.drop_eq_nil_of_le (by omega);rw [hnd] at i2;have hfin:(m,c)=(O.length,a.skips.length):=Option.some.inj i2;have hf1:m=O.length:=congrArg Prod.fst hfin;have hf2:c=a.skips.length:=congrArg Prod.snd hfin
    exfalso; have q:=h33; simp only [Lm] at q; omega
   have h32:¬ ((m:Int)=((O.map encStr).length:Int)):=h32;have hnd:A.drop i=[]:=List.drop_eq_nil_of_le (by omega);rw [hnd] at i2;have hfin:(m,c)=(O.length,a.skips.length):=Option.some.inj i2;have hf1:m=O.length:=congrArg Prod.fst hfin;have hf2:c=a.skips.length:=congrArg Prod.snd hfin
   exfalso; have q:=h32; simp only [Lm] at q; omega
  have h15:a.found=false:=h15;have hc0:checkP x roots a=0:=by rw [← hck]; exact h11
  have hfd:a.found=false:=h15;obtain ⟨mm,s,hs1,hs2,hs3,hs4⟩:=ans_last hP (Nat.le_trans L.rs (by decide)) hc0 hfd;rw [← hA] at hs1 hs2;have hlm:((A.map encStr).length:Int) - 1=(mm:Int):=by rw [Lm,hs1]; omega
  have hlen:(A.map encStr).length=mm+1:=by rw [Lm,hs1]
  have hs5:=hs3.1;have hs6:=hs3.2;have k36:=c262 s bImpossible (by unfold FewS; omega);rw [hs4] at k36;refine Yi (fun h37=>?_) (fun h37=>?_)
  ·have h37:(0:Int)<((A.map encStr).length:Int):=h37;have n37:0<A.length:=by have q:=h37; rw [Lm] at q; omega
   refine Yi (by show InI64 (((A.map encStr).length:Int) - (1:Int)); unfold InI64; omega) ?_;refine Xi (encStr s) (Yi ⟨by rw [hlm]; omega,by rw [hlm]; exact map_at hs2⟩ (Yi rfl ?_));refine Xi .pure (Xi _ (Yi k36 ?_));exact .refl _
  have h37:¬ ((0:Int)<((A.map encStr).length:Int)):=h37;have n37:¬ 0<A.length:=by have q:=h37; rw [Lm] at q; omega
  exfalso; have q:=h37; simp only [Lm] at q; omega
 have h1:(smallX x 16&&smallQs roots)=false:=h1;have hc40:=k23;rw [show (smallX x 16&&smallQs roots)=false from h1] at hc40;refine Xi .pure (Xi _ (Yi hc40 ?_));exact .refl _
end Go.Eng
