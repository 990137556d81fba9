/- Lemmas for the claims of this seat, without a condition: part 23 (E5, E6, E7, E8). -/
import Derived.Test.YtpgfieopnnkpfaaGreatDoorNA22
namespace Go.Eng
open Go.Proofs
theorem incText_some {l:List Tm} (h:(canonT l).isSome=true):incText l=incF (ofT l):=by
 unfold incText ofT;cases e:canonT l with
 | none=>rw [e] at h; cases h
 | some c=>rfl
theorem incText_none {l:List Tm} (h:(canonT l).isSome=false):incText l=bNothing:=by
 unfold incText;cases e:canonT l with
 | none=>rfl
 | some c=>rw [e] at h; cases h
theorem ofT_mem {l:List Tm} (h:(canonT l).isSome=true):canonT l=some (ofT l):=by
 unfold ofT;cases e:canonT l with
 | none=>rw [e] at h; cases h
 | some c=>rfl
def incW (c:List Tm):ByteArray :=
 if c.length=0 then bThis else if (needL c).length=0∧(haveL c).length=1 then wordsB [joinB bAnd (haveL c),⟨#[105,115,32,105,109,112,111,115,115,105,98,108,101]⟩] else if (needL c).length=0 then wordsB [joinB bAnd (haveL c),⟨#[100,111,32,110,111,116,32,103,111,32,116,111,103,101,116,104,101,114]⟩]
 else if (haveL c).length=0 then wordsB [joinB bOr (needL c),⟨#[105,115,32,110,101,101,100,101,100]⟩] else if (haveL c).length=1 then wordsB [joinB bAnd (haveL c),⟨#[110,101,101,100,115]⟩,joinB bOr (needL c)] else wordsB [joinB bAnd (haveL c),⟨#[110,101,101,100]⟩,joinB bOr (needL c)]
theorem hn_len (c:List Tm):(haveL c).length+(needL c).length=c.length:=by
 unfold haveL needL;rw [Lm,Lm]
 induction c with
 | nil=>rfl
 | cons t c ih=>cases h:t.absent <;> simp only [List.filter_cons,h,Bool.not_true,Bool.not_false,if_true,if_false,List.length_cons,Bool.false_eq_true] <;> omega
theorem w_two (a b:ByteArray):wordsB [a,b]=a++(bBlank++b):=by unfold wordsB; rw [joinB_two]
theorem w_three (a b c:ByteArray):wordsB [a,b,c]=a++(bBlank++b++bBlank)++c:=by unfold wordsB; rw [joinB_cons,joinB_two]; simp only [bapp_assoc]
theorem inc_W (c:List Tm):incW c=incF c:=by
 have hl:=hn_len c;unfold incW incF;have z1:(needL c=[])↔(needL c).length=0:=by rw [List.length_eq_zero_iff]
 have z2:(haveL c=[])↔(haveL c).length=0:=by rw [List.length_eq_zero_iff]
 have b1:bBlank++(⟨#[105,115,32,105,109,112,111,115,115,105,98,108,101]⟩ : ByteArray)=bImp:=bext (by decide +kernel);have b2:bBlank++(⟨#[100,111,32,110,111,116,32,103,111,32,116,111,103,101,116,104,101,114]⟩ : ByteArray)=bDo:=bext (by decide +kernel);have b3:bBlank++(⟨#[105,115,32,110,101,101,100,101,100]⟩ : ByteArray)=bNeeded:=bext (by decide +kernel);have b4:bBlank++(⟨#[110,101,101,100,115]⟩ : ByteArray)++bBlank=bNeeds:=bext (by decide +kernel);have b5:bBlank++(⟨#[110,101,101,100]⟩ : ByteArray)++bBlank=bNeed:=bext (by decide +kernel);simp only [z1,z2,w_two,w_three,b1,b2,b3,b4,b5]
 by_cases h1:(needL c).length=0 <;> by_cases h2:(haveL c).length=0 <;> by_cases h3:(haveL c).length=1 <;> by_cases h4:c.length=0 <;> first | omega | simp [h1,h2,h3,h4]
theorem have_succ (c:List Tm) (i:Nat) (h:i<c.length):haveL (c.take (i+1))=if c[i].absent then haveL (c.take i) else haveL (c.take i)++[termT c[i]]:=by
 unfold haveL;rw [List.take_succ_eq_append_getElem h,List.filter_append,List.map_append];cases e:c[i].absent <;> simp [e]
theorem need_succ (c:List Tm) (i:Nat) (h:i<c.length):needL (c.take (i+1))=if c[i].absent then needL (c.take i)++[termT c[i]] else needL (c.take i):=by
 unfold needL;rw [List.take_succ_eq_append_getElem h,List.filter_append,List.map_append];cases e:c[i].absent <;> simp [e]
theorem texts_size {sep:ByteArray} (hs:sep.size≤5) {c:List Tm} {l:List ByteArray} (hp:∀ t ∈ c,FewP t.path) (hl:∀ x ∈ l,∃ t ∈ c,x=termT t) (hn:l.length≤500000):(joinB sep l).size≤70000100000000:=by
 have:=joinB_size sep 140000000 l (fun x hx=>by
  obtain ⟨t,ht,rfl⟩:=hl x hx;exact termT_size (hp t ht))
 have h2:l.length*(140000000+sep.size)≤500000*(140000000+5):=Nat.mul_le_mul hn (by omega);omega
theorem have_mem (c:List Tm):∀ x ∈ haveL c,∃ t ∈ c,x=termT t:=fun x hx=>by
 obtain ⟨t,ht,rfl⟩:=List.mem_map.1 hx;exact ⟨t,(List.mem_filter.1 ht).1,rfl⟩
theorem need_mem (c:List Tm):∀ x ∈ needL c,∃ t ∈ c,x=termT t:=fun x hx=>by
 obtain ⟨t,ht,rfl⟩:=List.mem_map.1 hx;exact ⟨t,(List.mem_filter.1 ht).1,rfl⟩
theorem canonT_paths {l c:List Tm} (h:canonT l=some c):∀ t ∈ c,∃ u ∈ l,t.path=u.path:=fun t ht=>by
 have:=(canonT_in (U:=l.map (·.path)) h fun u hu=>List.mem_map.2 ⟨u,hu,rfl⟩).2 t ht
 obtain ⟨u,hu,e⟩:=List.mem_map.1 this;exact ⟨u,hu,e.symm⟩
set_option maxHeartbeats 4000000 in
theorem e15 (l:List Tm) (hl:l.length≤500000) (hs:∀ t ∈ l,Few t.set) (hp:∀ t ∈ l,FewP t.path):PC 15 [sl encTm l] (vs (incText l)):=by
 have hl:l.length≤500000:=hl;have h30:=c29 l (by unfold Few; omega) hs;unfold canRes at h30;obtain ⟨c,hc0⟩ : ∃ c,c=ofT l:=⟨_,rfl⟩;rw [← hc0] at h30;refine Ps ⟨[],[(5,1),(6,1)],[],[],[],[],[],[],[],[],[2,5,8,11,13,14,15,16,17,18,19,20,21,22,23]⟩ Tryz.func15 rfl (Nz rfl) ?_;refine Or.elim (Bt (canonT l).isSome) (fun h1=>?_) (fun h1=>?_)
 ·have h1:(canonT l).isSome=true:=h1;have hcs:(canonT l).isSome=true:=h1;have hcd:c=ofT l:=hc0;have hce:canonT l=some c:=by rw [hcd]; exact ofT_mem hcs
  have hcl:c.length≤500000:=Nat.le_trans (canT_len hce) hl;have hcp:∀ t ∈ c,FewP t.path:=fun t ht=>by
   obtain ⟨u,hu,e⟩:=canonT_paths hce t ht;rw [e]; exact hp u hu
  have hcf:∀ t ∈ c,Few t.set:=fun t ht=>few_can ((canonT_sorted hce).canon t ht);obtain ⟨PP,hPP⟩ : ∃ PP,PP=joinB bAnd (haveL c):=⟨_,rfl⟩;obtain ⟨NN,hNN⟩ : ∃ NN,NN=joinB bOr (needL c):=⟨_,rfl⟩;have hPs:(haveL c).length≤500000→PP.size≤70000100000000:=fun h=>by rw [hPP]; exact texts_size (by decide) hcp (have_mem c) h
  have hNs:(needL c).length≤500000→NN.size≤70000100000000:=fun h=>by rw [hNN]; exact texts_size (by decide) hcp (need_mem c) h
  have hc2:=h30;rw [show (canonT l).isSome=true from h1] at hc2;refine Xi .pure (Xi _ (Yi hc2 ?_));refine Xi ⟨[(3,sl encTm c),(4,vb true)],[],hfree⟩ (Yi ⟨Z2,Tv,Fh,Tv⟩ ?_)
  refine Xi ⟨[(3,sl encTm c),(5,.slice (.id 5 1) []),(6,.slice (.id 6 1) [])],[(5,.tok 1 0),(6,.tok 1 0)],hfree⟩ (Yi ⟨Z3,Z2,Fh,Tv⟩ ?_)
  refine Xi {i:Nat // i≤c.length} (Xi (fun q=>⟨[(3,sl encTm c),(5,.slice (.id 5 1) ((haveL (c.take q.1)).map encStr)),(6,.slice (.id 6 1) ((needL (c.take q.1)).map encStr)),(18,sl encTm c),(19,vi (c.map encTm).length),(20,vi q.1)],[(5,.tok 1 (haveL (c.take q.1)).length),(6,.tok 1 (needL (c.take q.1)).length)],hfree⟩) (Xi (fun q=>c.length - q.1) (Yi (Xi ⟨0,Nat.zero_le _⟩ ?_) ?_)))
  ·exact ⟨Z6,Z2,Fh,Tv⟩
  intro ⟨i,i1⟩;have i1:i≤c.length:=i1;have hl1:=hn_len (c.take i);rw [List.length_take,Nat.min_eq_left i1] at hl1;have hv1:(haveL (c.take i)).length≤500000:=by omega
  have hv2:(needL (c.take i)).length≤500000:=by omega
  refine Yi (fun h3=>?_) (fun h3=>?_)
  ·have h3:(i:Int)<((c.map encTm).length:Int):=h3;have n3:i<c.length:=by have q:=h3; rw [Lm] at q; omega
   have g3:c[i]?=some c[i]:=Ge n3;refine Xi (encTm c[i]) (Yi (Yi (Nn i) (map_at g3)) (Yi rfl ?_));refine Yi (Nz rfl) ?_;refine Yi (Nz rfl) ?_;refine Xi ⟨[(3,sl encTm c),(5,.slice (.id 5 1) ((haveL (c.take i)).map encStr)),(6,.slice (.id 6 1) ((needL (c.take i)).map encStr)),(8,.ref 8 0),(18,sl encTm c),(19,vi (c.map encTm).length),(20,vi i)],[(5,.tok 1 (haveL (c.take i)).length),(6,.tok 1 (needL (c.take i)).length),(8,.cells (encTm c[i]))],hfree⟩ (Yi ⟨Z7,Z3,Fh,Tv⟩ ?_)
   refine Yi (fun h4=>?_) (fun h4=>?_)
   ·have h4:c[i].absent=true:=h4;refine Yi (Nz rfl) ?_;refine Xi .pure (Xi _ (Yi (e13 c[i] (hcp _ (List.getElem_mem n3)) (hcf _ (List.getElem_mem n3))) ?_));have b5:AllLen 1 [[vs (termT c[i])]]∧((needL (c.take i)).map encStr).length=(needL (c.take i)).length∧(((needL (c.take i)).map encStr).length+([[vs (termT c[i])]]:List (List AV)).length)*16≤140737488355328∧((needL (c.take i)).map encStr).length+([[vs (termT c[i])]]:List (List AV)).length≤9223372036854775807:=⟨⟨rfl,trivial⟩,(by rw [Lm]),(by simp only [Lm,List.length_cons,List.length_nil]; omega),(by simp only [Lm,List.length_cons,List.length_nil]; omega)⟩;refine Yi b5 ?_;refine Xi ⟨[(3,sl encTm c),(5,.slice (.id 5 1) ((haveL (c.take i)).map encStr)),(6,.slice (.id 6 1) (((needL (c.take i)).map encStr)++[[vs (termT c[i])]])),(18,sl encTm c),(19,vi (c.map encTm).length),(20,vi i)],[(5,.tok 1 (haveL (c.take i)).length),(6,.tok 1 (((needL (c.take i)).map encStr).length+([[vs (termT c[i])]]:List (List AV)).length))],hfree⟩ (Yi ⟨Z6,Z2,Fh,Tv⟩ ?_)
    refine Yi (Ii i (by omega)) ?_;have hs1:=have_succ c i n3;have hs2:=need_succ c i n3;rw [show c[i].absent=true from h4] at hs1 hs2;simp only [if_true] at hs1 hs2;refine Xi ⟨i+1,by omega⟩ ?_;exact ⟨Dl c.length i (by omega),⟨Zr,⟨(show AV.slice (.id 5 1) ((haveL (c.take i)).map encStr)=.slice (.id 5 1) ((haveL (c.take (i+1))).map encStr) by rw [hs1]),rfl⟩,⟨(show AV.slice (.id 6 1) ((needL (c.take i)).map encStr++[[vs (termT c[i])]])=.slice (.id 6 1) ((needL (c.take (i+1))).map encStr) by rw [hs2,List.map_append]; rfl),rfl⟩,Zr,Zr,Zr,Tv⟩,⟨⟨(show HO.tok 1 (haveL (c.take i)).length=.tok 1 (haveL (c.take (i+1))).length by rw [hs1]),rfl⟩,⟨(show HO.tok 1 (((needL (c.take i)).map encStr).length+([[vs (termT c[i])]]:List (List AV)).length)=.tok 1 (needL (c.take (i+1))).length by rw [hs2,List.length_append,Lm]; rfl),rfl⟩,Tv⟩,Fh,Tv⟩
   have h4:c[i].absent=false:=h4;refine Yi (Nz rfl) ?_;refine Xi .pure (Xi _ (Yi (e13 c[i] (hcp _ (List.getElem_mem n3)) (hcf _ (List.getElem_mem n3))) ?_));have b7:AllLen 1 [[vs (termT c[i])]]∧((haveL (c.take i)).map encStr).length=(haveL (c.take i)).length∧(((haveL (c.take i)).map encStr).length+([[vs (termT c[i])]]:List (List AV)).length)*16≤140737488355328∧((haveL (c.take i)).map encStr).length+([[vs (termT c[i])]]:List (List AV)).length≤9223372036854775807:=⟨⟨rfl,trivial⟩,(by rw [Lm]),(by simp only [Lm,List.length_cons,List.length_nil]; omega),(by simp only [Lm,List.length_cons,List.length_nil]; omega)⟩;refine Yi b7 ?_;refine Xi ⟨[(3,sl encTm c),(5,.slice (.id 5 1) (((haveL (c.take i)).map encStr)++[[vs (termT c[i])]])),(6,.slice (.id 6 1) ((needL (c.take i)).map encStr)),(18,sl encTm c),(19,vi (c.map encTm).length),(20,vi i)],[(5,.tok 1 (((haveL (c.take i)).map encStr).length+([[vs (termT c[i])]]:List (List AV)).length)),(6,.tok 1 (needL (c.take i)).length)],hfree⟩ (Yi ⟨Z6,Z2,Fh,Tv⟩ ?_)
   refine Yi (Ii i (by omega)) ?_;have hs1:=have_succ c i n3;have hs2:=need_succ c i n3;rw [show c[i].absent=false from h4] at hs1 hs2;simp only [Bool.false_eq_true,if_false] at hs1 hs2;refine Xi ⟨i+1,by omega⟩ ?_;exact ⟨Dl c.length i (by omega),⟨Zr,⟨(show AV.slice (.id 5 1) ((haveL (c.take i)).map encStr++[[vs (termT c[i])]])=.slice (.id 5 1) ((haveL (c.take (i+1))).map encStr) by rw [hs1,List.map_append]; rfl),rfl⟩,⟨(show AV.slice (.id 6 1) ((needL (c.take i)).map encStr)=.slice (.id 6 1) ((needL (c.take (i+1))).map encStr) by rw [hs2]),rfl⟩,Zr,Zr,Zr,Tv⟩,⟨⟨(show HO.tok 1 (((haveL (c.take i)).map encStr).length+([[vs (termT c[i])]]:List (List AV)).length)=.tok 1 (haveL (c.take (i+1))).length by rw [hs1,List.length_append,Lm]; rfl),rfl⟩,⟨(show HO.tok 1 (needL (c.take i)).length=.tok 1 (needL (c.take (i+1))).length by rw [hs2]),rfl⟩,Tv⟩,Fh,Tv⟩
  have h3:¬ ((i:Int)<((c.map encTm).length:Int)):=h3;have n3:¬ i<c.length:=by have q:=h3; rw [Lm] at q; omega
  have ej:c.take i=c:=List.take_of_length_le (by omega);rw [ej] at hv1 hv2;refine Xi .pure (Xi _ (Yi (show PC 49 [sl encStr (haveL (c.take i)),vs bAnd] (vs PP) by rw [ej,hPP]; exact e49 (haveL c) bAnd (by omega) (Nat.le_trans (texts_size (by decide) hcp (have_mem c) hv1) (by decide))) ?_));refine Xi .pure (Xi _ (Yi (show PC 49 [sl encStr (needL (c.take i)),vs bOr] (vs NN) by rw [ej,hNN]; exact e49 (needL c) bOr (by omega) (Nat.le_trans (texts_size (by decide) hcp (need_mem c) hv2) (by decide))) ?_));refine Xi ⟨[(3,sl encTm c),(5,.slice (.id 5 1) ((haveL (c.take i)).map encStr)),(6,.slice (.id 6 1) ((needL (c.take i)).map encStr)),(9,vs PP),(10,vs NN)],[(5,.tok 1 (haveL (c.take i)).length),(6,.tok 1 (needL (c.take i)).length)],hfree⟩ (Yi ⟨Z5,Z2,Fh,Tv⟩ ?_)
  refine Yi (fun h9=>?_) (fun h9=>?_)
  ·have h9:((c.map encTm).length:Int)=(0:Int):=h9;refine Xi ⟨[],[],hfree⟩ (Yi ⟨Tv,Tv,Fh,Tv⟩ ?_)
   exact .of_eq (show vs ⟨#[116,104,105,115,32,105,115,32,105,109,112,111,115,115,105,98,108,101]⟩=vs (incText l) by rw [incText_some hcs,← hcd,← inc_W]; unfold incW; rw [if_pos (by have q:=h9; rw [Lm] at q; omega)])
  have h9:¬ (((c.map encTm).length:Int)=(0:Int)):=h9;refine Xi ⟨[(5,.slice (.id 5 1) ((haveL (c.take i)).map encStr)),(6,.slice (.id 6 1) ((needL (c.take i)).map encStr)),(9,vs PP),(10,vs NN)],[(5,.tok 1 (haveL (c.take i)).length),(6,.tok 1 (needL (c.take i)).length)],hfree⟩ (Yi ⟨Z4,Z2,Fh,Tv⟩ ?_)
  refine Yi (fun h11=>?_) (fun h11=>?_)
  ·have h11:(((needL (c.take i)).map encStr).length:Int)=(0:Int):=h11;refine Yi (fun h12=>?_) (fun h12=>?_)
   ·have h12:(((haveL (c.take i)).map encStr).length:Int)=(1:Int):=h12;refine Xi ⟨[(9,vs PP)],[],hfree⟩ (Yi ⟨Z1,Tv,Fh,Tv⟩ ?_)
    refine Xi .pure (Xi _ (Yi (e44 [PP,⟨#[105,115,32,105,109,112,111,115,115,105,98,108,101]⟩] (by simp) (words_bound (B:=70000100000000) (by intro x hx; simp only [List.mem_cons,List.mem_nil_iff,or_false] at hx; rcases hx with rfl | rfl <;> first | exact (hPs hv1) | exact (hNs hv2) | decide) (by simp))) ?_))
    exact .of_eq (show vs (wordsB [PP,⟨#[105,115,32,105,109,112,111,115,115,105,98,108,101]⟩])=vs (incText l) by rw [incText_some hcs,← hcd,← inc_W]; unfold incW; rw [← hPP,← hNN]; rw [if_neg (by have q:=h9; rw [Lm] at q; omega)]; rw [if_pos ⟨by have q:=h11; rw [Lm,ej] at q; omega,by have q:=h12; rw [Lm,ej] at q; omega⟩])
   have h12:¬ ((((haveL (c.take i)).map encStr).length:Int)=(1:Int)):=h12;refine Xi ⟨[(5,.slice (.id 5 1) ((haveL (c.take i)).map encStr)),(6,.slice (.id 6 1) ((needL (c.take i)).map encStr)),(9,vs PP),(10,vs NN)],[(5,.tok 1 (haveL (c.take i)).length),(6,.tok 1 (needL (c.take i)).length)],hfree⟩ (Yi ⟨Z4,Z2,Fh,Tv⟩ ?_)
   refine Yi (fun _=>?_) (fun hf=>absurd h11 hf);refine Xi ⟨[(9,vs PP)],[],hfree⟩ (Yi ⟨Z1,Tv,Fh,Tv⟩ ?_)
   refine Xi .pure (Xi _ (Yi (e44 [PP,⟨#[100,111,32,110,111,116,32,103,111,32,116,111,103,101,116,104,101,114]⟩] (by simp) (words_bound (B:=70000100000000) (by intro x hx; simp only [List.mem_cons,List.mem_nil_iff,or_false] at hx; rcases hx with rfl | rfl <;> first | exact (hPs hv1) | exact (hNs hv2) | decide) (by simp))) ?_))
   exact .of_eq (show vs (wordsB [PP,⟨#[100,111,32,110,111,116,32,103,111,32,116,111,103,101,116,104,101,114]⟩])=vs (incText l) by rw [incText_some hcs,← hcd,← inc_W]; unfold incW; rw [← hPP,← hNN]; rw [if_neg (by have q:=h9; rw [Lm] at q; omega)]; rw [if_neg (fun h=>by have q:=h12; rw [Lm,ej] at q; omega),if_pos (by have q:=h11; rw [Lm,ej] at q; omega)])
  have h11:¬ ((((needL (c.take i)).map encStr).length:Int)=(0:Int)):=h11;refine Xi ⟨[(5,.slice (.id 5 1) ((haveL (c.take i)).map encStr)),(6,.slice (.id 6 1) ((needL (c.take i)).map encStr)),(9,vs PP),(10,vs NN)],[(5,.tok 1 (haveL (c.take i)).length),(6,.tok 1 (needL (c.take i)).length)],hfree⟩ (Yi ⟨Z4,Z2,Fh,Tv⟩ ?_)
  refine Yi (fun hf=>absurd hf h11) (fun _=>?_);refine Xi ⟨[(5,.slice (.id 5 1) ((haveL (c.take i)).map encStr)),(9,vs PP),(10,vs NN)],[(5,.tok 1 (haveL (c.take i)).length)],hfree⟩ (Yi ⟨Z3,Z1,Fh,Tv⟩ ?_)
  refine Yi (fun h15=>?_) (fun h15=>?_)
  ·have h15:(((haveL (c.take i)).map encStr).length:Int)=(0:Int):=h15;refine Xi ⟨[(10,vs NN)],[],hfree⟩ (Yi ⟨Z1,Tv,Fh,Tv⟩ ?_)
   refine Xi .pure (Xi _ (Yi (e44 [NN,⟨#[105,115,32,110,101,101,100,101,100]⟩] (by simp) (words_bound (B:=70000100000000) (by intro x hx; simp only [List.mem_cons,List.mem_nil_iff,or_false] at hx; rcases hx with rfl | rfl <;> first | exact (hPs hv1) | exact (hNs hv2) | decide) (by simp))) ?_))
   exact .of_eq (show vs (wordsB [NN,⟨#[105,115,32,110,101,101,100,101,100]⟩])=vs (incText l) by rw [incText_some hcs,← hcd,← inc_W]; unfold incW; rw [← hPP,← hNN]; rw [if_neg (by have q:=h9; rw [Lm] at q; omega)]; rw [if_neg (fun h=>by have q:=h11; rw [Lm,ej] at q; omega),if_neg (by have q:=h11; rw [Lm,ej] at q; omega)]; rw [if_pos (by have q:=h15; rw [Lm,ej] at q; omega)])
  have h15:¬ ((((haveL (c.take i)).map encStr).length:Int)=(0:Int)):=h15;refine Xi ⟨[(5,.slice (.id 5 1) ((haveL (c.take i)).map encStr)),(9,vs PP),(10,vs NN)],[(5,.tok 1 (haveL (c.take i)).length)],hfree⟩ (Yi ⟨Z3,Z1,Fh,Tv⟩ ?_)
  refine Yi (fun h17=>?_) (fun h17=>?_)
  ·have h17:(((haveL (c.take i)).map encStr).length:Int)=(1:Int):=h17;refine Xi ⟨[(9,vs PP),(10,vs NN)],[],hfree⟩ (Yi ⟨Z2,Tv,Fh,Tv⟩ ?_)
   refine Xi .pure (Xi _ (Yi (e44 [PP,⟨#[110,101,101,100,115]⟩,NN] (by simp) (words_bound (B:=70000100000000) (by intro x hx; simp only [List.mem_cons,List.mem_nil_iff,or_false] at hx; rcases hx with rfl | rfl | rfl <;> first | exact (hPs hv1) | exact (hNs hv2) | decide) (by simp))) ?_))
   exact .of_eq (show vs (wordsB [PP,⟨#[110,101,101,100,115]⟩,NN])=vs (incText l) by rw [incText_some hcs,← hcd,← inc_W]; unfold incW; rw [← hPP,← hNN]; rw [if_neg (by have q:=h9; rw [Lm] at q; omega)]; rw [if_neg (fun h=>by have q:=h11; rw [Lm,ej] at q; omega),if_neg (by have q:=h11; rw [Lm,ej] at q; omega)]; rw [if_neg (by have q:=h15; rw [Lm,ej] at q; omega)]; rw [if_pos (by have q:=h17; rw [Lm,ej] at q; omega)])
  have h17:¬ ((((haveL (c.take i)).map encStr).length:Int)=(1:Int)):=h17;refine Xi ⟨[(9,vs PP),(10,vs NN)],[],hfree⟩ (Yi ⟨Z2,Tv,Fh,Tv⟩ ?_)
  refine Xi .pure (Xi _ (Yi (e44 [PP,⟨#[110,101,101,100]⟩,NN] (by simp) (words_bound (B:=70000100000000) (by intro x hx; simp only [List.mem_cons,List.mem_nil_iff,or_false] at hx; rcases hx with rfl | rfl | rfl <;> first | exact (hPs hv1) | exact (hNs hv2) | decide) (by simp))) ?_))
  exact .of_eq (show vs (wordsB [PP,⟨#[110,101,101,100]⟩,NN])=vs (incText l) by rw [incText_some hcs,← hcd,← inc_W]; unfold incW; rw [← hPP,← hNN]; rw [if_neg (by have q:=h9; rw [Lm] at q; omega)]; rw [if_neg (fun h=>by have q:=h11; rw [Lm,ej] at q; omega),if_neg (by have q:=h11; rw [Lm,ej] at q; omega)]; rw [if_neg (by have q:=h15; rw [Lm,ej] at q; omega)]; rw [if_neg (by have q:=h17; rw [Lm,ej] at q; omega)])
 have h1:(canonT l).isSome=false:=h1;have hc20:=h30;rw [show (canonT l).isSome=false from h1] at hc20;refine Xi .pure (Xi _ (Yi hc20 ?_));refine Xi ⟨[(3,sl encTm c),(4,vb false)],[],hfree⟩ (Yi ⟨Z2,Tv,Fh,Tv⟩ ?_)
 exact .of_eq (show vs bNothing=vs (incText l) by rw [incText_none h1])
end Go.Eng

namespace Go.Eng
open Go.Proofs
abbrev encB (b:Bool):List AV:=[vb b]
abbrev encNat (n:Nat):List AV:=[vi n]
abbrev u0 (l:List Nf) (target:Int):List Bool:=(List.replicate l.length false).set target.toNat true
theorem mark_skip {l:List Nf} {u:List Bool} {i:Int} (h0:0≤i) (hl:i.toNat<l.length) (hu:i.toNat<u.length) (h:u[i.toNat]=false∨¬ l[i.toNat].kind=3):markGo l (i+1).toNat u=markGo l (i - 1+1).toNat u:=by
 have e1:(i+1).toNat=i.toNat+1:=by omega
 have e2:(i - 1+1).toNat=i.toNat:=by omega
 rw [e1,e2];show (if u.getD i.toNat false&&decide ((l.getD i.toNat nf0).kind=3) then _ else _)=_;rw [List.getD_eq_getElem?_getD,List.getD_eq_getElem?_getD,Ge hl,Ge hu];simp only [Option.getD_some];rcases h with h | h
 ·rw [h]; rfl
 ·rw [decide_eq_false h,Bool.and_false]; rfl
theorem mark_go {l:List Nf} {u:List Bool} {i:Int} (h0:0≤i) (hl:i.toNat<l.length) (hu:i.toNat<u.length) (h1:u[i.toNat]=true) (h2:l[i.toNat].kind=3) :
  markGo l (i+1).toNat u=if badRef i.toNat l[i.toNat] then none else markGo l (i - 1+1).toNat ((u.set l[i.toNat].left.toNat true).set l[i.toNat].right.toNat true):=by
 have e1:(i+1).toNat=i.toNat+1:=by omega
 have e2:(i - 1+1).toNat=i.toNat:=by omega
 rw [e1,e2];show (if u.getD i.toNat false&&decide ((l.getD i.toNat nf0).kind=3) then (if badRef i.toNat (l.getD i.toNat nf0) then none else markGo l i.toNat ((u.set (l.getD i.toNat nf0).left.toNat true).set (l.getD i.toNat nf0).right.toNat true)) else _)=_;rw [List.getD_eq_getElem?_getD,List.getD_eq_getElem?_getD,Ge hl,Ge hu];simp only [Option.getD_some];rw [h1,decide_eq_true h2]; rfl
def kk (y:Nf) (j:Nat):Int:=if j=0 then y.left else y.right
theorem kk_at (y:Nf) (j:Nat) (h:j<2):([[vi y.left],[vi y.right]]:List (List AV))[((j:Nat):Int).toNat]?=some [vi (kk y j)]:=by
 match j,h with
 | 0,_=>rfl
 | 1,_=>rfl
 | _+2,h=>omega
def RefSt (y:Nf) (i:Int) (u:List Bool) (j:Nat) (u2:List Bool):Prop :=
 u2.length=u.length∧((j=0∧u2=u)∨(j=1∧(0≤y.left∧y.left<i)∧u2=u.set y.left.toNat true)∨(j=2∧(0≤y.left∧y.left<i)∧(0≤y.right∧y.right<i)∧u2=(u.set y.left.toNat true).set y.right.toNat true))
theorem RefSt.next {y:Nf} {i:Int} {u u2:List Bool} {j:Nat} (h:RefSt y i u j u2) (hj:j<2) (h0:¬ kk y j<0) (h1:¬ i≤kk y j):RefSt y i u (j+1) (u2.set (kk y j).toNat true):=by
 obtain ⟨hl,h | h | h⟩:=h
 ·obtain ⟨rfl,rfl⟩:=h;have e:kk y 0=y.left:=rfl;rw [e] at h0 h1 ⊢;exact ⟨by simp,.inr (.inl ⟨rfl,by omega,rfl⟩)⟩
 ·obtain ⟨rfl,h2,rfl⟩:=h;have e:kk y 1=y.right:=rfl;rw [e] at h0 h1 ⊢;exact ⟨by simp,.inr (.inr ⟨rfl,h2,by omega,rfl⟩)⟩
 ·omega
theorem RefSt.bad {y:Nf} {i:Int} {u u2:List Bool} {j:Nat} (hi:0≤i) (h:RefSt y i u j u2) (hj:j<2) (hb:kk y j<0∨i≤kk y j):badRef i.toNat y=true:=by
 unfold badRef;have ei:((i.toNat:Nat):Int)=i:=Int.toNat_of_nonneg hi;rw [ei];obtain ⟨hl,h | h | h⟩:=h
 ·obtain ⟨rfl,rfl⟩:=h;have e:kk y 0=y.left:=rfl;rw [e] at hb;rcases hb with hb | hb <;> simp [hb]
 ·obtain ⟨rfl,h2,rfl⟩:=h;have e:kk y 1=y.right:=rfl;rw [e] at hb;rcases hb with hb | hb <;> simp [hb]
 ·omega
theorem RefSt.done {y:Nf} {i:Int} {u u2:List Bool} {j:Nat} (hi:0≤i) (h:RefSt y i u j u2) (hj:¬ j<2):badRef i.toNat y=false∧u2=(u.set y.left.toNat true).set y.right.toNat true:=by
 obtain ⟨hl,h | h | h⟩:=h
 ·omega
 ·omega
 ·obtain ⟨_,h2,h3,h4⟩:=h;refine ⟨?_,h4⟩;unfold badRef;have ei:((i.toNat:Nat):Int)=i:=Int.toNat_of_nonneg hi;rw [ei];simp only [Bool.or_eq_false_iff,decide_eq_false_iff_not];omega
theorem mark_bad {l:List Nf} {u:List Bool} {i:Int} (h0:0≤i) (hl:i.toNat<l.length) (hu:i.toNat<u.length) (h1:u[i.toNat]=true) (h2:l[i.toNat].kind=3) (hb:badRef i.toNat l[i.toNat]=true):markGo l (i+1).toNat u=none:=by
 rw [mark_go h0 hl hu h1 h2,if_pos hb]
theorem mark_two {l:List Nf} {u:List Bool} {i:Int} (h0:0≤i) (hl:i.toNat<l.length) (hu:i.toNat<u.length) (h1:u[i.toNat]=true) (h2:l[i.toNat].kind=3) (hb:badRef i.toNat l[i.toNat]=false) :
  markGo l (i+1).toNat u=markGo l (i - 1+1).toNat ((u.set l[i.toNat].left.toNat true).set l[i.toNat].right.toNat true):=by
 rw [mark_go h0 hl hu h1 h2,if_neg (by rw [hb]; decide)]
theorem used_out {l:List Nf} {target:Int} (h:target<0∨(l.length:Int)≤target):usedL l target=[]:=by unfold usedL; rw [if_pos h]
theorem used_none {l:List Nf} {target:Int} (h:marksL l target.toNat=none):usedL l target=[]:=by
 unfold usedL; rw [h]; simp
theorem used_some {l:List Nf} {target:Int} {u:List Bool} (h0:¬ (target<0∨(l.length:Int)≤target)) (h:marksL l target.toNat=some u):usedL l target=usedU u:=by
 unfold usedL; rw [if_neg h0,h]
abbrev usK (u:List Bool) (k:Nat):List Nat:=(List.range k).filter fun i=>u.getD i false
theorem usK_succ (u:List Bool) (k:Nat) (h:k<u.length):usK u (k+1)=if u[k] then usK u k++[k] else usK u k:=by
 unfold usK;rw [List.range_succ,List.filter_append];have hk:u.getD k false=u[k]:=by rw [List.getD_eq_getElem?_getD,Ge h]; rfl
 cases e:u[k] with
 | false=>rw [List.filter_cons_of_neg (by rw [hk,e]; decide),List.filter_nil,List.append_nil]; rfl
 | true=>rw [List.filter_cons_of_pos (by rw [hk,e]),List.filter_nil]; rfl
theorem usK_len (u:List Bool) (k:Nat):(usK u k).length≤k:=by
 have:=List.length_filter_le (fun i=>u.getD i false) (List.range k)
 rw [List.length_range] at this; exact this
theorem rep_at (n k:Nat) (h:k<n):(List.replicate n [vb false])[k]?=some [vb false]:=by simp [h]
theorem set_rep (l:List Nf) (target:Int):(List.replicate (((l.map encNf).length:Nat):Int).toNat [vb false]).set (target:Int).toNat [vb true]=(u0 l target).map encB:=by
 rw [Int.toNat_natCast,Lm]; unfold u0;rw [List.map_set,List.map_replicate]
theorem start_ok {l:List Nf} {target:Int} (h:0≤target):markGo l (target+1).toNat (u0 l target)=marksL l target.toNat:=by
 have:(target+1).toNat=target.toNat+1:=by omega
 rw [this]; rfl
theorem map_setB (u:List Bool) (k:Nat):(u.map encB).set k [vb true]=(u.set k true).map encB:=by rw [List.map_set]
theorem mark_zero {l:List Nf} {u:List Bool} {i:Int} (h1 : -1≤i) (h:¬ 0≤i):markGo l (i+1).toNat u=some u:=by
 have:(i+1).toNat=0:=by omega
 rw [this]; rfl
set_option maxHeartbeats 4000000 in
theorem e18 (l:List Nf) (target:Int) (hl:Few l) (ht:InI64 target):PC 18 [sl encNf l,vi (target:Int)] (sl encNat (usedL l target)):=by
 have hml:(l.map encNf).length=l.length:=Lm _;have hl:l.length≤1073741824:=hl;have ht : -9223372036854775808≤target∧target<9223372036854775808:=ht;refine Ps ⟨[],[(9,1)],[(22,1)],[],[],[],[],[],[],[],[2,3,4,5,9,12,13,14,15,20,22]⟩ Tryz.func18 rfl (Nz rfl) ?_;refine Yi (fun h1=>?_) (fun h1=>?_)
 ·have h1:((target:Int):Int)<(0:Int):=h1;refine Xi ⟨[],[],hfree⟩ (Yi ⟨Tv,Tv,Fh,Tv⟩ ?_)
  exact (show Sub (.v (.slice none 0 0)) (.slice .none []) from .nil).trans (.of_eq (show AV.slice .none []=sl encNat (usedL l target) by rw [used_out (.inl h1)]; rfl))
 have h1:¬ (((target:Int):Int)<(0:Int)):=h1;refine Yi (fun h3=>?_) (fun h3=>?_)
 ·have h3:((l.map encNf).length:Int)≤((target:Int):Int):=h3;refine Xi ⟨[],[],hfree⟩ (Yi ⟨Tv,Tv,Fh,Tv⟩ ?_)
  exact (show Sub (.v (.slice none 0 0)) (.slice .none []) from .nil).trans (.of_eq (show AV.slice .none []=sl encNat (usedL l target) by rw [used_out (.inr (by have q:=h3; rw [hml] at q; exact q))]; rfl))
 have h3:¬ (((l.map encNf).length:Int)≤((target:Int):Int)):=h3;refine Xi ⟨[(0,sl encNf l),(1,vi (target:Int))],[],hfree⟩ (Yi ⟨Z2,Tv,Fh,Tv⟩ ?_)
 refine Yi (show (0:Int)≤((l.map encNf).length:Nat)∧(((l.map encNf).length:Nat):Int)≤((l.map encNf).length:Nat)∧(((l.map encNf).length:Nat):Int)*1≤140737488355328∧(((l.map encNf).length:Nat):Int)≤9223372036854775807 by rw [Lm]; omega) ?_;refine Xi ⟨[(0,sl encNf l),(1,vi (target:Int)),(5,.msl 22 ((List.replicate ((l.map encNf).length:Int).toNat [vb false]):List (List AV)).length)],[(22,.arr 1 (List.replicate ((l.map encNf).length:Int).toNat [vb false]))],hfree⟩ (Yi ⟨Z3,Z1,Fh,Tv⟩ ?_)
 refine Yi (show (0:Int)≤target∧target<(((List.replicate (((l.map encNf).length:Nat):Int).toNat [vb false]):List (List AV)).length:Nat) by rw [List.length_replicate,Int.toNat_natCast,Lm]; omega) ?_;refine Yi rfl (Xi [vb false] (Yi (show (List.replicate (((l.map encNf).length:Nat):Int).toNat [vb false])[(target:Int).toNat]?=some [vb false] from rep_at _ _ (by rw [Int.toNat_natCast,Lm]; omega)) (Yi (Nz rfl) ?_)));refine Xi ⟨[(0,sl encNf l),(1,vi (target:Int)),(5,.msl 22 ((List.replicate ((l.map encNf).length:Int).toNat [vb false]):List (List AV)).length)],[(22,.arr 1 ((List.replicate ((l.map encNf).length:Int).toNat [vb false]).set (target:Int).toNat [vb true]))],hfree⟩ (Yi ⟨Z3,Z1,Fh,Tv⟩ ?_)
 refine Xi {q:Int × List Bool // (-1≤q.1∧q.1≤target)∧q.2.length=l.length∧markGo l (q.1+1).toNat q.2=marksL l target.toNat} (Xi (fun q=>⟨[(0,sl encNf l),(5,.msl 22 q.1.2.length),(6,vi (q.1.1:Int))],[(22,.arr 1 (q.1.2.map encB))],hfree⟩) (Xi (fun q=>(q.1.1+1).toNat) (Yi (Xi ⟨(target,u0 l target),⟨by omega,Int.le_refl _⟩,by simp,start_ok (by omega)⟩ ?_) ?_)))
 ·exact ⟨⟨Zr,⟨(show AV.msl 22 ((List.replicate ((l.map encNf).length:Int).toNat [vb false]):List (List AV)).length=.msl 22 (u0 l target).length by simp),rfl⟩,Zr,Tv⟩,⟨⟨(show HO.arr 1 ((List.replicate ((l.map encNf).length:Int).toNat [vb false]).set (target:Int).toNat [vb true])=.arr 1 ((u0 l target).map encB) by rw [← set_rep]),rfl⟩,Tv⟩,Fh,Tv⟩
 intro ⟨⟨i,u⟩,i1,i2,i3⟩;have i1 : -1≤i∧i≤target:=i1;have i2:u.length=l.length:=i2;have i3:markGo l (i+1).toNat u=marksL l target.toNat:=i3;refine Yi (fun h5=>?_) (fun h5=>?_)
 ·have h5:(0:Int)≤((i:Int):Int):=h5;have hi0:0≤i:=h5;have hil:i.toNat<l.length:=by omega
  have hiu:i.toNat<u.length:=by omega
  have gl:l[i.toNat]?=some l[i.toNat]:=Ge hil;have gu:u[i.toNat]?=some u[i.toNat]:=Ge hiu;refine Yi (by show (0:Int)≤(i:Int)∧((i:Int):Int)<(u.length:Nat); omega) ?_;refine Yi (show u.length=(u.map encB).length by simp) (Xi (encB u[i.toNat]) (Yi (map_at gu) ?_));refine Yi (fun h6=>?_) (fun h6=>?_)
  ·have h6:u[i.toNat]=true:=h6;refine Xi (encNf l[i.toNat]) (Yi (Yi hi0 (map_at gl)) (Yi rfl ?_));refine Yi (fun h7=>?_) (fun h7=>?_)
   ·have h7:(l[i.toNat].kind:Int)≠(3:Int):=h7;refine Yi (by show InI64 (((i:Int):Int) - (1:Int)); unfold InI64; omega) ?_;refine Xi ⟨(i - 1,u),⟨by omega,by omega⟩,i2,by rw [← i3,mark_skip hi0 hil hiu (.inr (fun hq=>h7 hq))]⟩ ?_;exact ⟨by show (i - 1+1).toNat<(i+1).toNat; omega,Z3,Z1,Fh,Tv⟩
   have h7:(l[i.toNat].kind:Int)=(3:Int):=Classical.byContradiction h7;refine Xi ⟨[(0,sl encNf l),(5,.msl 22 u.length),(6,vi (i:Int))],[(22,.arr 1 (u.map encB))],hfree⟩ (Yi ⟨Z3,Z1,Fh,Tv⟩ ?_)
   refine Xi (encNf l[i.toNat]) (Yi (Yi hi0 (map_at gl)) (Yi rfl ?_));refine Xi (encNf l[i.toNat]) (Yi (Yi hi0 (map_at gl)) (Yi rfl ?_));refine Yi (by kernel_rfl) ?_;refine Xi {q:Nat × List Bool // RefSt l[i.toNat] i u q.1 q.2} (Xi (fun q=>⟨[(0,sl encNf l),(5,.msl 22 q.1.2.length),(6,vi (i:Int)),(54,.slice (.id 54 1) [[vi l[i.toNat].left],[vi l[i.toNat].right]]),(55,vi 2),(56,vi q.1.1)],[(22,.arr 1 (q.1.2.map encB)),(54,.tok 1 2)],hfree⟩) (Xi (fun q=>2 - q.1.1) (Yi (Xi ⟨(0,u),⟨rfl,.inl ⟨rfl,rfl⟩⟩⟩ ?_) ?_)))
   ·exact ⟨Z6,Z2,Fh,Tv⟩
   intro ⟨⟨j,u2⟩,hj0⟩;have hj:RefSt l[i.toNat] i u j u2:=hj0;have hjl:u2.length=u.length:=hj.1;refine Yi (fun h9=>?_) (fun h9=>?_)
   ·have h9:(j:Int)<(2:Int):=h9;have hj2:j<2:=by omega
    refine Xi [vi (kk l[i.toNat] j)] (Yi (Yi (Nn j) (kk_at l[i.toNat] j hj2)) (Yi rfl ?_));refine Xi ⟨[(0,sl encNf l),(5,.msl 22 u2.length),(6,vi (i:Int)),(8,vi (kk l[i.toNat] j)),(54,.slice (.id 54 1) [[vi l[i.toNat].left],[vi l[i.toNat].right]]),(55,vi 2),(56,vi j)],[(22,.arr 1 (u2.map encB)),(54,.tok 1 2)],hfree⟩ (Yi ⟨Z7,Z2,Fh,Tv⟩ ?_)
    refine Yi (fun h10=>?_) (fun h10=>?_)
    ·have h10:((kk l[i.toNat] j):Int)<(0:Int):=h10;refine Xi ⟨[],[],hfree⟩ (Yi ⟨Tv,Tv,Fh,Tv⟩ ?_)
     have hbd:=RefSt.bad hi0 hj hj2 (.inl h10);have hnn:marksL l target.toNat=none:=by rw [← i3]; exact mark_bad hi0 hil hiu h6 h7 hbd
     exact (show Sub (.v (.slice none 0 0)) (.slice .none []) from .nil).trans (.of_eq (show AV.slice .none []=sl encNat (usedL l target) by rw [used_none hnn]; rfl))
    have h10:¬ (((kk l[i.toNat] j):Int)<(0:Int)):=h10;refine Yi (fun h12=>?_) (fun h12=>?_)
    ·have h12:((i:Int):Int)≤((kk l[i.toNat] j):Int):=h12;refine Xi ⟨[],[],hfree⟩ (Yi ⟨Tv,Tv,Fh,Tv⟩ ?_)
     have hbd:=RefSt.bad hi0 hj hj2 (.inr h12);have hnn:marksL l target.toNat=none:=by rw [← i3]; exact mark_bad hi0 hil hiu h6 h7 hbd
     exact (show Sub (.v (.slice none 0 0)) (.slice .none []) from .nil).trans (.of_eq (show AV.slice .none []=sl encNat (usedL l target) by rw [used_none hnn]; rfl))
    have h12:¬ (((i:Int):Int)≤((kk l[i.toNat] j):Int)):=h12;have hk2:(kk l[i.toNat] j).toNat<u2.length:=by omega
    have gk:u2[(kk l[i.toNat] j).toNat]?=some u2[(kk l[i.toNat] j).toNat]:=Ge hk2;refine Xi ⟨[(0,sl encNf l),(5,.msl 22 u2.length),(6,vi (i:Int)),(8,vi (kk l[i.toNat] j)),(54,.slice (.id 54 1) [[vi l[i.toNat].left],[vi l[i.toNat].right]]),(55,vi 2),(56,vi j)],[(22,.arr 1 (u2.map encB)),(54,.tok 1 2)],hfree⟩ (Yi ⟨Z7,Z2,Fh,Tv⟩ ?_)
    refine Yi (by show (0:Int)≤(kk l[i.toNat] j)∧((kk l[i.toNat] j):Int)<(u2.length:Nat); omega) ?_;refine Yi (show u2.length=(u2.map encB).length by simp) (Xi (encB (u2[(kk l[i.toNat] j).toNat])) (Yi (map_at gk) (Yi (Nz rfl) ?_)));refine Xi ⟨[(0,sl encNf l),(5,.msl 22 u2.length),(6,vi (i:Int)),(54,.slice (.id 54 1) [[vi l[i.toNat].left],[vi l[i.toNat].right]]),(55,vi 2),(56,vi j)],[(22,.arr 1 ((u2.map encB).set ((kk l[i.toNat] j):Int).toNat [vb true])),(54,.tok 1 2)],hfree⟩ (Yi ⟨Z6,Z2,Fh,Tv⟩ ?_)
    refine Yi (Ii j (by omega)) ?_;refine Xi ⟨(j+1,u2.set (kk l[i.toNat] j).toNat true),hj.next hj2 h10 h12⟩ ?_
    exact ⟨Dl 2 j (by omega),⟨Zr,⟨(show AV.msl 22 u2.length=.msl 22 (u2.set (kk l[i.toNat] j).toNat true).length by simp),rfl⟩,Zr,Zr,Zr,Zr,Tv⟩,⟨⟨(show HO.arr 1 ((u2.map encB).set (kk l[i.toNat] j).toNat [vb true])=.arr 1 ((u2.set (kk l[i.toNat] j).toNat true).map encB) by rw [map_setB]),rfl⟩,Zr,Tv⟩,Fh,Tv⟩
   have h9:¬ ((j:Int)<(2:Int)):=h9;refine Yi (by show InI64 (((i:Int):Int) - (1:Int)); unfold InI64; omega) ?_;have hdn:=RefSt.done hi0 hj (by omega);have hu2:u2.length=l.length:=hj.1.trans i2;refine Xi ⟨(i - 1,u2),⟨by omega,by omega⟩,hu2,by rw [← i3,mark_two hi0 hil hiu h6 h7 hdn.1,hdn.2]⟩ ?_;exact ⟨by show (i - 1+1).toNat<(i+1).toNat; omega,Z3,Z1,Fh,Tv⟩
  have h6:u[i.toNat]=false:=h6;refine Yi (by show InI64 (((i:Int):Int) - (1:Int)); unfold InI64; omega) ?_;refine Xi ⟨(i - 1,u),⟨by omega,by omega⟩,i2,by rw [← i3,mark_skip hi0 hil hiu (.inl h6)]⟩ ?_;exact ⟨by show (i - 1+1).toNat<(i+1).toNat; omega,Z3,Z1,Fh,Tv⟩
 have h5:¬ ((0:Int)≤((i:Int):Int)):=h5;refine Xi {k:Nat // k≤u.length} (Xi (fun q=>⟨[(9,.slice (.id 9 1) ((usK u q.1).map encNat)),(71,.msl 22 u.length),(72,vi u.length),(73,vi q.1)],[(9,.tok 1 (usK u q.1).length),(22,.arr 1 (u.map encB))],hfree⟩) (Xi (fun q=>u.length - q.1) (Yi (Xi ⟨0,Nat.zero_le _⟩ ?_) ?_)))
 ·exact ⟨Z4,Z2,Fh,Tv⟩
 intro ⟨k,k1⟩;have k1:k≤u.length:=k1;have hkl:=usK_len u k;refine Yi (fun h17=>?_) (fun h17=>?_)
 ·have h17:(k:Int)<(u.length:Int):=h17;have n17:k<u.length:=by omega
  have g17:u[k]?=some u[k]:=Ge n17;have hku:k<u.length:=by omega
  have guk:u[k]?=some u[k]:=Ge hku;refine Yi (by show (0:Int)≤k∧(k:Int)<(u.length:Nat); omega) ?_;refine Yi (show u.length=(u.map encB).length by simp) (Xi (encB u[k]) (Yi (map_at guk) ?_));refine Yi (fun h18=>?_) (fun h18=>?_)
  ·have h18:u[k]=true:=h18;refine Xi ⟨[(9,.slice (.id 9 1) ((usK u k).map encNat)),(10,vi k),(11,vb true),(71,.msl 22 u.length),(72,vi u.length),(73,vi k)],[(9,.tok 1 (usK u k).length),(22,.arr 1 (u.map encB))],hfree⟩ (Yi ⟨Z6,Z2,Fh,Tv⟩ ?_)
   have b19:AllLen 1 [[vi k]]∧((usK u k).map encNat).length=(usK u k).length∧(((usK u k).map encNat).length+([[vi k]]:List (List AV)).length)*8≤140737488355328∧((usK u k).map encNat).length+([[vi k]]:List (List AV)).length≤9223372036854775807:=⟨⟨rfl,trivial⟩,(by rw [Lm]),(by simp only [Lm,List.length_cons,List.length_nil]; omega),(by simp only [Lm,List.length_cons,List.length_nil]; omega)⟩;refine Yi b19 ?_;refine Xi ⟨[(9,.slice (.id 9 1) (((usK u k).map encNat)++[[vi k]])),(71,.msl 22 u.length),(72,vi u.length),(73,vi k)],[(9,.tok 1 (((usK u k).map encNat).length+([[vi k]]:List (List AV)).length)),(22,.arr 1 (u.map encB))],hfree⟩ (Yi ⟨Z4,Z2,Fh,Tv⟩ ?_)
   refine Yi (Ii k (by omega)) ?_;have hus:=usK_succ u k hku;rw [h18] at hus;simp only [if_true] at hus;refine Xi ⟨k+1,by omega⟩ ?_;exact ⟨Dl u.length k (by omega),⟨⟨(show AV.slice (.id 9 1) ((usK u k).map encNat++[[vi k]])=.slice (.id 9 1) ((usK u (k+1)).map encNat) by rw [hus,List.map_append]; rfl),rfl⟩,Zr,Zr,Zr,Tv⟩,⟨⟨(show HO.tok 1 (((usK u k).map encNat).length+([[vi k]]:List (List AV)).length)=.tok 1 (usK u (k+1)).length by rw [hus,List.length_append,Lm]; rfl),rfl⟩,Zr,Tv⟩,Fh,Tv⟩
  have h18:u[k]=false:=h18;refine Xi ⟨[(9,.slice (.id 9 1) ((usK u k).map encNat)),(10,vi k),(11,vb false),(71,.msl 22 u.length),(72,vi u.length),(73,vi k)],[(9,.tok 1 (usK u k).length),(22,.arr 1 (u.map encB))],hfree⟩ (Yi ⟨Z6,Z2,Fh,Tv⟩ ?_)
  refine Xi ⟨[(9,.slice (.id 9 1) ((usK u k).map encNat)),(71,.msl 22 u.length),(72,vi u.length),(73,vi k)],[(9,.tok 1 (usK u k).length),(22,.arr 1 (u.map encB))],hfree⟩ (Yi ⟨Z4,Z2,Fh,Tv⟩ ?_)
  refine Yi (Ii k (by omega)) ?_;have hus:=usK_succ u k hku;rw [h18] at hus;simp only [Bool.false_eq_true,if_false] at hus;refine Xi ⟨k+1,by omega⟩ ?_;exact ⟨Dl u.length k (by omega),⟨⟨(show AV.slice (.id 9 1) ((usK u k).map encNat)=.slice (.id 9 1) ((usK u (k+1)).map encNat) by rw [hus]),rfl⟩,Zr,Zr,Zr,Tv⟩,⟨⟨(show HO.tok 1 (usK u k).length=.tok 1 (usK u (k+1)).length by rw [hus]),rfl⟩,Zr,Tv⟩,Fh,Tv⟩
 have h17:¬ ((k:Int)<(u.length:Int)):=h17;have n17:¬ k<u.length:=by omega
 have hms:marksL l target.toNat=some u:=by rw [← i3]; exact mark_zero i1.1 (by omega)
 have hku:k=u.length:=by omega
 exact .of_eq (show sl encNat (usK u k)=sl encNat (usedL l target) by rw [used_some (by omega) hms,hku]; rfl)
end Go.Eng

namespace Go.Eng
open Go.Proofs
theorem e17 (l m:List Nat) (hl:Few l):PC 17 [sl encNat l,sl encNat m] (vb (decide (l=m))):=by
 refine Ps pl0 Tryz.func17 rfl (Nz rfl) ?_;refine Yi ?_ ?_
 ·intro h;have h:¬ ((l.map encNat).length:Int)=(m.map encNat).length:=h
  have:l≠m:=fun e=>h (by rw [e])
  rw [decide_eq_false this];exact .refl _
 ·intro h;have h:¬ ((l.map encNat).length:Int)≠(m.map encNat).length:=h;have hlen:l.length=m.length:=by simp at h; omega
  refine Xi {i:Nat // i≤l.length∧l.take i=m.take i} (Xi (fun i=>⟨[(0,sl encNat l),(1,sl encNat m),(12,vi (l.map encNat).length),(13,vi i.1)],[],hfree⟩) (Xi (fun i=>l.length - i.1) (Yi (Xi ⟨0,by simp⟩ ?_) ?_)))
  ·exact ⟨Z4,Tv,Fh,Tv⟩
  ·intro ⟨i,h1,h2⟩;refine Yi ?_ ?_
   ·intro h;have h:(i:Int)<(l.map encNat).length:=h;have h:i<l.length:=by simpa using h
    have h' : i<m.length:=by omega
    have hg:l[i]?=some l[i]:=Ge h;have hg' : m[i]?=some m[i]:=Ge h';refine Xi (encNat l[i]) (Yi (Yi (Nn i) (by simp [hg])) (Yi rfl ?_));refine Xi (encNat m[i]) (Yi (Yi (Nn i) (by simp [hg'])) (Yi rfl ?_));refine Yi ?_ ?_
    ·intro h5;refine Yi (by kernel_rfl) ?_;have h5:(l[i]:Int)≠(m[i]:Int):=h5
     have:l≠m:=fun e=>h5 (by subst e; rfl)
     rw [decide_eq_false this];exact .refl _
    ·intro h5;have h5:¬ (l[i]:Int)≠(m[i]:Int):=h5;have e:l[i]=m[i]:=by have:=Classical.not_not.1 h5; omega
     refine Yi (by kernel_rfl) ?_;refine Yi (by show InI64 ((i:Int)+1); unfold Few at hl; unfold InI64; omega) ?_;refine Xi ⟨i+1,by omega,?_⟩ ?_
     ·rw [List.take_add_one,List.take_add_one,h2,hg,hg',e]
     ·exact ⟨Dl l.length i (by omega),Z4,Tv,Fh,Tv⟩
   ·intro h;have h:¬ (i:Int)<(l.map encNat).length:=h;have h:¬ i<l.length:=by simpa using h
    have e:l=m:=by
     rw [← List.take_of_length_le (l:=l) (i:=i) (by omega),h2,List.take_of_length_le (by omega)]
    rw [decide_eq_true e];exact .refl _

theorem pos_found {L:List Nat} {n:Int} {i:Nat} (h:i<L.length) (hj:∀ j (hj:j<L.length),j<i→¬ (L[j]:Int)=n) (e:(L[i]:Int)=n):posL L n=i:=by
 have:L.findIdx? (fun i:Nat=>decide ((i:Int)=n))=some i:=by
  rw [List.findIdx?_eq_some_iff_getElem];refine ⟨h,by simpa using e,fun j hj'=>by simpa using hj j (by omega) hj'⟩
 unfold posL; rw [this]
theorem pos_none {L:List Nat} {n:Int} (hj:∀ j (hj:j<L.length),¬ (L[j]:Int)=n):posL L n=-1:=by
 have:L.findIdx? (fun i:Nat=>decide ((i:Int)=n))=none:=by
  rw [List.findIdx?_eq_none_iff];intro x hx;obtain ⟨j,h,rfl⟩:=List.getElem_of_mem hx;simpa using hj j h
 unfold posL; rw [this]
theorem usedL_lt {l:List Nf} {target:Int} : ∀ i ∈ usedL l target,i<l.length:=by
 intro i hi;unfold usedL at hi;split at hi
 ·cases hi
 ·split at hi
  ·cases hi
  ·rename_i u hu;unfold marksL at hu;have h1:=markGo_len hu;unfold usedU at hi;have h2:=List.mem_range.1 (List.mem_filter.1 hi).1;simp at h1; omega
theorem usedL_len {l:List Nf} {target:Int} : (usedL l target).length≤l.length:=by
 unfold usedL;split
 ·simp
 ·split
  ·simp
  ·rename_i u hu;unfold marksL at hu;have h1:=markGo_len hu;have h2:(usedU u).length≤u.length:=usK_len u u.length;rw [List.length_set,List.length_replicate] at h1;exact h1▸h2
theorem getD_at {l:List Nf} {i:Nat} (h:i<l.length):l[i]?=some (l.getD i nf0):=by
 rw [List.getD_eq_getElem?_getD,Ge h]; rfl
theorem e54 (L:List Nat) (n:Int) (hl:Few L):PC 54 [sl encNat L,vi (n:Int)] (vi (posL L n)):=by
 have hl:L.length≤1073741824:=hl;refine Ps ⟨[],[],[],[],[],[],[],[],[],[],[]⟩ Tryz.func54 rfl (Nz rfl) ?_;refine Xi {i:Nat // i≤L.length∧∀ j (hj:j<L.length),j<i→¬ (L[j]:Int)=n} (Xi (fun q=>⟨[(0,sl encNat L),(1,vi (n:Int)),(7,vi (L.map encNat).length),(8,vi q.1)],[],hfree⟩) (Xi (fun q=>L.length - q.1) (Yi (Xi ⟨0,Nat.zero_le _,fun j _ h=>by omega⟩ ?_) ?_)))
 ·exact ⟨Z4,Tv,Fh,Tv⟩
 intro ⟨i,i1,i2⟩;have i1:i≤L.length:=i1;have i2:∀ j (hj:j<L.length),j<i→¬ (L[j]:Int)=n:=i2;refine Yi (fun h1=>?_) (fun h1=>?_)
 ·have h1:(i:Int)<((L.map encNat).length:Int):=h1;have n1:i<L.length:=by have q:=h1; rw [Lm] at q; omega
  have g1:L[i]?=some L[i]:=Ge n1;refine Xi (encNat L[i]) (Yi (Yi (Nn i) (map_at g1)) (Yi rfl ?_));refine Yi (fun h2=>?_) (fun h2=>?_)
  ·have h2:((n:Int):Int)=(L[i]:Int):=h2;exact .of_eq (show vi i=vi (posL L n) by rw [pos_found n1 i2 (by have q:=h2; omega)])
  have h2:¬ (((n:Int):Int)=(L[i]:Int)):=h2;refine Yi (Ii i (by omega)) ?_;refine Xi ⟨i+1,by omega,fun j hj hji=>(Nat.lt_or_ge j i).elim (i2 j hj) (fun z=>by have e:j=i:=(by omega); subst e; exact fun hq=>h2 hq.symm)⟩ ?_;exact ⟨Dl L.length i (by omega),Z4,Tv,Fh,Tv⟩
 have h1:¬ ((i:Int)<((L.map encNat).length:Int)):=h1;have n1:¬ i<L.length:=by have q:=h1; rw [Lm] at q; omega
 exact .of_eq (show vi (-1)=vi (posL L n) by rw [pos_none fun j hj=>i2 j hj (by omega)])
theorem e53 (L:List Nat) (n:Int) (hl:Few L):PC 53 [vi (n:Int),.cptr [sl encNat L]] (vi (posL L n)):=by
 refine Ps ⟨[],[],[],[],[],[],[],[],[],[],[]⟩ Tryz.func53 rfl (Nz rfl) ?_;refine Xi .pure (Xi _ (Yi (e54 L n hl) ?_));exact .refl _
set_option maxHeartbeats 4000000 in
theorem e21 (l:List Nf) (target:Int) (hl:Few l) (ht:InI64 target):PC 21 [sl encNf l,vi (target:Int)] (sl encNf (trimL l target)):=by
 have hUl:∀ i ∈ usedL l target,i<l.length:=usedL_lt;have hUn:=usedL_len (l:=l) (target:=target);have h18:=e18 l target hl ht;obtain ⟨U,hU⟩ : ∃ U,U=usedL l target:=⟨_,rfl⟩;rw [← hU] at hUl hUn h18;have hl:l.length≤1073741824:=hl;have hUf:Few U:=by unfold Few; omega
 refine Ps ⟨[5],[(7,6)],[],[],[],[],[],[],[],[],[2,8,10]⟩ Tryz.func21 rfl (Nz rfl) ?_;refine Xi .pure (Xi _ (Yi h18 ?_));refine Yi (Nz rfl) ?_;refine Xi ⟨[(0,sl encNf l),(5,.ref 5 0)],[(5,.ro [sl encNat U])],hfree⟩ (Yi ⟨Z2,Z1,Fh,Tv⟩ ?_)
 refine Xi {i:Nat // i≤U.length} (Xi (fun q=>⟨[(0,sl encNf l),(6,.clo 53 [.cptr [sl encNat U]]),(7,.slice (.id 7 6) (((U.take q.1).map fun k=>trimN U (l.getD k nf0)).map encNf)),(15,sl encNat U),(16,vi (U.map encNat).length),(17,vi q.1)],[(7,.tok 6 q.1)],hfree⟩) (Xi (fun q=>U.length - q.1) (Yi (Xi ⟨0,Nat.zero_le _⟩ ?_) ?_)))
 ·exact ⟨Z6,Z1,Fh,Tv⟩
 intro ⟨i,i1⟩;have i1:i≤U.length:=i1;have hrl:((U.take i).map fun k=>trimN U (l.getD k nf0)).length=i:=by rw [Lm,List.length_take]; omega
 refine Yi (fun h1=>?_) (fun h1=>?_)
 ·have h1:(i:Int)<((U.map encNat).length:Int):=h1;have n1:i<U.length:=by have q:=h1; rw [Lm] at q; omega
  have g1:U[i]?=some U[i]:=Ge n1;have gy:l[U[i]]?=some (l.getD U[i] nf0):=getD_at (hUl _ (List.getElem_mem n1));refine Xi (encNat U[i]) (Yi (Yi (Nn i) (map_at g1)) (Yi rfl ?_));refine Xi (encNf (l.getD U[i] nf0)) (Yi (Yi (show (0:Int)≤(U[i]:Nat) by omega) (map_at gy)) (Yi rfl ?_));refine Yi (Nz rfl) ?_;refine Yi (Nz rfl) ?_;refine Xi ⟨[(0,sl encNf l),(6,.clo 53 [.cptr [sl encNat U]]),(7,.slice (.id 7 6) (((U.take i).map fun k=>trimN U (l.getD k nf0)).map encNf)),(10,.ref 10 0),(15,sl encNat U),(16,vi (U.map encNat).length),(17,vi i)],[(7,.tok 6 i),(10,.cells (encNf (l.getD U[i] nf0)))],hfree⟩ (Yi ⟨Z7,Z2,Fh,Tv⟩ ?_)
  refine Yi (fun h2=>?_) (fun h2=>?_)
  ·have h2:((l.getD U[i] nf0).kind:Int)=(3:Int):=h2;refine Xi _ (Yi (e53 U (l.getD U[i] nf0).left hUf) ?_);refine Xi _ (Yi (e53 U (l.getD U[i] nf0).right hUf) ?_);refine Yi (Nz rfl) ?_;refine Yi (Nz rfl) ?_;refine Yi (by kernel_rfl) ?_;refine Xi ⟨[(0,sl encNf l),(6,.clo 53 [.cptr [sl encNat U]]),(7,.slice (.id 7 6) (((U.take i).map fun k=>trimN U (l.getD k nf0)).map encNf)),(10,.ref 10 0),(15,sl encNat U),(16,vi (U.map encNat).length),(17,vi i)],[(7,.tok 6 i),(10,.cells [vi (l.getD U[i] nf0).kind,vs (l.getD U[i] nf0).path,vi (l.getD U[i] nf0).place,vi (l.getD U[i] nf0).number,vi (posL U (l.getD U[i] nf0).left),vi (posL U (l.getD U[i] nf0).right)])],hfree⟩ (Yi ⟨Z7,Z2,Fh,Tv⟩ ?_)
   refine Yi (Nz rfl) ?_;have b3:AllLen 6 [[vi (l.getD U[i] nf0).kind,vs (l.getD U[i] nf0).path,vi (l.getD U[i] nf0).place,vi (l.getD U[i] nf0).number,vi (posL U (l.getD U[i] nf0).left),vi (posL U (l.getD U[i] nf0).right)]]∧(((U.take i).map fun k=>trimN U (l.getD k nf0)).map encNf).length=i∧((((U.take i).map fun k=>trimN U (l.getD k nf0)).map encNf).length+([[vi (l.getD U[i] nf0).kind,vs (l.getD U[i] nf0).path,vi (l.getD U[i] nf0).place,vi (l.getD U[i] nf0).number,vi (posL U (l.getD U[i] nf0).left),vi (posL U (l.getD U[i] nf0).right)]]:List (List AV)).length)*56≤140737488355328∧(((U.take i).map fun k=>trimN U (l.getD k nf0)).map encNf).length+([[vi (l.getD U[i] nf0).kind,vs (l.getD U[i] nf0).path,vi (l.getD U[i] nf0).place,vi (l.getD U[i] nf0).number,vi (posL U (l.getD U[i] nf0).left),vi (posL U (l.getD U[i] nf0).right)]]:List (List AV)).length≤9223372036854775807:=⟨⟨rfl,trivial⟩,(by simp only [Lm,List.length_take]; omega),(by simp only [Lm,List.length_cons,List.length_nil,List.length_take]; omega),(by simp only [Lm,List.length_cons,List.length_nil,List.length_take]; omega)⟩;refine Yi b3 ?_;refine Yi (Ii i (by omega)) ?_;have hy : [vi (l.getD U[i] nf0).kind,vs (l.getD U[i] nf0).path,vi (l.getD U[i] nf0).place,vi (l.getD U[i] nf0).number,vi (posL U (l.getD U[i] nf0).left),vi (posL U (l.getD U[i] nf0).right)]=encNf (trimN U (l.getD U[i] nf0)):=by unfold trimN; rw [if_pos h2]; try rfl
   have ht:(U.take (i+1)).map (fun k=>trimN U (l.getD k nf0))=(U.take i).map (fun k=>trimN U (l.getD k nf0))++[trimN U (l.getD U[i] nf0)]:=by rw [List.take_succ_eq_append_getElem n1,List.map_append]; rfl
   refine Xi ⟨i+1,by omega⟩ ?_;exact ⟨Dl U.length i (by omega),⟨Zr,Zr,⟨(show AV.slice (.id 7 6) (((U.take i).map fun k=>trimN U (l.getD k nf0)).map encNf++[[vi (l.getD U[i] nf0).kind,vs (l.getD U[i] nf0).path,vi (l.getD U[i] nf0).place,vi (l.getD U[i] nf0).number,vi (posL U (l.getD U[i] nf0).left),vi (posL U (l.getD U[i] nf0).right)]])=.slice (.id 7 6) (((U.take (i+1)).map fun k=>trimN U (l.getD k nf0)).map encNf) by rw [ht,List.map_append,hy]; rfl),rfl⟩,Zr,Zr,Zr,Tv⟩,⟨⟨(show HO.tok 6 ((((U.take i).map fun k=>trimN U (l.getD k nf0)).map encNf).length+([[vi (l.getD U[i] nf0).kind,vs (l.getD U[i] nf0).path,vi (l.getD U[i] nf0).place,vi (l.getD U[i] nf0).number,vi (posL U (l.getD U[i] nf0).left),vi (posL U (l.getD U[i] nf0).right)]]:List (List AV)).length)=.tok 6 (i+1) by rw [Lm,hrl]; rfl),rfl⟩,Tv⟩,Fh,Tv⟩
  have h2:¬ (((l.getD U[i] nf0).kind:Int)=(3:Int)):=h2;refine Xi ⟨[(0,sl encNf l),(6,.clo 53 [.cptr [sl encNat U]]),(7,.slice (.id 7 6) (((U.take i).map fun k=>trimN U (l.getD k nf0)).map encNf)),(10,.ref 10 0),(15,sl encNat U),(16,vi (U.map encNat).length),(17,vi i)],[(7,.tok 6 i),(10,.cells (encNf (l.getD U[i] nf0)))],hfree⟩ (Yi ⟨Z7,Z2,Fh,Tv⟩ ?_)
  refine Yi (Nz rfl) ?_;have b5:AllLen 6 [(encNf (l.getD U[i] nf0))]∧(((U.take i).map fun k=>trimN U (l.getD k nf0)).map encNf).length=i∧((((U.take i).map fun k=>trimN U (l.getD k nf0)).map encNf).length+([(encNf (l.getD U[i] nf0))]:List (List AV)).length)*56≤140737488355328∧(((U.take i).map fun k=>trimN U (l.getD k nf0)).map encNf).length+([(encNf (l.getD U[i] nf0))]:List (List AV)).length≤9223372036854775807:=⟨⟨rfl,trivial⟩,(by simp only [Lm,List.length_take]; omega),(by simp only [Lm,List.length_cons,List.length_nil,List.length_take]; omega),(by simp only [Lm,List.length_cons,List.length_nil,List.length_take]; omega)⟩;refine Yi b5 ?_;refine Yi (Ii i (by omega)) ?_;have hy:(encNf (l.getD U[i] nf0))=encNf (trimN U (l.getD U[i] nf0)):=by unfold trimN; rw [if_neg h2]; try rfl
  have ht:(U.take (i+1)).map (fun k=>trimN U (l.getD k nf0))=(U.take i).map (fun k=>trimN U (l.getD k nf0))++[trimN U (l.getD U[i] nf0)]:=by rw [List.take_succ_eq_append_getElem n1,List.map_append]; rfl
  refine Xi ⟨i+1,by omega⟩ ?_;exact ⟨Dl U.length i (by omega),⟨Zr,Zr,⟨(show AV.slice (.id 7 6) (((U.take i).map fun k=>trimN U (l.getD k nf0)).map encNf++[(encNf (l.getD U[i] nf0))])=.slice (.id 7 6) (((U.take (i+1)).map fun k=>trimN U (l.getD k nf0)).map encNf) by rw [ht,List.map_append,hy]; rfl),rfl⟩,Zr,Zr,Zr,Tv⟩,⟨⟨(show HO.tok 6 ((((U.take i).map fun k=>trimN U (l.getD k nf0)).map encNf).length+([(encNf (l.getD U[i] nf0))]:List (List AV)).length)=.tok 6 (i+1) by rw [Lm,hrl]; rfl),rfl⟩,Tv⟩,Fh,Tv⟩
 have h1:¬ ((i:Int)<((U.map encNat).length:Int)):=h1;have n1:¬ i<U.length:=by have q:=h1; rw [Lm] at q; omega
 exact .of_eq (show sl encNf ((U.take i).map fun k=>trimN U (l.getD k nf0))=sl encNf (trimL l target) by unfold trimL; rw [← hU,List.take_of_length_le (by omega)])
structure NfI (y:Nf):Prop where
 path:FewP y.path
 place:y.kind=1→InI64 y.place
 number:y.kind=0→-9223372036854775808≤y.number∧y.number<9223372036854775807
 refs:y.kind=3→(-9223372036854775808≤y.left∧y.left<9223372036854775807)∧(-9223372036854775808≤y.right∧y.right<9223372036854775807)
 kinds:y.kind=0∨y.kind=1∨y.kind=2∨y.kind=3
theorem itC_size {n:Int} (h0 : -9223372036854775808≤n) (h1:n≤9223372036854775807):(itB n++bClose).size≤22:=by
 have:=itB_size h0 h1
 rw [bsize_app]; show _+1≤_; omega
theorem atC_size (p:ByteArray) (pl:Int):(atT p pl++bClose).size≤66:=by
 have:=atT_size p pl
 rw [bsize_app]; show _+1≤_; omega
set_option maxHeartbeats 4000000 in
theorem e112 (y:Nf) (hn:NfI y):PC 112 [.agg (encNf y)] (vs (reasonI y)):=by
 have hkd:=hn.kinds;refine Ps ⟨[],[],[],[],[],[],[],[],[],[],[]⟩ Tryz.func112 rfl (Nz rfl) ?_;refine Yi (fun h1=>?_) (fun h1=>?_)
 ·have h1:(y.kind:Int)=(0:Int):=h1;have hq1:=hn.number h1;refine Yi (by show InI64 ((y.number:Int)+(1:Int)); unfold InI64; omega) ?_;refine Xi .pure (Xi _ (Yi (e39 (y.number+1) (by unfold InI64; omega)) ?_));refine Yi (cat_ok (Nat.le_trans (itB_size (by omega) (by omega)) (by decide)) (by decide)) ?_;refine Xi .pure (Xi _ (Yi (e44 [(⟨#[40,114,111,111,116]⟩ : ByteArray),(itB (y.number+1))++(⟨#[41]⟩ : ByteArray)] (by simp) (words_bound (B:=1048576) (List.forall_mem_cons.2 ⟨(by decide),List.forall_mem_cons.2 ⟨(Nat.le_trans (itC_size (by omega) (by omega)) (by decide)),List.forall_mem_nil _⟩⟩) (by simp))) ?_));exact .of_eq (show vs (wordsB [(⟨#[40,114,111,111,116]⟩ : ByteArray),(itB (y.number+1))++(⟨#[41]⟩ : ByteArray)])=vs (reasonI y) by unfold reasonI; rw [if_pos h1]; try rfl)
 have h1:¬ ((y.kind:Int)=(0:Int)):=h1;refine Yi (fun h3=>?_) (fun h3=>?_)
 ·have h3:(y.kind:Int)=(1:Int):=h3;have hq4:=hn.place h3;refine Xi _ (Yi (e75 y.path y.place hn.path.s hq4) ?_);refine Yi (cat_ok (Nat.le_trans (atT_size _ _) (by decide)) (by decide)) ?_;refine Xi _ (Yi (e44 [(⟨#[40,98,121]⟩ : ByteArray),y.path,(atT y.path y.place)++(⟨#[41]⟩ : ByteArray)] (by simp) (words_bound (B:=1048576) (List.forall_mem_cons.2 ⟨(by decide),List.forall_mem_cons.2 ⟨(show y.path.size≤1048576 from hn.path),List.forall_mem_cons.2 ⟨(Nat.le_trans (atC_size _ _) (by decide)),List.forall_mem_nil _⟩⟩⟩) (by simp))) ?_);refine Yi (by kernel_rfl) ?_;exact .of_eq (show vs (wordsB [(⟨#[40,98,121]⟩ : ByteArray),y.path,(atT y.path y.place)++(⟨#[41]⟩ : ByteArray)])=vs (reasonI y) by unfold reasonI; rw [if_neg h1]; rw [if_pos h3]; try rfl)
 have h3:¬ ((y.kind:Int)=(1:Int)):=h3;refine Yi (fun h5=>?_) (fun h5=>?_)
 ·have h5:(y.kind:Int)=(2:Int):=h5;exact .of_eq (show vs ⟨#[40,110,111,32,111,116,104,101,114,32,114,101,108,101,97,115,101,115,41]⟩=vs (reasonI y) by unfold reasonI; rw [if_neg h1]; rw [if_neg h3]; rw [if_pos h5]; try rfl)
 have h5:¬ ((y.kind:Int)=(2:Int)):=h5;have hq2:=hn.refs (by omega);refine Yi (by show InI64 ((y.left:Int)+(1:Int)); unfold InI64; omega) ?_;refine Xi _ (Yi (e39 (y.left+1) (by unfold InI64; omega)) ?_);refine Yi (by show InI64 ((y.right:Int)+(1:Int)); unfold InI64; omega) ?_;refine Xi _ (Yi (e39 (y.right+1) (by unfold InI64; omega)) ?_);refine Yi (cat_ok (Nat.le_trans (itB_size (by omega) (by omega)) (by decide)) (by decide)) ?_;refine Xi _ (Yi (e44 [(⟨#[40,102,114,111,109]⟩ : ByteArray),(itB (y.left+1)),(⟨#[97,110,100]⟩ : ByteArray),(itB (y.right+1))++(⟨#[41]⟩ : ByteArray)] (by simp) (words_bound (B:=1048576) (List.forall_mem_cons.2 ⟨(by decide),List.forall_mem_cons.2 ⟨(Nat.le_trans (itB_size (by omega) (by omega)) (by decide)),List.forall_mem_cons.2 ⟨(by decide),List.forall_mem_cons.2 ⟨(Nat.le_trans (itC_size (by omega) (by omega)) (by decide)),List.forall_mem_nil _⟩⟩⟩⟩) (by simp))) ?_);refine Yi (by kernel_rfl) ?_;exact .of_eq (show vs (wordsB [(⟨#[40,102,114,111,109]⟩ : ByteArray),(itB (y.left+1)),(⟨#[97,110,100]⟩ : ByteArray),(itB (y.right+1))++(⟨#[41]⟩ : ByteArray)])=vs (reasonI y) by unfold reasonI; rw [if_neg h1]; rw [if_neg h3]; rw [if_neg h5]; rfl)
end Go.Eng

namespace Go.Eng
open Go.Proofs
structure TmsI (t:List Tm):Prop where
 len:t.length≤500000
 few:∀ u ∈ t,Few u.set
 path:∀ u ∈ t,FewP u.path
theorem TmsI.canon {l c:List Tm} (h:TmsI l) (e:canonT l=some c):TmsI c where
 len:=Nat.le_trans (canT_len e) h.len
 few:=fun t ht=>few_can ((canonT_sorted e).canon t ht)
 path:=fun t ht=>by
  obtain ⟨u,hu,q⟩:=canonT_paths e t ht;rw [q]; exact h.path u hu
theorem incF_size {c:List Tm} (h:TmsI c):(incF c).size≤90000000000000:=by
 have hl:=hn_len c;have hc:=h.len;have h1:=texts_size (sep:=bAnd) (by decide) h.path (have_mem c) (by omega);have h2:=texts_size (sep:=bOr) (by decide) h.path (need_mem c) (by omega);have a1:=joinB_size bAnd 140000000 (haveL c) (fun x hx=>by
  obtain ⟨t,ht,rfl⟩:=have_mem c x hx;exact termT_size (h.path t ht))
 have a2:=joinB_size bOr 140000000 (needL c) (fun x hx=>by
  obtain ⟨t,ht,rfl⟩:=need_mem c x hx;exact termT_size (h.path t ht))
 have e1:bAnd.size=5:=rfl;have e2:bOr.size=4:=rfl;rw [e1] at a1; rw [e2] at a2;have e3:bThis.size=18:=rfl;have e4:bImp.size=14:=rfl;have e5:bDo.size=19:=rfl;have e6:bNeeded.size=10:=rfl;have e7:bNeeds.size=7:=rfl;have e8:bNeed.size=6:=rfl;have key:(joinB bAnd (haveL c)).size+(joinB bOr (needL c)).size≤70000002500000:=by omega
 clear a1 a2 h1 h2
 unfold incF
 repeat' split
 all_goals (try simp only [bsize_app])
 all_goals omega
theorem incText_size {l:List Tm} (h:TmsI l):(incText l).size≤90000000000000:=by
 unfold incText;cases e:canonT l with
 | none=>decide
 | some c=>exact incF_size (h.canon e)
theorem reasonI_size {y:Nf} (h:NfI y):(reasonI y).size≤5000000:=by
 have hp:y.path.size≤1048576:=h.path;have e0:bBlank.size=1:=rfl;unfold reasonI;split
 ·rename_i k;have q:=h.number k
  have:=joinB_size bBlank 1048576 [bRoot,itB (y.number+1)++bClose] (List.forall_mem_cons.2 ⟨by decide,List.forall_mem_cons.2 ⟨Nat.le_trans (itC_size (by omega) (by omega)) (by decide),List.forall_mem_nil _⟩⟩)
  rw [e0] at this; simp only [List.length_cons,List.length_nil] at this; omega
 ·split
  ·have:=joinB_size bBlank 1048576 [bBy,y.path,atT y.path y.place++bClose] (List.forall_mem_cons.2 ⟨by decide,List.forall_mem_cons.2 ⟨hp,List.forall_mem_cons.2 ⟨Nat.le_trans (atC_size _ _) (by decide),List.forall_mem_nil _⟩⟩⟩)
   rw [e0] at this; simp only [List.length_cons,List.length_nil] at this; omega
  ·split
   ·decide
   ·rename_i k0 k1 k2;have q:=h.refs (by have:=h.kinds; omega)
    have:=joinB_size bBlank 1048576 [bFrom,itB (y.left+1),bAnd1,itB (y.right+1)++bClose] (List.forall_mem_cons.2 ⟨by decide,List.forall_mem_cons.2 ⟨Nat.le_trans (itB_size (by omega) (by omega)) (by decide),List.forall_mem_cons.2 ⟨by decide,List.forall_mem_cons.2 ⟨Nat.le_trans (itC_size (by omega) (by omega)) (by decide),List.forall_mem_nil _⟩⟩⟩⟩)
    rw [e0] at this; simp only [List.length_cons,List.length_nil] at this; omega
def ShortP (x:List Rl) (roots:List Rq) (l:List Nf):Prop:=∀ p ∈ pathsU x roots l,FewP p
theorem derived_tms {x:List Rl} {roots:List Rq} {l:List Nf} (hP:ShortP x roots l) (h:(deriveP x roots l).2=0):∀ t ∈ (deriveP x roots l).1,TmsI t:=fun t ht=>by
 obtain ⟨h1,h2,h3,h4⟩:=deriveP_ok h;have hu:=deriveGo_in (l0:=l) l [] _ (fun _ h=>h) (fun _ h=>by cases h) h4 t ht;have hf:=hu.fewI (pathsU_few h1 h2 h3)
 have:=hu.len
 have:=pathsU_few h1 h2 h3
 exact ⟨by omega,hf.2,fun u hu'=>hP _ (hu.2 u hu')⟩
theorem derive_nf {x:List Rl} {roots:List Rq} {l:List Nf} {d:List (List Tm)} (hr:roots.length≤1073741824) (hl:l.length≤1073741824) (h:deriveGo x roots l []=some d) {i:Nat} (hi:i<l.length) (hp:FewP (l.getD i nf0).path):NfI (l.getD i nf0):=by
 have hok:=derive_ok h hi;have hin:=(derive_at h).2 i hi;have hdl:d.length=l.length:=(derive_at h).1;refine ⟨hp,fun k=>?_,fun k=>?_,fun k=>?_,hok.2.2.2⟩
 ·have:=hok.2.1 k; unfold InI64; omega
 ·unfold inferP at hin;rw [if_pos k] at hin;split at hin
  ·cases e:nthZ roots (l.getD i nf0).number with
   | none=>rw [e] at hin; cases hin
   | some q=>have:=nthZ_lt e; omega
  ·cases hin
 ·obtain ⟨a,b,ha,hb,_⟩:=infer_ref hin k;have h1:=nthZ_lt ha;have h2:=nthZ_lt hb;rw [List.length_take] at h1 h2;omega
theorem trim_nf {x:List Rl} {roots:List Rq} {l:List Nf} (hP:ShortP x roots l) (hr:roots.length≤1073741824) (h:(deriveP x roots l).2=0) {t:Nat} (ht:t<l.length):∀ y ∈ trimL l t,NfI y:=by
 obtain ⟨h1,h2,h3,h4⟩:=deriveP_ok h;have hD:=derive_trim h4 ht;have hlen:(trimL l t).length≤l.length:=by unfold trimL; rw [Lm]; exact usedL_len
 intro y hy;obtain ⟨i,hi,e⟩:=List.getElem_of_mem hy;have ey:(trimL l t).getD i nf0=y:=by rw [List.getD_eq_getElem?_getD,Ge hi]; exact e
 have hp:FewP y.path:=by
  unfold trimL at hy;obtain ⟨k,hk,rfl⟩:=List.mem_map.1 hy;have hk':=usedL_lt k hk;have e1:(trimN (usedL l t) (l.getD k nf0)).path=(l.getD k nf0).path:=by unfold trimN; split <;> rfl
  rw [e1];refine hP _ ?_;unfold pathsU;refine List.mem_append_right _ (List.mem_append_right _ (List.mem_append_right _ (List.mem_map.2 ⟨_,List.mem_of_getElem? (getD_at hk'),rfl⟩)))
 have:=derive_nf hr (by omega) hD hi (by rw [ey]; exact hp)
 rwa [ey] at this
end Go.Eng
