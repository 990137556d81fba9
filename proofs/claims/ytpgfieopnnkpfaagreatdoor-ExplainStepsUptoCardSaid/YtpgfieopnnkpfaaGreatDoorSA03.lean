/- Lemmas for the claims of this seat, without a condition: part 3 (P20, P21, P22, P32, P23, P24, P25, P26, P27, P28, P29, P30, P33, P31). -/
import Derived.Test.YtpgfieopnnkpfaaGreatDoorSA02
import Derived.Lib.ItoaLen
import Derived.Lib.LastIndexLaws
import Derived.Lib.IndexMore
import Derived.Lib.AtoiAll
namespace Go.Eng
theorem markGo_from {l:List Nf} : ∀ {n:Nat} {u v:List Bool},n≤u.length→markGo l n u=some v→∀ i,v.getD i false=true→u.getD i false=true ∨
  ∃ j,j<n∧v.getD j false=true∧(l.getD j nf0).kind=3∧((l.getD j nf0).left=i∨(l.getD j nf0).right=i)
 | 0,u,v,_,h=>by cases h; exact fun i h=>.inl h
 | n+1,u,v,hn,h=>by
  intro i hi;have hall:=markGo_spec hn h;unfold markGo at h;split at h
  ·rename_i hk;rw [Bool.and_eq_true,decide_eq_true_eq] at hk;split at h
   ·cases h
   ·rename_i hb;obtain ⟨b1,b2⟩:=bad_false (Bool.eq_false_iff.2 hb);have hv:v.getD n false=true:=hall.2.1 n hk.1;rcases markGo_from (by simp only [List.length_set]; omega) h i hi with h1 | ⟨j,j1,j2,j3,j4⟩
    ·by_cases hl:i<u.length
     ·rw [getD_set _ _ _ (by simpa using hl),getD_set _ _ _ hl,Bool.or_eq_true,Bool.or_eq_true,decide_eq_true_eq,decide_eq_true_eq] at h1;rcases h1 with h1 | h1 | h1
      ·exact .inr ⟨n,Nat.lt_succ_self n,hv,hk.2,.inr (by omega)⟩
      ·exact .inr ⟨n,Nat.lt_succ_self n,hv,hk.2,.inl (by omega)⟩
      ·exact .inl h1
     ·rw [List.getD_eq_getElem?_getD,List.getElem?_eq_none (by simp; omega)] at h1; cases h1
    ·exact .inr ⟨j,by omega,j2,j3,j4⟩
  ·rcases markGo_from (by omega) h i hi with h1 | ⟨j,j1,j2,j3,j4⟩
   ·exact .inl h1
   ·exact .inr ⟨j,by omega,j2,j3,j4⟩
theorem marks_from {l:List Nf} {t:Nat} {u:List Bool} (ht:t<l.length) (h:marksL l t=some u) {i:Nat} (hi:u.getD i false=true) (hne:i≠t) :
  ∃ j,u.getD j false=true∧(l.getD j nf0).kind=3∧((l.getD j nf0).left=i∨(l.getD j nf0).right=i):=by
 unfold marksL at h;rcases markGo_from (by simp; omega) h i hi with h1 | ⟨j,_,j2,j3,j4⟩
 ·have hl:i<l.length:=by
   by_cases e:i<l.length
   ·exact e
   ·rw [List.getD_eq_getElem?_getD,List.getElem?_eq_none (by simp; omega)] at h1; cases h1
  rw [getD_set _ _ _ (by simpa using hl),decide_eq_false (by omega:¬ t=i),List.getD_eq_getElem?_getD,List.getElem?_replicate] at h1;split at h1 <;> cases h1
 ·exact ⟨j,j2,j3,j4⟩
theorem markGo_full {l:List Nf} {t:Nat} (hl:l.length=t+1) (hb:∀ k,k<l.length→(l.getD k nf0).kind=3→badRef k (l.getD k nf0)=false)
  (hr:∀ k,k<t→∃ j,k<j∧j<l.length∧(l.getD j nf0).kind=3∧((l.getD j nf0).left=k∨(l.getD j nf0).right=k)) :
  ∀ {n:Nat} {u:List Bool},n≤l.length→u.length=l.length→u.getD t false=true →
   (∀ k,n≤k→k<l.length→u.getD k false=true∧((l.getD k nf0).kind=3→u.getD (l.getD k nf0).left.toNat false=true∧u.getD (l.getD k nf0).right.toNat false=true)) →
   ∃ v,markGo l n u=some v∧v.length=l.length∧∀ k,k<l.length→v.getD k false=true
 | 0,u,_,hu,_,h=>⟨u,rfl,hu,fun k hk=>(h k (Nat.zero_le k) hk).1⟩
 | n+1,u,hn,hu,ht,h=>by
  have hnt:u.getD n false=true:=by
   by_cases e:n=t
   ·rw [e]; exact ht
   ·obtain ⟨j,j1,j2,j3,j4⟩:=hr n (by omega)
    have:=(h j (by omega) j2).2 j3
    rcases j4 with j4 | j4
    ·rw [j4,Int.toNat_natCast] at this; exact this.1
    ·rw [j4,Int.toNat_natCast] at this; exact this.2
  unfold markGo;rw [hnt,Bool.true_and]
  by_cases hk:(l.getD n nf0).kind=3
  ·rw [if_pos (decide_eq_true hk),hb n (by omega) hk];rw [if_neg (by decide)];obtain ⟨b1,b2⟩:=bad_false (hb n (by omega) hk);generalize hA:(l.getD n nf0).left.toNat=A;generalize hB:(l.getD n nf0).right.toNat=B;have hg:∀ j,j<u.length→((u.set A true).set B true).getD j false=(decide (B=j)||(decide (A=j)||u.getD j false)):=fun j hj=>by
    rw [getD_set _ _ _ (by simpa using hj),getD_set _ _ _ hj]
   have hup:∀ j,u.getD j false=true→((u.set A true).set B true).getD j false=true:=fun j hj=>by
    by_cases e:j<u.length
    ·rw [hg j e,hj]; simp
    ·rw [List.getD_eq_getElem?_getD,List.getElem?_eq_none (by omega)] at hj; cases hj
   refine markGo_full hl hb hr (by omega) (by simpa using hu) (hup t ht) fun k hk1 hk2=>?_
   by_cases e:k=n
   ·subst e;refine ⟨hup k hnt,fun _=>?_⟩;rw [hA,hB,hg A (by omega),hg B (by omega)];simp
   ·have:=h k (by omega) hk2
    exact ⟨hup k this.1,fun h3=>⟨hup _ (this.2 h3).1,hup _ (this.2 h3).2⟩⟩
  ·rw [if_neg (by simpa using hk)];refine markGo_full hl hb hr (by omega) hu ht fun k hk1 hk2=>?_
   by_cases e:k=n
   ·subst e; exact ⟨hnt,fun h3=>absurd h3 hk⟩
   ·exact h k (by omega) hk2
theorem usedU_full {v:List Bool} {n:Nat} (hl:v.length=n) (h:∀ k,k<n→v.getD k false=true):usedU v=List.range n:=by
 unfold usedU;rw [hl];exact List.filter_eq_self.2 fun i hi=>h i (List.mem_range.1 hi)
theorem posL_range {n:Nat} {z:Int} (h0:0≤z) (h1:z<n):posL (List.range n) z=z:=by
 obtain ⟨k,rfl⟩:=Int.eq_ofNat_of_zero_le h0;obtain ⟨j,hj,hj2⟩:=posL_mem (used:=List.range n) (n:=k) (List.mem_range.2 (by omega));rw [hj];obtain ⟨_,e⟩:=List.getElem?_eq_some_iff.1 hj2;rw [List.getElem_range] at e;omega
theorem trim_facts {x:List Rl} {roots:List Rq} {l:List Nf} {d:List (List Tm)} (h:deriveGo x roots l []=some d) {t:Nat} (ht:t<l.length) :
  ∃ m,(usedL l t).length=m+1∧(trimL l t).length=m+1∧((usedL l t).map fun i=>d.getD i []).getD m []=d.getD t []∧((usedL l t).map fun i=>d.getD i []).length=m+1 ∧
   usedL (trimL l t) m=List.range (m+1)∧trimL (trimL l t) m=trimL l t:=by
 obtain ⟨u,hu,hU⟩:=derive_marks h ht;obtain ⟨hl,h1,h2,h3⟩:=marks_spec ht hu;have hfrom:=fun i=>marks_from (i:=i) ht hu;have hD:=derive_trim h ht;have hT:trimL l t=(usedU u).map fun i=>trimN (usedU u) (l.getD i nf0):=by unfold trimL; rw [hU]
 rw [hT] at hD ⊢;rw [hU] at hD ⊢;have hs:=usedU_sorted u;have hm:∀ i,i ∈ usedU u↔u.getD i false=true:=fun i=>mem_usedU;generalize usedU u=used at hs hm hD;have htm:t ∈ used:=(hm t).2 h1;obtain ⟨m,hlen⟩ : ∃ m,used.length=m+1:=⟨used.length - 1,by have:=List.length_pos_of_mem htm; omega⟩;obtain ⟨k,hk,hk2⟩:=posL_mem htm;obtain ⟨kl,_⟩:=List.getElem?_eq_some_iff.1 hk2
 -- the target is the last one
 have hlast:∀ i a,used[i]?=some a→a≤t:=fun i a ha=>by
  rcases Nat.lt_or_ge t a with e | e
  ·have:=(hm a).1 (List.mem_of_getElem? ha); rw [h2 a e] at this; cases this
  ·exact e
 have hkm:k=m:=by
  rcases Nat.lt_or_ge k m with e | e
  ·obtain ⟨a,ha⟩ : ∃ a,used[k+1]?=some a:=⟨_,List.getElem?_eq_getElem (by omega)⟩;have h5:=hlast _ _ ha;obtain ⟨_,e1⟩:=List.getElem?_eq_some_iff.1 hk2;obtain ⟨_,e2⟩:=List.getElem?_eq_some_iff.1 ha
   have:=List.pairwise_iff_getElem.1 hs k (k+1) kl (by omega) (Nat.lt_succ_self k)
   omega
  ·omega
 subst hkm;generalize hO:(used.map fun i=>trimN used (l.getD i nf0))=own at hD ⊢;have hol:own.length=k+1:=by rw [← hO,List.length_map,hlen]
 have hat:∀ j a,used[j]?=some a→own.getD j nf0=trimN used (l.getD a nf0):=fun j a ha=>getD_of (by rw [← hO,List.getElem?_map,ha]; rfl);have hb:=derive_refs hD;have hfull:∃ v,marksL own k=some v∧v.length=own.length∧∀ j,j<own.length→v.getD j false=true:=by
  unfold marksL;refine markGo_full hol hb (fun j hj=>?_) (by omega) (by simp) (by rw [getD_set _ _ _ (by simp; omega)]; simp) (fun j hj1 hj2=>absurd hj1 (by omega));obtain ⟨a,ha⟩ : ∃ a,used[j]?=some a:=⟨_,List.getElem?_eq_getElem (by omega)⟩;have hau:u.getD a false=true:=(hm a).1 (List.mem_of_getElem? ha);have hat' : a≠t:=fun e=>by
   rw [e] at ha;have h6:=List.pairwise_iff_getElem.1 hs j k (by omega) kl hj;obtain ⟨_,e1⟩:=List.getElem?_eq_some_iff.1 hk2;obtain ⟨_,e2⟩:=List.getElem?_eq_some_iff.1 ha;omega
  obtain ⟨b,b1,b2,b3⟩:=hfrom a hau hat';obtain ⟨jb,hjb,hjb2⟩:=posL_mem ((hm b).2 b1);have hlt:a<b:=by
   obtain ⟨⟨c1,c2⟩,⟨c3,c4⟩,_⟩:=h3 b b1 b2;rcases b3 with b3 | b3 <;> omega
  obtain ⟨jl,_⟩:=List.getElem?_eq_some_iff.1 hjb2;have hpa:posL used a=j:=by
   obtain ⟨j',q1,q2⟩:=posL_mem (List.mem_of_getElem? ha);rw [q1];rcases Nat.lt_trichotomy j j' with e | e | e
   ·obtain ⟨l1,e1⟩:=List.getElem?_eq_some_iff.1 ha;obtain ⟨l2,e2⟩:=List.getElem?_eq_some_iff.1 q2
    have:=List.pairwise_iff_getElem.1 hs j j' l1 l2 e; omega
   ·rw [e]
   ·obtain ⟨l1,e1⟩:=List.getElem?_eq_some_iff.1 ha;obtain ⟨l2,e2⟩:=List.getElem?_eq_some_iff.1 q2
    have:=List.pairwise_iff_getElem.1 hs j' j l2 l1 e; omega
  refine ⟨jb,sorted_lt hs ha hjb2 hlt,by omega,?_,?_⟩
  ·rw [hat jb b hjb2]; unfold trimN; rw [if_pos b2]; exact b2
  ·rw [hat jb b hjb2]; unfold trimN; rw [if_pos b2];rcases b3 with b3 | b3
   ·exact .inl (by dsimp only; rw [b3,hpa])
   ·exact .inr (by dsimp only; rw [b3,hpa])
 obtain ⟨v,hv,hvl,hvt⟩:=hfull;have hUO:usedL own k=List.range (k+1):=by
  unfold usedL;rw [if_neg (by omega),Int.toNat_natCast,hv];exact usedU_full (by omega) (fun j hj=>hvt j (by omega))
 refine ⟨k,hlen,hol,getD_of (by rw [List.getElem?_map,hk2]; rfl),by rw [List.length_map,hlen],hUO,?_⟩;unfold trimL;rw [hUO];refine List.ext_getElem (by rw [List.length_map,List.length_range,hol]) fun j j1 j2=>?_;rw [List.getElem_map,List.getElem_range];have hoj:own.getD j nf0=own[j]:=by rw [List.getD_eq_getElem?_getD,List.getElem?_eq_getElem j2]; rfl
 rw [← hoj];unfold trimN
 by_cases hk3:(own.getD j nf0).kind=3
 ·obtain ⟨⟨c1,c2⟩,⟨c3,c4⟩⟩:=bad_false (hb j j2 hk3);rw [if_pos hk3,posL_range c1 (by omega),posL_range c3 (by omega)]
 ·rw [if_neg hk3]
end Go.Eng

namespace Go.Eng
theorem plc_range (v:Ver):0≤plc v∧plc v<1000000:=by
 unfold plc;split
 ·rename_i h;unfold validB at h;simp only [Bool.and_eq_true,decide_eq_true_eq] at h;obtain ⟨⟨h1,h2⟩,h3⟩:=h;unfold okPart at h1 h2 h3;unfold place;omega
 ·omega
theorem canon_one {p:Int} (h:0≤p∧p<1000000):canon [(p,p+1)]=[(p,p+1)]:=canon_of_canon ⟨h.1,by show p<p+1; omega,by show p+1≤1000000; omega,trivial⟩
theorem spanT_one (m:Int) {p:Int} (_h:0≤p∧p<1000000):spanT m (p,p+1)=plcT m p:=by
 unfold spanT;dsimp only;rw [if_neg (by omega),if_pos rfl]
theorem setT_one (m:Int) {p:Int} (h:0≤p∧p<1000000):setT m [(p,p+1)]=plcT m p:=by
 unfold setT;rw [canon_one h,if_neg (by simp),List.map_singleton,joinB_one,spanT_one m h]
def atT (p:ByteArray) (pl:Int):ByteArray:=if 0≤pl∧pl<1000000 then plcT (majorP p) pl else verT 0 0 0
def atR (p:ByteArray) (pl:Int):ByteArray:=setP p [(pl,pl+1)]
theorem at_eq {p:ByteArray} {pl:Int} (h:0≤pl∧pl<1000000):atT p pl=atR p pl:=by
 unfold atT atR setP;rw [if_pos h,setT_one _ h]
abbrev bOpen:ByteArray:=⟨#[40]⟩
abbrev bClose:ByteArray:=⟨#[41]⟩
abbrev bRoot:ByteArray:=(⟨#[40,114,111,111,116]⟩ : ByteArray)
abbrev bBy:ByteArray:=(⟨#[40,98,121]⟩ : ByteArray)
abbrev bNoOther:ByteArray:=(⟨#[40,110,111,32,111,116,104,101,114,32,114,101,108,101,97,115,101,115,41]⟩ : ByteArray)
abbrev bFrom:ByteArray:=(⟨#[40,102,114,111,109]⟩ : ByteArray)
abbrev bAnd1:ByteArray:=(⟨#[97,110,100]⟩ : ByteArray)
def reasonI (y:Nf):ByteArray :=
 if y.kind=0 then joinB bBlank [bRoot,itB (y.number+1)++bClose]
 else if y.kind=1 then joinB bBlank [bBy,y.path,atT y.path y.place++bClose]
 else if y.kind=2 then bNoOther
 else joinB bBlank [bFrom,itB (y.left+1),bAnd1,itB (y.right+1)++bClose]
abbrev rRoot:ByteArray:=(⟨#[114,111,111,116,32]⟩ : ByteArray)
abbrev rBy:ByteArray:=(⟨#[98,121,32]⟩ : ByteArray)
abbrev rNoOther:ByteArray:=(⟨#[110,111,32,111,116,104,101,114,32,114,101,108,101,97,115,101,115]⟩ : ByteArray)
abbrev rFrom:ByteArray:=(⟨#[102,114,111,109,32]⟩ : ByteArray)
def decZ (n:Int):ByteArray:=decB n.toNat
def reasonR (y:Nf):ByteArray :=
 if y.kind=0 then rRoot++decZ (y.number+1)
 else if y.kind=1 then rBy++y.path++bBlank++atR y.path y.place
 else if y.kind=2 then rNoOther
 else rFrom++decZ (y.left+1)++bAnd++decZ (y.right+1)
def NfOk (y:Nf):Prop:=(y.kind=0→0≤y.number)∧(y.kind=1→0≤y.place∧y.place<1000000)∧(y.kind=3→0≤y.left∧0≤y.right)∧(y.kind=0∨y.kind=1∨y.kind=2∨y.kind=3)
theorem u_root:bRoot++bBlank=bOpen++rRoot:=bext (by decide +kernel)
theorem u_by:bBy++bBlank=bOpen++rBy:=bext (by decide +kernel)
theorem u_no:bNoOther=bOpen++rNoOther++bClose:=bext (by decide +kernel)
theorem u_from:bFrom++bBlank=bOpen++rFrom:=bext (by decide +kernel)
theorem u_and:bBlank++(bAnd1++bBlank)=bAnd:=bext (by decide +kernel)
theorem reason_eq {y:Nf} (h:NfOk y):reasonI y=bOpen++reasonR y++bClose:=by
 obtain ⟨h0,h1,h3,hk⟩:=h;unfold reasonI reasonR
 by_cases k0:y.kind=0
 ·rw [if_pos k0,if_pos k0,joinB_two,itB_eq (by have:=h0 k0; omega),← bapp_assoc,u_root];unfold decZ; simp only [bapp_assoc]
 ·rw [if_neg k0,if_neg k0]
  by_cases k1:y.kind=1
  ·rw [if_pos k1,if_pos k1,joinB_cons,joinB_two,at_eq (h1 k1),← bapp_assoc,u_by];simp only [bapp_assoc]
  ·rw [if_neg k1,if_neg k1]
   by_cases k2:y.kind=2
   ·rw [if_pos k2,if_pos k2,u_no]
   ·rw [if_neg k2,if_neg k2];have k3:y.kind=3:=by omega
    have:=h3 k3
    rw [joinB_cons,joinB_cons,joinB_two,itB_eq (by omega),itB_eq (by omega),← bapp_assoc,u_from,← u_and];unfold decZ; simp only [bapp_assoc]
abbrev bDotBlank:ByteArray:=⟨#[46,32]⟩
def lineI (k:Nat) (t:List Tm) (y:Nf):ByteArray:=joinB bBlank [itB ((k:Int)+1)++bDot,incText t,reasonI y]
def lineR (k:Nat) (t:List Tm) (y:Nf):ByteArray:=decZ ((k:Int)+1)++bDotBlank++incText t++(⟨#[32,40]⟩ : ByteArray)++reasonR y++bClose
theorem line_eq {k:Nat} {t:List Tm} {y:Nf} (h:NfOk y):lineI k t y=lineR k t y:=by
 unfold lineI lineR;rw [joinB_cons,joinB_two,reason_eq h,itB_eq (by omega),show bDotBlank=bDot++bBlank from bext (by decide +kernel),show (⟨#[32,40]⟩ : ByteArray)=bBlank++bOpen from bext (by decide +kernel)];unfold decZ; simp only [bapp_assoc]
theorem infer_ok {x:List Rl} {roots:List Rq} {d:List (List Tm)} {y:Nf} {t:List Tm} (h:inferP x roots d y=some t):NfOk y:=by
 have h':=h;unfold inferP at h
 by_cases k0:y.kind=0
 ·rw [if_pos k0] at h;split at h
  ·cases e:nthZ roots y.number with
   | none=>rw [e] at h; cases h
   | some q=>exact ⟨fun _=>(nthZ_lt e).1,fun k=>by omega,fun k=>by omega,.inl k0⟩
  ·cases h
 ·rw [if_neg k0] at h
  by_cases k1:y.kind=1
  ·rw [if_pos k1] at h;split at h
   ·split at h
    ·cases h
    ·rename_i r hr
     have:=List.find?_some hr
     simp only [Bool.and_eq_true,decide_eq_true_eq] at this;have hp:=plc_range r.ver;exact ⟨fun k=>by omega,fun _=>by omega,fun k=>by omega,.inr (.inl k1)⟩
   ·cases h
  ·rw [if_neg k1] at h
   by_cases k2:y.kind=2
   ·exact ⟨fun k=>by omega,fun k=>by omega,fun k=>by omega,.inr (.inr (.inl k2))⟩
   ·rw [if_neg k2] at h
    by_cases k3:y.kind=3
    ·obtain ⟨a,b,ha,hb,_⟩:=infer_ref h' k3;exact ⟨fun k=>by omega,fun k=>by omega,fun _=>⟨(nthZ_lt ha).1,(nthZ_lt hb).1⟩,.inr (.inr (.inr k3))⟩
    ·rw [if_neg k3] at h; cases h
theorem derive_ok {x:List Rl} {roots:List Rq} {l:List Nf} {d:List (List Tm)} (h:deriveGo x roots l []=some d) {i:Nat} (hi:i<l.length):NfOk (l.getD i nf0):=infer_ok ((derive_at h).2 i hi)
def linesW (f:Nat→List Tm→Nf→ByteArray) (own:List Nf) (d:List (List Tm)):List ByteArray:=(List.range own.length).map fun k=>f k (d.getD k []) (own.getD k nf0)
def linesP (x:List Rl) (roots:List Rq) (l:List Nf) (target:Int):List ByteArray × Int :=
 if (deriveP x roots l).2≠0 then ([],(deriveP x roots l).2)
 else if target<0∨(l.length:Int)≤target then ([],2)
 else (linesW lineI (trimL l target) ((usedL l target).map fun i=>(deriveP x roots l).1.getD i []),0)
end Go.Eng

namespace Go.Eng
abbrev bSkip:ByteArray:=(⟨#[115,107,105,112]⟩ : ByteArray)
abbrev bSelect:ByteArray:=(⟨#[115,101,108,101,99,116]⟩ : ByteArray)
abbrev rSkip:ByteArray:=(⟨#[115,107,105,112,32]⟩ : ByteArray)
abbrev rSelect:ByteArray:=(⟨#[115,101,108,101,99,116,32]⟩ : ByteArray)
abbrev bColon:ByteArray:=⟨#[58]⟩
def verF (v:Ver):ByteArray:=if validB v then verT v.a v.b v.c else mkB []
def incAt (d:List (List Tm)) (i:Int):ByteArray:=incText (d.getD i.toNat [])
def skipI (d:List (List Tm)) (p:ByteArray) (s:Sk):ByteArray:=joinB bBlank [bSkip,p,atT p s.place++bColon,incAt d s.inf]
def selI (p:ByteArray) (v:Ver):ByteArray:=joinB bBlank [bSelect,p,verF v]
def partI (d:List (List Tm)) (sel:List Sl) (skips:List Sk) (p:ByteArray):List ByteArray :=
 (skips.filter fun s=>decide (s.path=p)).map (skipI d p)++[selI p ((findSl sel p).getD sl0).ver]
def ansG (lines:List ByteArray × Int) (part:List (List Tm)→List Sl→List Sk→ByteArray→List ByteArray) (x:List Rl) (roots:List Rq) (a:An):List ByteArray × Int :=
 if checkP x roots a≠0 then ([],checkP x roots a) else if a.found=false then lines
 else ((decisionsP x roots a.sel).1.flatMap (part (deriveP x roots a.infs).1 a.sel a.skips),0)
def ansP (x:List Rl) (roots:List Rq) (a:An):List ByteArray × Int:=ansG (linesP x roots a.infs ((a.infs.length:Int) - 1)) partI x roots a
def SkOk (d:List (List Tm)) (s:Sk):Prop:=(0≤s.place∧s.place<1000000)∧∃ t,nthZ d s.inf=some t
theorem skipGo_used {d:List (List Tm)} {v:Vis} : ∀ {x:List Rl} {k k' : List Sk},skipGo d v x k=(k',true)→∃ u,k=u++k'∧∀ s ∈ u,s.path=v.rel.path∧SkOk d s
 | [],k,k',h=>by cases h; exact ⟨[],rfl,fun _ h=>by cases h⟩
 | o :: x,k,k',h=>by
  unfold skipGo at h;split at h
  ·exact skipGo_used h
  ·split at h
   ·exact skipGo_used h
   ·split at h
    ·cases h
    ·rename_i y k2;split at h
     ·cases h
     ·rename_i hy;simp only [Bool.or_eq_true,Bool.not_eq_true',decide_eq_false_iff_not,not_or,Decidable.not_not] at hy;split at h
      ·cases h
      ·rename_i t ht;split at h
       ·obtain ⟨u,hu,hs⟩:=skipGo_used h;refine ⟨y :: u,by rw [hu]; rfl,fun s hs'=>?_⟩;rcases List.mem_cons.1 hs' with rfl | hs'
        ·refine ⟨hy.1,?_,t,ht⟩;rw [hy.2];exact plc_range o.ver
        ·exact hs s hs'
       ·cases h
theorem skipFold_used {x:List Rl} {d:List (List Tm)} : ∀ {vs:List Vis} {k k' : List Sk},vs.foldl (skipStep x d) (true,k)=(true,k')→∃ u,k=u++k'∧∀ s ∈ u,(∃ v ∈ vs,s.path=v.rel.path)∧SkOk d s
 | [],k,k',h=>by cases h; exact ⟨[],rfl,fun _ h=>by cases h⟩
 | v :: vs,k,k',h=>by
  rw [List.foldl_cons] at h;have hf:∀ (vs:List Vis) (k:List Sk),(vs.foldl (skipStep x d) (false,k)).1=false:=fun vs=>by
   induction vs with
   | nil=>exact fun _=>rfl
   | cons v vs ih=>intro k; rw [List.foldl_cons]; unfold skipStep; rw [Bool.false_and,Bool.false_and]; exact ih _
  cases e:skipGo d v x k with
  | mk k1 b1 =>
   have hst:skipStep x d (true,k) v=(b1&&!v.rel.yanked,k1):=by unfold skipStep; dsimp only; rw [e,Bool.true_and]
   rw [hst] at h;cases hb:(b1&&!v.rel.yanked) with
   | false=>rw [hb] at h; have:=hf vs k1; rw [h] at this; cases this
   | true =>
    rw [hb] at h;rw [Bool.and_eq_true] at hb;obtain ⟨u,hu,hs⟩:=skipFold_used h;rw [hb.1] at e;obtain ⟨u1,hu1,hs1⟩:=skipGo_used e;refine ⟨u1++u,by rw [hu1,hu,List.append_assoc],fun s hs'=>?_⟩;rcases List.mem_append.1 hs' with hs' | hs'
    ·exact ⟨⟨v,List.mem_cons_self ..,(hs1 s hs').1⟩,(hs1 s hs').2⟩
    ·obtain ⟨⟨w,hw,e⟩,h2⟩:=hs s hs';exact ⟨⟨w,List.mem_cons_of_mem _ hw,e⟩,h2⟩
theorem u_skip:bSkip++bBlank=rSkip:=bext (by decide +kernel)
theorem u_select:bSelect++bBlank=rSelect:=bext (by decide +kernel)
end Go.Eng

namespace Go.Eng
theorem bsize_app (a b:ByteArray):(a++b).size=a.size+b.size:=ByteArray.size_append
theorem bsize_mk (l:List UInt8):(mkB l).size=l.length:=by simp [ByteArray.size]
theorem itB_size {n:Int} (h0 : -9223372036854775808≤n) (h1:n≤9223372036854775807):(itB n).size≤21:=by
 unfold itB; rw [bsize_mk]; exact Go.Lib.itoa_length_le n h0 h1
theorem joinB_size (sep:ByteArray) (B:Nat):∀ (l:List ByteArray),(∀ x ∈ l,x.size≤B)→(joinB sep l).size≤l.length*(B+sep.size)
 | [],_=>by simp [joinB_nil,bsize_mk]
 | [x],h=>by rw [joinB_one]; have:=h x (List.mem_singleton.2 rfl); simp; omega
 | x :: y :: r,h=>by
  rw [joinB_cons,bsize_app,bsize_app];have h1:=joinB_size sep B (y :: r) (fun z hz=>h z (List.mem_cons_of_mem _ hz));have h2:=h x (List.mem_cons_self ..);simp only [List.length_cons] at h1 ⊢;rw [Nat.add_mul (r.length+1) 1]; omega
theorem verT_size {a b c:Int} (ha : -1000000000≤a∧a≤1000000000) (hb : -1000000000≤b∧b≤1000000000) (hc : -1000000000≤c∧c≤1000000000):(verT a b c).size≤65:=by
 unfold verT;simp only [bsize_app]
 have:=itB_size (n:=a) (by omega) (by omega)
 have:=itB_size (n:=b) (by omega) (by omega)
 have:=itB_size (n:=c) (by omega) (by omega)
 have:bDot.size=1:=rfl
 omega
theorem plcT_size {m p:Int} (hm:0≤m∧m≤999) (hp:0≤p∧p≤1000000):(plcT m p).size≤65:=verT_size (by omega) (by omega) (by omega)
theorem spanT_size {m:Int} {x:Int × Int} (hm:0≤m∧m≤999) (h1:0≤x.1∧x.1≤1000000) (h2:0≤x.2∧x.2≤1000000):(spanT m x).size≤132:=by
 have:=plcT_size hm h1
 have:=plcT_size hm h2
 have e1:bStar.size=1:=rfl;have e2:bDots.size=2:=rfl;unfold spanT
 repeat' split
 all_goals (try simp only [bsize_app])
 all_goals omega
theorem canonF_rng:∀ {l:SpanL} {lo:Int},CanonF lo l→0≤lo→∀ x ∈ l,(0≤x.1∧x.1≤1000000)∧(0≤x.2∧x.2≤1000000):=by
 intro l
 induction l with
 | nil=>intro lo _ _ x hx; cases hx
 | cons y l ih =>
  intro lo h h0 x hx;obtain ⟨h1,h2,h3,h4⟩:=h;rcases List.mem_cons.1 hx with rfl | hx
  ·omega
  ·exact ih h4 (by omega) x hx
theorem canon_rng {s:SpanL} (h:Canon s):∀ x ∈ s,(0≤x.1∧x.1≤1000000)∧(0≤x.2∧x.2≤1000000):=canonF_rng h (Int.le_refl 0)
theorem setT_size {m:Int} (hm:0≤m∧m≤999) (s:SpanL):(setT m s).size≤135000004:=by
 unfold setT;split
 ·show (4:Nat)≤_; omega
 ·have h:=joinB_size bBar 132 ((canon s).map (spanT m)) (fun x hx=>by
   obtain ⟨y,hy,rfl⟩:=List.mem_map.1 hx
   have:=canon_rng (canon_canon s) y hy
   exact spanT_size hm this.1 this.2)
  have hl:=canon_len (canon_canon s);rw [List.length_map] at h;have e:bBar.size=3:=rfl;rw [e] at h;omega
theorem verL_rng {p:List UInt8} {n:Int} (h:verL p=some n):0≤n∧n≤999:=by
 have dg:∀ {c:UInt8},digitC c=true→48≤(c.toNat:Int)∧(c.toNat:Int)≤57:=fun {c} h=>by
  unfold digitC at h;simp only [Bool.and_eq_true,decide_eq_true_eq,UInt8.le_iff_toNat_le] at h;have h1:(48:UInt8).toNat=48:=rfl;have h2:(57:UInt8).toNat=57:=rfl;omega
 unfold verL at h;split at h
 ·rename_i c r;split at h
  ·split at h
   ·cases h
   ·rename_i hb;simp only [Bool.or_eq_true,not_or,decide_eq_true_eq,Bool.not_eq_true,Bool.not_eq_false'] at hb;obtain ⟨⟨⟨_,h3⟩,_⟩,h4⟩:=hb;have h4:r.all digitC=true:=by simpa using h4
    rw [List.all_eq_true] at h4;cases h
    match r,h3,h4 with
    | [],_,_=>decide
    | [a],_,h4=>have:=dg (h4 a (by simp)); simp only [numL,List.foldl_cons,List.foldl_nil]; omega
    | [a,b],_,h4=>have:=dg (h4 a (by simp)); have:=dg (h4 b (by simp)); simp only [numL,List.foldl_cons,List.foldl_nil]; omega
    | [a,b,c],_,h4=>have:=dg (h4 a (by simp)); have:=dg (h4 b (by simp)); have:=dg (h4 c (by simp)); simp only [numL,List.foldl_cons,List.foldl_nil]; omega
    | _ :: _ :: _ :: _ :: _,h3,_=>simp at h3
  ·cases h
 ·cases h
theorem majorP_rng (p:ByteArray):0≤majorP p∧majorP p≤999:=by
 unfold majorP pathMajor majorL;cases e:verL ((splitL 47 p.data.toList).getLastD []) with
 | none=>simp
 | some n =>
  have:=verL_rng e
  dsimp only;split
  ·simp
  ·split
   ·exact this
   ·simp
theorem termT_size {t:Tm} (h:t.path.size≤1048576):(termT t).size≤140000000:=by
 unfold termT setP;simp only [bsize_app]
 have:=setT_size (majorP_rng t.path) (if t.absent then compl t.set else t.set)
 have e:bBlank.size=1:=rfl;omega
end Go.Eng

namespace Go.Eng
def preB (p s:ByteArray):Bool:=decide (s.data.toList.take p.data.toList.length=p.data.toList)
theorem preB_app (p r:ByteArray):preB p (p++r)=true:=by
 unfold preB;simp
def stepsGo (paths:List ByteArray):List ByteArray→Nat→Nat→Option (Nat × Nat)
 | [],i,k=>some (i,k)
 | s :: r,i,k=>match paths[i]? with
  | none=>none
  | some p=>if preB (rSkip++p++bBlank) s then stepsGo paths r i (k+1) else if preB (rSelect++p++bBlank) s then stepsGo paths r (i+1) k else none
theorem stepsGo_cons (paths:List ByteArray) (s:ByteArray) (r:List ByteArray) (i k:Nat):stepsGo paths (s :: r) i k=match paths[i]? with
  | none=>none
  | some p=>if preB (rSkip++p++bBlank) s then stepsGo paths r i (k+1) else if preB (rSelect++p++bBlank) s then stepsGo paths r (i+1) k else none:=rfl
theorem stepsGo_app (paths:List ByteArray):∀ (a b:List ByteArray) (i k:Nat),stepsGo paths (a++b) i k=match stepsGo paths a i k with | none=>none | some (i',k')=>stepsGo paths b i' k'
 | [],_,_,_=>rfl
 | s :: a,b,i,k=>by
  rw [List.cons_append,stepsGo_cons,stepsGo_cons];cases paths[i]? with
  | none=>rfl
  | some p =>
   dsimp only
   by_cases h1:preB (rSkip++p++bBlank) s=true
   ·rw [if_pos h1,if_pos h1]; exact stepsGo_app paths a b i (k+1)
   ·rw [if_neg h1,if_neg h1]
    by_cases h2:preB (rSelect++p++bBlank) s=true
    ·rw [if_pos h2,if_pos h2]; exact stepsGo_app paths a b (i+1) k
    ·rw [if_neg h2,if_neg h2]
theorem skipI_pre (d:List (List Tm)) (p:ByteArray) (s:Sk):preB (rSkip++p++bBlank) (skipI d p s)=true:=by
 have:skipI d p s=rSkip++p++bBlank++(atT p s.place++bColon++bBlank++incAt d s.inf):=by
  unfold skipI;rw [joinB_cons,joinB_cons,joinB_two,← u_skip];simp only [bapp_assoc]
 rw [this]; exact preB_app _ _
theorem selI_pre (p:ByteArray) (v:Ver):preB (rSelect++p++bBlank) (selI p v)=true:=by
 have:selI p v=rSelect++p++bBlank++verF v:=by
  unfold selI;rw [joinB_cons,joinB_two,← u_select];simp only [bapp_assoc]
 rw [this]; exact preB_app _ _
theorem selI_no (p q:ByteArray) (v:Ver):preB (rSkip++q++bBlank) (selI p v)=false:=by
 have:selI p v=rSelect++(p++bBlank++verF v):=by
  unfold selI;rw [joinB_cons,joinB_two,← u_select];simp only [bapp_assoc]
 rw [this];unfold preB;rw [decide_eq_false_iff_not];intro h;have h1:=congrArg (fun l=>l[1]?) h;simp only [ByteArray.toList_data_append,List.getElem?_take] at h1;have e1:rSkip.data.toList=[115,107,105,112,32]:=by decide +kernel
 have e2:rSelect.data.toList=[115,101,108,101,99,116,32]:=by decide +kernel
 rw [if_pos (by simp only [List.length_append,List.length_cons]; omega)] at h1
 revert h1
 simp
theorem part_steps (d:List (List Tm)) (sel:List Sl) (skips:List Sk) (paths:List ByteArray) {p:ByteArray} {i k:Nat} (hp:paths[i]?=some p) :
  stepsGo paths (partI d sel skips p) i k=some (i+1,k+(skips.filter fun s=>decide (s.path=p)).length):=by
 unfold partI;rw [stepsGo_app];have h1:∀ (l:List Sk) (k:Nat),stepsGo paths (l.map (skipI d p)) i k=some (i,k+l.length):=fun l=>by
  induction l with
  | nil=>intro k; rfl
  | cons s l ih =>
   intro k;rw [List.map_cons];unfold stepsGo;rw [hp];dsimp only;rw [skipI_pre,if_pos rfl,ih (k+1),List.length_cons]
   congr 2; omega
 rw [h1];dsimp only;unfold stepsGo;rw [hp];dsimp only;rw [selI_no,if_neg (by decide),selI_pre,if_pos rfl]
 rfl
theorem parts_steps (d:List (List Tm)) (sel:List Sl) (skips:List Sk) (paths:List ByteArray):∀ (n k:Nat),n≤paths.length →
  stepsGo paths ((paths.take n).flatMap (partI d sel skips)) 0 k=some (n,k+((paths.take n).map fun p=>(skips.filter fun s=>decide (s.path=p)).length).sum)
 | 0,k,_=>rfl
 | n+1,k,h=>by
  rw [take_succ_getD mt (by omega:n<paths.length),List.flatMap_append,stepsGo_app,parts_steps d sel skips paths n k (by omega),List.flatMap_singleton];dsimp only;rw [part_steps d sel skips paths (getD_some mt (by omega)),List.map_append,List.sum_append];simp only [List.map_cons,List.map_nil,List.sum_cons,List.sum_nil]
  congr 2; omega
theorem filter_two:∀ (l:List Sk) (f:Sk→Bool),l.length=(l.filter f).length+(l.filter fun s=>!f s).length
 | [],_=>rfl
 | s :: l,f=>by
  have:=filter_two l f
  rw [List.filter_cons,List.filter_cons];cases f s <;> simp only [Bool.not_true,Bool.not_false,if_true,List.length_cons,Bool.false_eq_true,if_false] <;> omega
theorem sum_filters:∀ (paths:List ByteArray) (skips:List Sk),paths.Nodup→(∀ s ∈ skips,s.path ∈ paths) →
  (paths.map fun p=>(skips.filter fun s=>decide (s.path=p)).length).sum=skips.length
 | [],skips,_,h=>by
  cases skips with
  | nil=>rfl
  | cons s l=>exact absurd (h s (List.mem_cons_self ..)) (by simp)
 | p :: ps,skips,hn,h=>by
  rw [List.nodup_cons] at hn;have ih:=sum_filters ps (skips.filter fun s=>!decide (s.path=p)) hn.2 fun s hs=>by
   obtain ⟨m1,m2⟩:=List.mem_filter.1 hs;rcases List.mem_cons.1 (h s m1) with e | e
   ·rw [e] at m2; simp at m2
   ·exact e
  rw [List.map_cons,List.sum_cons];have e:(ps.map fun q=>(skips.filter fun s=>decide (s.path=q)).length)=ps.map fun q=>((skips.filter fun s=>!decide (s.path=p)).filter fun s=>decide (s.path=q)).length:=by
   refine List.map_congr_left fun q hq=>?_;rw [List.filter_filter];refine congrArg List.length (List.filter_congr fun s _=>?_)
   by_cases e:s.path=q
   ·have:¬ s.path=p:=fun e2=>hn.1 (by rw [← e2,e]; exact hq)
    rw [decide_eq_true e,decide_eq_false this]; rfl
   ·rw [decide_eq_false e,Bool.false_and]
  rw [e,ih]
  have:=filter_two skips (fun s=>decide (s.path=p))
  omega
theorem partI_len (d:List (List Tm)) (sel:List Sl) (skips:List Sk) (p:ByteArray):(partI d sel skips p).length=(skips.filter fun s=>decide (s.path=p)).length+1:=by
 unfold partI; simp
theorem steps_ok {x:List Rl} {roots:List Rq} {a:An} (h:checkP x roots a=0) (hf:a.found=true) :
  (ansP x roots a).2=0∧(ansP x roots a).1.length=a.skips.length+a.sel.length∧(decisionsP x roots a.sel).1.length=a.sel.length ∧
   stepsGo (decisionsP x roots a.sel).1 (ansP x roots a).1 0 0=some ((decisionsP x roots a.sel).1.length,a.skips.length):=by
 obtain ⟨h0,h1 | ⟨h1,⟨l,hR⟩,h2,h3⟩⟩:=checkP_ok h
 ·rw [h1.1] at hf; cases hf
 ·have hvis:(visits x roots a.sel).2=true:=hR.sol0.visits;have hrun:=visits_run hvis;have hdec:(decisionsP x roots a.sel).1=(visits x roots a.sel).1.map fun v=>v.rel.path:=by
   unfold decisionsP;split
   ·rename_i hc;rcases hc with hc | hc | hc
    ·exact absurd hR.sol0.ix hc
    ·exact absurd (deriveP_ok h0).2.1 hc
    ·rw [hR.sol0.inc] at hc; cases hc
   ·rfl
  obtain ⟨u,hu,hs⟩:=skipFold_used h3;rw [List.append_nil] at hu;subst hu;have hA:ansP x roots a=((decisionsP x roots a.sel).1.flatMap (partI (deriveP x roots a.infs).1 a.sel a.skips),0):=by
   unfold ansP ansG;rw [if_neg (by rw [h]; decide),if_neg (by rw [hf]; decide)]
  have hnd:(decisionsP x roots a.sel).1.Nodup:=by
   rw [hdec]
   have:=hrun.nodup
   rw [List.nil_append,List.map_map] at this;exact this
  have hsum:=sum_filters _ _ hnd (fun s hs'=>by
   obtain ⟨⟨v,hv,e⟩,_⟩:=hs s hs';rw [hdec,e];exact List.mem_map.2 ⟨v,hv,rfl⟩)
  have hlen:(decisionsP x roots a.sel).1.length=a.sel.length:=by rw [hdec,List.length_map]; exact hR.sol0.all.2
  rw [hA];refine ⟨rfl,?_,hlen,?_⟩
  ·dsimp only;rw [List.length_flatMap]
   have:((decisionsP x roots a.sel).1.map fun p=>(partI (deriveP x roots a.infs).1 a.sel a.skips p).length)=(decisionsP x roots a.sel).1.map fun p=>(a.skips.filter fun s=>decide (s.path=p)).length+1 :=
    List.map_congr_left fun p _=>partI_len _ _ _ p
   rw [this];have h5:∀ (l:List ByteArray) (f:ByteArray→Nat),(l.map fun p=>f p+1).sum=(l.map f).sum+l.length:=fun l f=>by
    induction l with
    | nil=>rfl
    | cons p l ih=>rw [List.map_cons,List.sum_cons,ih,List.map_cons,List.sum_cons,List.length_cons]; omega
   rw [h5,hsum,hlen]
  ·have:=parts_steps (deriveP x roots a.infs).1 a.sel a.skips (decisionsP x roots a.sel).1 (decisionsP x roots a.sel).1.length 0 (Nat.le_refl _)
   rw [List.take_length,hsum,Nat.zero_add] at this;exact this
end Go.Eng

namespace Go.Eng
end Go.Eng

namespace Go.Eng
def Stop (r:List UInt8):Prop:=r=[]∨∃ c t,r=32 :: c :: t∧c≠124
def shown (t:Tm):SpanL:=if t.absent then compl t.set else t.set
end Go.Eng

namespace Go.Eng
end Go.Eng

namespace Go.Eng
open Go.Lib (lastIndex index cut occAt atoiAll parseUint10 parseMag decDigits)
theorem occ_pre (a sub r:List UInt8):occAt (a++(sub++r)) sub a.length=true:=by
 unfold occAt;rw [List.drop_left];exact List.isPrefixOf_iff_prefix.2 (List.prefix_append sub r)
end Go.Eng

namespace Go.Eng
-- no parenthesis in the text of an incompatibility
end Go.Eng

namespace Go.Eng
open Go.Lib (lastIndex)
end Go.Eng

namespace Go.Eng
abbrev exL2:ByteArray:=(⟨#[51,46,32,97,47,118,49,32,49,46,48,46,48,32,105,115,32,110,101,101,100,101,100,32,40,102,114,111,109,32,49,32,97,110,100,32,50,41]⟩ : ByteArray)
abbrev exL3:ByteArray:=(⟨#[52,46,32,97,47,118,49,32,49,46,48,46,48,32,110,101,101,100,115,32,98,47,118,49,32,49,46,50,46,48,46,46,32,40,98,121,32,97,47,118,49,32,49,46,48,46,48,41]⟩ : ByteArray)
abbrev exL5:ByteArray:=(⟨#[54,46,32,97,47,118,49,32,49,46,48,46,48,32,105,115,32,105,109,112,111,115,115,105,98,108,101,32,40,102,114,111,109,32,52,32,97,110,100,32,53,41]⟩ : ByteArray)
abbrev exL6:ByteArray:=(⟨#[55,46,32,116,104,105,115,32,105,115,32,105,109,112,111,115,115,105,98,108,101,32,40,102,114,111,109,32,51,32,97,110,100,32,54,41]⟩ : ByteArray)
def awake38:Bool :=
 decide ((linesP exIx exRoots exInf 6).2=0)&&decide ((linesP exIx exRoots exInf 6).1.length=7)&&decide ((linesP exIx exRoots exInf 6).1[2]?=some exL2)&&decide ((linesP exIx exRoots exInf 6).1[3]?=some exL3) &&
 decide ((linesP exIx exRoots exInf 6).1[5]?=some exL5)&&decide ((linesP exIx exRoots exInf 6).1[6]?=some exL6)&&decide (usedL exInf 5=[3,4,5])&&decide ((trimL exInf 2).length=3)
theorem awake38_true:awake38=true:=by decide +kernel
theorem refutes_last {d:List (List Tm)} {m:Nat} (h:d.length=m+1):refutedB d=decide (d.getD m []=[]):=by
 unfold refutedB;rw [List.getLast?_eq_getElem?,h,Nat.add_sub_cancel,List.getD_eq_getElem?_getD];cases e:d[m]? with
 | none=>rw [List.getElem?_eq_none_iff] at e; omega
 | some t=>cases t <;> rfl
theorem keeps_ok {x:List Rl} {roots:List Rq} {l:List Nf} (h:(deriveP x roots l).2=0) {t:Nat} (ht:t<l.length) :
  ∃ m,(trimL l t).length=m+1∧(deriveP x roots (trimL l t)).2=0∧(deriveP x roots (trimL l t)).1.length=m+1∧(deriveP x roots (trimL l t)).1.getD m []=(deriveP x roots l).1.getD t [] ∧
   (usedL (trimL l t) m).length=m+1∧trimL (trimL l t) m=trimL l t∧(refutesP x roots (trimL l t)=0↔(deriveP x roots l).1.getD t []=[]):=by
 obtain ⟨h1,h2,h3,h4⟩:=deriveP_ok h;have hD:=derive_trim h4 ht;obtain ⟨m,f1,f2,f3,f4,f5,f6⟩:=trim_facts h4 ht;have hle:(trimL l t).length≤65536:=by
  obtain ⟨u,hu,hU⟩:=derive_marks h4 ht
  have:=(marks_spec ht hu).1
  have h5:(usedL l t).length≤u.length:=by
   rw [hU]; unfold usedU;exact Nat.le_trans (List.length_filter_le _ _) (by rw [List.length_range]; omega)
  omega
 have hP:=deriveP_of h1 h2 hle hD;refine ⟨m,f2,by rw [hP],by rw [hP]; exact f4,by rw [hP]; exact f3,by rw [f5,List.length_range],f6,?_⟩;unfold refutesP;rw [hP];dsimp only;rw [if_neg (by decide),refutes_last f4,f3]
 by_cases e:(deriveP x roots l).1.getD t []=[]
 ·rw [if_pos (by rw [e]; decide)]; exact ⟨fun _=>e,fun _=>rfl⟩
 ·rw [if_neg (by rw [decide_eq_false e]; decide)]; exact ⟨fun h=>absurd h (by decide),fun h=>absurd h e⟩
theorem incText_nil:incText []=bThis:=rfl
theorem last_line {x:List Rl} {roots:List Rq} {l:List Nf} (h:(deriveP x roots l).2=0) (hr:refutedB (deriveP x roots l).1=true) :
  (linesP x roots l ((l.length:Int) - 1)).2=0∧∃ m s,(linesP x roots l ((l.length:Int) - 1)).1.length=m+1∧(linesP x roots l ((l.length:Int) - 1)).1[m]?=some s∧∃ p r:ByteArray,s=p++(bDotBlank++bThis++(⟨#[32,40]⟩ : ByteArray))++r:=by
 obtain ⟨h1,h2,h3,h4⟩:=deriveP_ok h;have hdl:=(derive_at h4).1;have hpos:0<l.length:=by
  rw [← hdl];cases e:(deriveP x roots l).1 with
  | nil=>rw [e] at hr; cases hr
  | cons a b=>simp
 obtain ⟨t,hlt⟩ : ∃ t,l.length=t+1:=⟨l.length - 1,by omega⟩;have htl:t<l.length:=by omega
 have hT:((l.length:Int) - 1)=(t:Int):=by omega
 rw [hT];have hD:=derive_trim h4 htl;obtain ⟨m,f1,f2,f3,f4,_⟩:=trim_facts h4 htl;have e:linesP x roots l t=(linesW lineI (trimL l t) ((usedL l t).map fun i=>(deriveP x roots l).1.getD i []),0):=by
  unfold linesP;rw [if_neg (by rw [h]; decide),if_neg (by omega)]
 rw [e];rw [refutes_last (hdl.trans hlt)] at hr;have hnil:=of_decide_eq_true hr;have hmo:m<(trimL l t).length:=by omega
 refine ⟨rfl,m,lineI m (((usedL l t).map fun i=>(deriveP x roots l).1.getD i []).getD m []) ((trimL l t).getD m nf0),by unfold linesW; rw [List.length_map,List.length_range,f2],by unfold linesW; rw [List.getElem?_map,List.getElem?_range hmo]; rfl,?_⟩;rw [line_eq (derive_ok hD hmo),f3,hnil];unfold lineR;rw [incText_nil];exact ⟨decZ ((m:Int)+1),reasonR ((trimL l t).getD m nf0)++bClose,by simp only [bapp_assoc]⟩
end Go.Eng

namespace Go.Eng
theorem ans_facts {x:List Rl} {roots:List Rq} {a:An} (h:checkP x roots a=0) (hf:a.found=true) :
  (deriveP x roots a.infs).2=0∧(∀ s ∈ a.skips,SkOk (deriveP x roots a.infs).1 s)∧(decisionsP x roots a.sel).2=0∧∀ p ∈ (decisionsP x roots a.sel).1,p ∈ x.map (·.path)∧∃ y,findSl a.sel p=some y:=by
 obtain ⟨h0,h1 | ⟨h1,⟨l,hR⟩,h2,h3⟩⟩:=checkP_ok h
 ·rw [h1.1] at hf; cases hf
 ·have hvis:(visits x roots a.sel).2=true:=hR.sol0.visits;have hrun:=visits_run hvis;have hdec:decisionsP x roots a.sel=((visits x roots a.sel).1.map fun v=>v.rel.path,0):=by
   unfold decisionsP;split
   ·rename_i hc;rcases hc with hc | hc | hc
    ·exact absurd hR.sol0.ix hc
    ·exact absurd (deriveP_ok h0).2.1 hc
    ·rw [hR.sol0.inc] at hc; cases hc
   ·first | rfl | rw [if_pos hvis]
  obtain ⟨u,hu,hs⟩:=skipFold_used h3;rw [List.append_nil] at hu;refine ⟨h0,fun s hs'=>(hs s (hu▸hs')).2,by rw [hdec],fun p hp=>?_⟩;rw [hdec] at hp;obtain ⟨v,hv,rfl⟩:=List.mem_map.1 hp;obtain ⟨hm,hfd⟩:=hrun.mem v hv;exact ⟨List.mem_map.2 ⟨v.rel,(findRl_ok hfd).2.1,rfl⟩,keyR v.rel,findSl_incr hR.sol0.inc hm⟩
end Go.Eng

namespace Go.Eng
open Go.Lib (index occAt)
theorem index_has:∀ (p sub r:List UInt8),0≤index (p++(sub++r)) sub:=fun p sub r=>by
 have h:=occ_pre p sub r;rcases Int.lt_or_le (index (p++(sub++r)) sub) 0 with h1 | h1
 ·exfalso
  have hlast:∃ i,i≤p.length∧occAt (p++(sub++r)) sub i=true∧∀ j,j<i→occAt (p++(sub++r)) sub j=false:=by
   generalize p.length=n at h
   induction n using Nat.strongRecOn with
   | ind n ih =>
    by_cases e:∃ j,j<n∧occAt (p++(sub++r)) sub j=true
    ·obtain ⟨j,j1,j2⟩:=e;obtain ⟨i,i1,i2⟩:=ih j j1 j2;exact ⟨i,by omega,i2⟩
    ·refine ⟨n,Nat.le_refl n,h,fun j hj=>?_⟩;cases e2:occAt (p++(sub++r)) sub j with
     | false=>rfl
     | true=>exact absurd ⟨j,hj,e2⟩ e
  obtain ⟨i,i1,i2,i3⟩:=hlast
  have:=Go.Lib.index_first (s:=p++(sub++r)) (sub:=sub) (by rw [List.length_append]; omega) i2 i3
  omega
 ·exact h1
abbrev bImpossible:ByteArray:=(⟨#[46,32,116,104,105,115,32,105,115,32,105,109,112,111,115,115,105,98,108,101,32,40]⟩ : ByteArray)
theorem l_impossible:bDotBlank++bThis++(⟨#[32,40]⟩ : ByteArray)=bImpossible:=bext (by decide +kernel)
theorem steps_no {x:List Rl} {roots:List Rq} {a:An} (h:checkP x roots a=0) (hf:a.found=false) :
  (ansP x roots a).2=0∧∃ m s,(ansP x roots a).1.length=m+1∧(ansP x roots a).1[m]?=some s∧0≤index s.data.toList bImpossible.data.toList:=by
 obtain ⟨h0,h1 | ⟨h1,_⟩⟩:=checkP_ok h
 ·have e:ansP x roots a=linesP x roots a.infs ((a.infs.length:Int) - 1):=by
   unfold ansP ansG;rw [if_neg (by rw [h]; decide),if_pos hf]
  rw [e];obtain ⟨k1,m,s,k2,k3,p,r,k4⟩:=last_line h0 h1.2.2.2;refine ⟨k1,m,s,k2,k3,?_⟩;rw [k4,l_impossible,bapp_assoc,ByteArray.toList_data_append,ByteArray.toList_data_append];exact index_has _ _ _
 ·rw [h1] at hf; cases hf
end Go.Eng
