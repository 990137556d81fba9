/- Lemmas for the claims of this seat, without a condition: part 19 (C41, C42, C43, C44, C45, C46). -/
import Derived.Test.YtpgfieopnnkpfaaGreatDoorNA18
import Derived.Lib.LastIndexLaws
namespace Go.Eng
open Go.Proofs
theorem preL_eq:∀ x y:List UInt8,preL x y=x.isPrefixOf y
 | [],_=>by simp [preL]
 | _ :: _,[]=>rfl
 | a :: x,b :: y=>by
  rw [preL,List.isPrefixOf_cons_cons,preL_eq x y]
  rfl
theorem inL_eq (x:List UInt8):∀ y:List UInt8,inL x y=Go.Lib.contains y x
 | []=>by
  unfold Go.Lib.contains Go.Lib.index;cases x <;> rfl
 | b :: y=>by
  rw [inL,preL_eq,inL_eq x y];unfold Go.Lib.contains;have hg:=Go.Lib.index_ge y x
  conv=>rhs; unfold Go.Lib.index
  cases h:x.isPrefixOf (b :: y) with
  | true=>simp
  | false =>
   simp only [Bool.false_or,Bool.false_eq_true,if_false]
   by_cases h0:Go.Lib.index y x=-1
   ·rw [h0]; rfl
   ·have h1:(Go.Lib.index y x == -1)=false:=by simpa using h0
    rw [h1];simp only [Bool.false_eq_true,if_false];rw [decide_eq_true (by omega),decide_eq_true (by omega)]
theorem headD_zero:∀ (l:List UInt8) (h:0<l.length),l.headD 0=l[0]
 | [],h=>by simp at h
 | _ :: _,_=>rfl
abbrev keyBA:ByteArray:=⟨⟨keyTxt⟩⟩
theorem c244 (s:ByteArray) (hs:FewS s):PC 200 [vs s] (vb (keyB s.data.toList)):=by
 unfold FewS at hs;have hc:=c262 keyBA ((⟨#[32]⟩++s)++⟨#[32]⟩) (Nat.le_of_ble_eq_true (by kernel_rfl));have e:Go.Lib.contains keyBA.data.toList ((⟨#[32]⟩++s:ByteArray)++⟨#[32]⟩).data.toList=keyB s.data.toList:=by
  unfold keyB;rw [inL_eq]
  congr 1
 rw [e] at hc;refine Ps pl0 Tryz.func200 rfl (Nz rfl) ?_;refine Yi (by show (((1+s.size:Nat)):Int)≤_; omega) ?_;refine Yi (by show (((⟨#[32]⟩++s:ByteArray).size+1:Nat):Int)≤_; rw [ByteArray.size_append]; show (((1+s.size)+1:Nat):Int)≤_; omega) ?_;refine Xi .pure (Xi _ (Yi (hc) ?_));exact .refl _
theorem c214 (s:ByteArray) (hs:FewS s):PC 125 [vs s] (vb (isNameL s.data.toList)):=by
 have hk:=c244 s hs;have hw:=c215 s 199 wordC c243 (by unfold FewS at hs; simp; omega);have hsz:s.size=s.data.toList.length:=by simp
 have en:isNameL s.data.toList=(!s.data.toList.isEmpty&&decide (s.data.toList.length≤32)&&smallC (s.data.toList.headD 0)&&s.data.toList.all wordC&&!keyB s.data.toList):=rfl
 by_cases h0:s=⟨#[]⟩
 ·subst h0;refine Ps pl0 Tryz.func125 rfl (Nz rfl) ?_;refine Yi ?_ ?_
  ·intro h; exact absurd rfl (show (⟨#[]⟩ : ByteArray)≠⟨#[]⟩ from h)
  ·intro _; exact .refl _
 have h0' : s.data.toList≠[]:=fun e=>h0 (by
  have:s.data=#[]:=by rw [← Array.toList_inj]; exact e
  cases s; simp_all)
 have hlen:0<s.data.toList.length:=List.length_pos_iff.2 h0';have hemp:s.data.toList.isEmpty=false:=by
  cases hl:s.data.toList with
  | nil=>exact absurd hl h0'
  | cons a l=>rfl
 have hhd:s.data.toList.headD 0=s.data.toList[0]:=headD_zero _ hlen;have hsm:=c217 s.data.toList[0];refine Ps pl0 Tryz.func125 rfl (Nz rfl) ?_;refine Yi ?_ ?_
 rotate_left
 ·intro h; exact absurd h0 h
 intro _;refine Yi ?_ ?_
 rotate_left
 ·intro h;have h:¬ ((s.size:Nat):Int)≤32:=h;exact .of_eq (congrArg vb (show false=isNameL s.data.toList by rw [en,decide_eq_false (by omega:¬ s.data.toList.length≤32)]; simp))
 intro h;have h:((s.size:Nat):Int)≤32:=h;refine Xi s.data.toList[0] (Yi ⟨Int.le_refl _,at_data s 0 hlen⟩ ?_);refine Or.elim (Bt (smallC s.data.toList[0])) (fun e1=>?_) (fun e1=>?_)
 rotate_left
 ·rw [e1] at hsm;refine Xi .pure (Xi _ (Yi (hsm) ?_));exact .of_eq (congrArg vb (show false=isNameL s.data.toList by rw [en,hhd,e1]; simp))
 rw [e1] at hsm;refine Xi .pure (Xi _ (Yi (hsm) ?_));refine Or.elim (Bt (s.data.toList.all wordC)) (fun e2=>?_) (fun e2=>?_)
 rotate_left
 ·rw [e2] at hw;refine Xi .pure (Xi _ (Yi (hw) ?_));exact .of_eq (congrArg vb (show false=isNameL s.data.toList by rw [en,e2]; simp))
 rw [e2] at hw;refine Xi .pure (Xi _ (Yi (hw) ?_));have ef:isNameL s.data.toList=!keyB s.data.toList:=by rw [en,hemp,hhd,e1,e2,decide_eq_true (by omega:s.data.toList.length≤32)]; rfl
 refine Or.elim (Bt (keyB s.data.toList)) (fun e3=>?_) (fun e3=>?_)
 ·rw [e3] at hk;refine Xi .pure (Xi _ (Yi (hk) ?_));exact .of_eq (congrArg vb (show false=isNameL s.data.toList by rw [ef,e3]; rfl))
 ·rw [e3] at hk;refine Xi .pure (Xi _ (Yi (hk) ?_));exact .of_eq (congrArg vb (show true=isNameL s.data.toList by rw [ef,e3]; rfl))
end Go.Eng

namespace Go.Eng
open Go.Proofs
abbrev verV:Option Int→AV
 | some n=>.tup [vi n,vb true]
 | none=>.tup [vi 0,vb false]
theorem wrap_u8 {z:Int} (h0:0≤z) (h1:z<256):IntKind.u8.wrap z=z:=by
 show z % 256=z;omega
theorem digit_rng {c:UInt8} (h:digitC c=true):48≤c.toNat∧c.toNat≤57:=by
 unfold digitC at h;simp only [Bool.and_eq_true,decide_eq_true_eq] at h;exact ⟨UInt8.le_iff_toNat_le.1 h.1,UInt8.le_iff_toNat_le.1 h.2⟩
theorem numL_take (r:List UInt8) (i:Nat) (h:i<r.length):numL (r.take (i+1))=10*numL (r.take i)+((r[i].toNat:Int) - 48):=by
 unfold numL; rw [List.take_add_one,Ge h,List.foldl_append]; rfl
theorem c213 (s:ByteArray) (hs:FewS s):PC 124 [vs s] (verV (verL s.data.toList)):=by
 unfold FewS at hs;have hc:=c242 s ⟨#[118]⟩
 by_cases hp:∃ r,s.data.toList=118 :: r
 ·obtain ⟨r,hr⟩:=hp;have e1:Go.Lib.hasPrefix s.data.toList (⟨#[118]⟩ : ByteArray).data.toList=true:=by rw [hr]; rfl
  have e2:Go.Lib.trimPrefix s.data.toList (⟨#[118]⟩ : ByteArray).data.toList=r:=by unfold Go.Lib.trimPrefix; rw [e1,if_pos rfl,hr]; rfl
  rw [e1,e2] at hc;have hv:verL s.data.toList=if (r.isEmpty||decide (3<r.length)||(decide (1<r.length)&&decide (r.headD 0=48))||!r.all digitC)=true then none else some (numL r):=by rw [hr]; rfl
  have hrl:r.length<s.size:=by
   have:s.size=s.data.toList.length:=by simp
   rw [this,hr]; simp
  generalize hB:(⟨r.toArray⟩ : ByteArray)=rB at hc;have hBl:rB.data.toList=r:=by rw [← hB]
  have hBs:rB.size=r.length:=by rw [← hB]; rfl
  have hw:=c215 rB 129 digitC c218 (by rw [hBl]; omega);rw [hBl] at hw;have no:∀ {b:Bool},b=true→(if b=true then none else some (numL r))=(none:Option Int):=fun h=>if_pos h;refine Ps (plcut [2,4]) Tryz.func124 rfl (Nz rfl) ?_;refine Xi .pure (Xi _ (Yi (hc) ?_));refine Xi ⟨[(0,vs rB),(4,vb true)],[],hfree⟩ (Yi ⟨Z2,Tv,Fh,Tv⟩ ?_)
  refine Yi ?_ ?_
  ·intro h;have h:rB=⟨#[]⟩:=h
   have:r=[]:=by rw [← hBl,h]
   exact .of_eq (congrArg verV (show (none:Option Int)=verL s.data.toList by rw [hv,this]; rfl))
  intro h;have h:¬ rB=⟨#[]⟩:=h;have hne:r≠[]:=fun e=>h (by rw [← hB,e]);have hlen:0<r.length:=List.length_pos_iff.2 hne;have hemp:r.isEmpty=false:=by
   cases hl:r with
   | nil=>exact absurd hl hne
   | cons a l=>rfl
  refine Yi ?_ ?_
  ·intro h2;have h2:(3:Int)<((rB.size:Nat):Int):=h2;exact .of_eq (congrArg verV (show (none:Option Int)=verL s.data.toList by rw [hv,no]; rw [decide_eq_true (by omega:3<r.length)]; simp))
  intro h2;have h2:¬ (3:Int)<((rB.size:Nat):Int):=h2;have hl3:r.length≤3:=by omega
  have d3:decide (3<r.length)=false:=decide_eq_false (by omega);refine Yi ?_ ?_
  ·intro h3;have h3:(1:Int)<((rB.size:Nat):Int):=h3;have hat0:rB.data[(0:Int).toNat]?=some r[0]:=by
    show rB.data[0]?=_;rw [← Array.getElem?_toList,hBl]; exact Ge hlen
   refine Xi r[0] (Yi ⟨Int.le_refl _,hat0⟩ ?_);have hh:=headD_zero r hlen;refine Yi ?_ ?_
   ·intro h4;have h4:(r[0].toNat:Int)=48:=h4
    have:r[0]=48:=UInt8.toNat_inj.1 (by show r[0].toNat=48; omega)
    exact .of_eq (congrArg verV (show (none:Option Int)=verL s.data.toList by rw [hv,hh,this,decide_eq_true (by omega:1<r.length)]; simp))
   intro h4;have h4:¬ (r[0].toNat:Int)=48:=h4;have eo:(decide (1<r.length)&&decide (r.headD 0=48))=false:=by rw [hh,decide_eq_false (show ¬ r[0]=48 from fun e=>h4 (by rw [e]; rfl)),Bool.and_false]
   have hv2:verL s.data.toList=if (!r.all digitC)=true then none else some (numL r):=by rw [hv,hemp,d3,eo]; rfl
   refine Or.elim (Bt (r.all digitC)) (fun e3=>?_) (fun e3=>?_)
   rotate_left
   ·rw [e3] at hw;refine Xi .pure (Xi _ (Yi (hw) ?_));exact .of_eq (congrArg verV (show (none:Option Int)=verL s.data.toList by rw [hv2,e3]; rfl))
   rw [e3] at hw;refine Xi .pure (Xi _ (Yi (hw) ?_));have hv3:verL s.data.toList=some (numL r):=by rw [hv2,e3]; rfl
   refine Xi ⟨[(0,vs rB)],[],hfree⟩ (Yi ⟨Z1,Tv,Fh,Tv⟩ ?_)
   have z0:numL (r.take 0)=0:=rfl;refine Xi {i:Nat // i≤r.length∧0≤numL (r.take i)∧(i=0→numL (r.take i)≤0)∧(i≤1→numL (r.take i)≤9)∧(i≤2→numL (r.take i)≤99)∧numL (r.take i)≤999} (Xi (fun i=>⟨[(0,vs rB),(5,vi (numL (r.take i.1))),(39,vi rB.size),(40,vi i.1)],[],hfree⟩) (Xi (fun i=>r.length - i.1) (Yi (Xi ⟨0,Nat.zero_le _,by omega,fun _=>by omega,fun _=>by omega,fun _=>by omega,by omega⟩ ?_) ?_)))
   ·exact ⟨Z4,Tv,Fh,Tv⟩
   intro ⟨i,i1,i2,i3,i4,i5,i6⟩;refine Yi ?_ ?_
   ·intro h;have h:(i:Int)<(rB.size:Nat):=h;have h:i<r.length:=by omega
    have hdg:digitC r[i]=true:=List.all_eq_true.1 e3 _ (List.getElem_mem h);have hdr:=digit_rng hdg;have hnx:=numL_take r i h;have hwr:IntKind.u8.wrap ((r[i].toNat:Int) - 48)=(r[i].toNat:Int) - 48:=wrap_u8 (by omega) (by omega);have hat:rB.data[((i:Nat):Int).toNat]?=some r[i]:=by rw [Int.toNat_natCast,← Array.getElem?_toList,hBl]; exact Ge h
    refine Yi (by show InI64 (10*numL (r.take i)); unfold InI64; omega) ?_;refine Xi r[i] (Yi ⟨by show (0:Int)≤i; omega,hat⟩ ?_);refine Yi (by show InI64 (IntKind.u8.wrap ((r[i].toNat:Int) - 48)); rw [hwr]; unfold InI64; omega) ?_;refine Yi (by show InI64 (10*numL (r.take i)+IntKind.u8.wrap ((r[i].toNat:Int) - 48)); rw [hwr]; unfold InI64; omega) ?_;refine Yi (Ii i (by omega)) ?_;have e5:vi (10*numL (r.take i)+IntKind.u8.wrap ((r[i].toNat:Int) - 48))=vi (numL (r.take (i+1))):=by rw [hwr,hnx]
    refine Xi ⟨i+1,by omega,by omega,fun _=>by omega,fun _=>by omega,fun _=>by omega,by omega⟩ ?_;exact ⟨Dl r.length i (by omega),⟨Zr,⟨e5,rfl⟩,Zr,Zr,Tv⟩,Tv,Fh,Tv⟩
   ·intro h;have h:¬ (i:Int)<(rB.size:Nat):=h;have e6:AV.tup [vi (numL (r.take i)),vb true]=verV (verL s.data.toList):=by rw [hv3,List.take_of_length_le (by omega)]
    exact .of_eq e6
  ·intro h3;have h3:¬ (1:Int)<((rB.size:Nat):Int):=h3;have eo:(decide (1<r.length)&&decide (r.headD 0=48))=false:=by rw [decide_eq_false (by omega:¬ 1<r.length)]; rfl
   have hv2:verL s.data.toList=if (!r.all digitC)=true then none else some (numL r):=by rw [hv,hemp,d3,eo]; rfl
   refine Or.elim (Bt (r.all digitC)) (fun e3=>?_) (fun e3=>?_)
   rotate_left
   ·rw [e3] at hw;refine Xi .pure (Xi _ (Yi (hw) ?_));exact .of_eq (congrArg verV (show (none:Option Int)=verL s.data.toList by rw [hv2,e3]; rfl))
   rw [e3] at hw;refine Xi .pure (Xi _ (Yi (hw) ?_));have hv3:verL s.data.toList=some (numL r):=by rw [hv2,e3]; rfl
   refine Xi ⟨[(0,vs rB)],[],hfree⟩ (Yi ⟨Z1,Tv,Fh,Tv⟩ ?_)
   have z0:numL (r.take 0)=0:=rfl;refine Xi {i:Nat // i≤r.length∧0≤numL (r.take i)∧(i=0→numL (r.take i)≤0)∧(i≤1→numL (r.take i)≤9)∧(i≤2→numL (r.take i)≤99)∧numL (r.take i)≤999} (Xi (fun i=>⟨[(0,vs rB),(5,vi (numL (r.take i.1))),(39,vi rB.size),(40,vi i.1)],[],hfree⟩) (Xi (fun i=>r.length - i.1) (Yi (Xi ⟨0,Nat.zero_le _,by omega,fun _=>by omega,fun _=>by omega,fun _=>by omega,by omega⟩ ?_) ?_)))
   ·exact ⟨Z4,Tv,Fh,Tv⟩
   intro ⟨i,i1,i2,i3,i4,i5,i6⟩;refine Yi ?_ ?_
   ·intro h;have h:(i:Int)<(rB.size:Nat):=h;have h:i<r.length:=by omega
    have hdg:digitC r[i]=true:=List.all_eq_true.1 e3 _ (List.getElem_mem h);have hdr:=digit_rng hdg;have hnx:=numL_take r i h;have hwr:IntKind.u8.wrap ((r[i].toNat:Int) - 48)=(r[i].toNat:Int) - 48:=wrap_u8 (by omega) (by omega);have hat:rB.data[((i:Nat):Int).toNat]?=some r[i]:=by rw [Int.toNat_natCast,← Array.getElem?_toList,hBl]; exact Ge h
    refine Yi (by show InI64 (10*numL (r.take i)); unfold InI64; omega) ?_;refine Xi r[i] (Yi ⟨by show (0:Int)≤i; omega,hat⟩ ?_);refine Yi (by show InI64 (IntKind.u8.wrap ((r[i].toNat:Int) - 48)); rw [hwr]; unfold InI64; omega) ?_;refine Yi (by show InI64 (10*numL (r.take i)+IntKind.u8.wrap ((r[i].toNat:Int) - 48)); rw [hwr]; unfold InI64; omega) ?_;refine Yi (Ii i (by omega)) ?_;have e5:vi (10*numL (r.take i)+IntKind.u8.wrap ((r[i].toNat:Int) - 48))=vi (numL (r.take (i+1))):=by rw [hwr,hnx]
    refine Xi ⟨i+1,by omega,by omega,fun _=>by omega,fun _=>by omega,fun _=>by omega,by omega⟩ ?_;exact ⟨Dl r.length i (by omega),⟨Zr,⟨e5,rfl⟩,Zr,Zr,Tv⟩,Tv,Fh,Tv⟩
   ·intro h;have h:¬ (i:Int)<(rB.size:Nat):=h;have e6:AV.tup [vi (numL (r.take i)),vb true]=verV (verL s.data.toList):=by rw [hv3,List.take_of_length_le (by omega)]
    exact .of_eq e6
 ·have e1:Go.Lib.hasPrefix s.data.toList (⟨#[118]⟩ : ByteArray).data.toList=false:=by
   cases hl:s.data.toList with
   | nil=>rfl
   | cons a l =>
    have:a≠118:=fun e=>hp ⟨l,by rw [hl,e]⟩
    show (List.isPrefixOf [118] (a :: l))=false;rw [List.isPrefixOf_cons_cons]
    have:((118:UInt8) == a)=false:=by rw [beq_eq_false_iff_ne]; exact fun e=>this e.symm
    rw [this]; rfl
  have hv:verL s.data.toList=none:=by
   cases hl:s.data.toList with
   | nil=>rfl
   | cons a l =>
    have:a≠118:=fun e=>hp ⟨l,by rw [hl,e]⟩
    show (if a=118 then _ else none)=none;rw [if_neg this]
  rw [e1] at hc;refine Ps pl0 Tryz.func124 rfl (Nz rfl) ?_;refine Xi .pure (Xi _ (Yi (hc) ?_));exact .of_eq (congrArg verV hv.symm)
end Go.Eng

namespace Go.Eng
open Go.Proofs
abbrev majV:Option Int→AV
 | some n=>.tup [vi n,vi 0]
 | none=>.tup [vi 0,vi 4]
theorem splitL_len (c:UInt8):∀ (s x:List UInt8),x ∈ splitL c s→x.length≤s.length
 | [],x,h=>by
  rw [splitL] at h; rw [List.mem_singleton.1 h]; exact Nat.le_refl _
 | b :: r,x,h=>by
  have ih:=splitL_len c r;rw [splitL] at h;split at h
  ·rcases List.mem_cons.1 h with rfl | h
   ·exact Nat.zero_le _
   ·have:=ih x h; rw [List.length_cons]; omega
  ·split at h
   ·rw [List.mem_singleton.1 h]; rw [List.length_cons]; simp
   ·rename_i y l e;rcases List.mem_cons.1 h with rfl | h
    ·have:=ih y (by rw [e]; exact List.mem_cons_self ..); rw [List.length_cons,List.length_cons]; omega
    ·have:=ih x (by rw [e]; exact List.mem_cons_of_mem _ h); rw [List.length_cons]; omega
theorem part_few {p x:ByteArray} (hp:FewS p) (hx:x ∈ partsB p):FewS x:=by
 have h:x.data.toList ∈ splitL 47 p.data.toList:=by rw [← parts_eq]; exact List.mem_map.2 ⟨x,hx,rfl⟩
 have:=splitL_len 47 _ _ h
 unfold FewS at *
 have e1:x.size=x.data.toList.length:=by simp
 have e2:p.size=p.data.toList.length:=by simp
 omega
theorem parts_len (p:ByteArray):(partsB p).length=(splitL 47 p.data.toList).length:=by rw [← parts_eq,Lm]
theorem parts_pos (p:ByteArray):0<(partsB p).length:=by
 rw [show (partsB p).length=Go.Lib.countB p b47+1 from Go.Lib.splitB_all b47 (by decide) 0 _ p rfl]; omega
theorem parts_few (p:ByteArray):(partsB p).length≤p.size+1:=by
 rw [show (partsB p).length=Go.Lib.countB p b47+1 from Go.Lib.splitB_all b47 (by decide) 0 _ p rfl]
 have:=Go.Lib.countB_le b47 (by decide) p.size p (Nat.le_refl _); omega
theorem parts_last (p:ByteArray) (h:(partsB p).length - 1<(partsB p).length):(splitL 47 p.data.toList).getLastD []=((partsB p)[(partsB p).length - 1]).data.toList:=by
 rw [← parts_eq,List.getLastD_eq_getLast?,List.getLast?_eq_getElem?,Lm,List.getElem?_map,Ge h]; rfl
theorem parts_all (p:ByteArray):(splitL 47 p.data.toList).all segOk=(partsB p).all fun x=>segOk x.data.toList:=by
 rw [← parts_eq,List.all_map]; rfl
theorem c186 (p:ByteArray) (hp:FewS p):PC 73 [vs p] (majV (pathMajor p)):=by
 have hps:=parts_few p;have hpos:=parts_pos p;have hp1:(partsB p).length - 1<(partsB p).length:=by omega
 have hsz:p.size=p.data.toList.length:=by simp
 have hfp:∀ {x},x ∈ partsB p→FewS x:=fun h=>part_few hp h;unfold FewS at hp;have hg1:((partsB p).map encS)[((((partsB p).map encS).length:Int) - 1).toNat]?=some (encS (partsB p)[(partsB p).length - 1]):=by
  rw [Lm,show (((partsB p).length:Int) - 1).toNat=(partsB p).length - 1 by omega]; exact map_at (Ge hp1)
 have hv:=c213 (partsB p)[(partsB p).length - 1] (hfp (List.getElem_mem hp1));have em:pathMajor p=match verL ((partsB p)[(partsB p).length - 1]).data.toList with
  | none=>none
  | some n=>if (decide (64<p.data.toList.length)||decide ((partsB p).length<2))=true then none else if ((partsB p).all fun x=>segOk x.data.toList)=true then some n else none:=by
  unfold pathMajor majorL;rw [parts_last p hp1,parts_all,← parts_len];cases verL ((partsB p)[(partsB p).length - 1]).data.toList with
  | none=>rfl
  | some n=>rfl
 cases hve:verL ((partsB p)[(partsB p).length - 1]).data.toList with
 | none =>
  rw [hve] at hv em;refine Ps (plcut [2,3]) Tryz.func73 rfl (Nz rfl) ?_;refine Xi .pure (Xi _ (Yi (c212 p hp) ?_));refine Xi ⟨[(0,vs p),(4,sl encS (partsB p))],[],hfree⟩ (Yi ⟨Z2,Tv,Fh,Tv⟩ ?_)
  refine Yi (by show InI64 ((((partsB p).map encS).length:Int) - 1); unfold InI64; rw [Lm]; omega) ?_;refine Xi (encS (partsB p)[(partsB p).length - 1]) (Yi (Yi (by show (0:Int)≤(((partsB p).map encS).length:Int) - 1; rw [Lm]; omega) hg1) (Yi rfl ?_));refine Xi .pure (Xi _ (Yi (hv) ?_));refine Xi ⟨[(0,vs p),(4,sl encS (partsB p)),(5,vi 0),(6,vb false)],[],hfree⟩ (Yi ⟨Z4,Tv,Fh,Tv⟩ ?_)
  exact .of_eq (congrArg majV em.symm)
 | some n =>
  rw [hve] at hv em;have em:pathMajor p=if (decide (64<p.data.toList.length)||decide ((partsB p).length<2))=true then none else if ((partsB p).all fun x=>segOk x.data.toList)=true then some n else none:=em
  refine Ps (plcut [2,3,5]) Tryz.func73 rfl (Nz rfl) ?_;refine Xi .pure (Xi _ (Yi (c212 p hp) ?_));refine Xi ⟨[(0,vs p),(4,sl encS (partsB p))],[],hfree⟩ (Yi ⟨Z2,Tv,Fh,Tv⟩ ?_)
  refine Yi (by show InI64 ((((partsB p).map encS).length:Int) - 1); unfold InI64; rw [Lm]; omega) ?_;refine Xi (encS (partsB p)[(partsB p).length - 1]) (Yi (Yi (by show (0:Int)≤(((partsB p).map encS).length:Int) - 1; rw [Lm]; omega) hg1) (Yi rfl ?_));refine Xi .pure (Xi _ (Yi (hv) ?_));refine Xi ⟨[(0,vs p),(4,sl encS (partsB p)),(5,vi n),(6,vb true)],[],hfree⟩ (Yi ⟨Z4,Tv,Fh,Tv⟩ ?_)
  refine Yi ?_ ?_
  ·intro h;have h:(64:Int)<((p.size:Nat):Int):=h;exact .of_eq (congrArg majV (show (none:Option Int)=pathMajor p by rw [em,decide_eq_true (by omega:64<p.data.toList.length)]; rfl))
  intro h;have h:¬ (64:Int)<((p.size:Nat):Int):=h;have d1:decide (64<p.data.toList.length)=false:=decide_eq_false (by omega);refine Yi ?_ ?_
  ·intro h2;have h2:(((partsB p).map encS).length:Int)<2:=h2;rw [Lm] at h2;exact .of_eq (congrArg majV (show (none:Option Int)=pathMajor p by rw [em,d1,decide_eq_true (by omega:(partsB p).length<2)]; rfl))
  intro h2;have h2:¬ (((partsB p).map encS).length:Int)<2:=h2;have d2:decide ((partsB p).length<2)=false:=decide_eq_false (by rw [Lm] at h2; omega);have em2:pathMajor p=if ((partsB p).all fun x=>segOk x.data.toList)=true then some n else none:=by rw [em,d1,d2]; rfl
  refine Xi ⟨[(4,sl encS (partsB p)),(5,vi n)],[],hfree⟩ (Yi ⟨Z2,Tv,Fh,Tv⟩ ?_)
  refine Xi {i:Nat // i≤(partsB p).length∧∀ j (hj:j<(partsB p).length),j<i→segOk ((partsB p)[j]).data.toList=true} (Xi (fun i=>⟨[(5,vi n),(33,sl encS (partsB p)),(34,vi ((partsB p).map encS).length),(35,vi i.1)],[],hfree⟩) (Xi (fun i=>(partsB p).length - i.1) (Yi (Xi ⟨0,Nat.zero_le _,fun j _ h=>by omega⟩ ?_) ?_)))
  ·exact ⟨Z4,Tv,Fh,Tv⟩
  intro ⟨i,i1,i2⟩;refine Yi ?_ ?_
  ·intro h;have h:(i:Int)<((partsB p).map encS).length:=h;have h:i<(partsB p).length:=by simpa using h
   have hg:(partsB p)[i]?=some (partsB p)[i]:=Ge h;refine Xi (encS (partsB p)[i]) (Yi (Yi (Nn i) (by simp [hg])) (Yi rfl ?_));have hfi:=hfp (List.getElem_mem h);have hn:=c214 (partsB p)[i] hfi;have ha:=c215 (partsB p)[i] 127 segC c216 (by unfold FewS at hfi; have e1:(partsB p)[i].size=(partsB p)[i].data.toList.length:=(by simp); omega);have no:segOk ((partsB p)[i]).data.toList=false→(none:Option Int)=pathMajor p:=fun e=>by
    rw [em2,if_neg];intro hall
    have:=List.all_eq_true.1 hall _ (List.getElem_mem h)
    rw [e] at this; cases this
   refine Or.elim (Bt (isNameL ((partsB p)[i]).data.toList)) (fun e1=>?_) (fun e1=>?_)
   rotate_left
   ·rw [e1] at hn;refine Xi .pure (Xi _ (Yi (hn) ?_));exact .of_eq (congrArg majV (no (by unfold segOk; rw [e1]; rfl)))
   rw [e1] at hn;refine Xi .pure (Xi _ (Yi (hn) ?_));refine Or.elim (Bt (((partsB p)[i]).data.toList.all segC)) (fun e2=>?_) (fun e2=>?_)
   rotate_left
   ·rw [e2] at ha;refine Xi .pure (Xi _ (Yi (ha) ?_));exact .of_eq (congrArg majV (no (by unfold segOk; rw [e1]; exact e2)))
   rw [e2] at ha;refine Xi .pure (Xi _ (Yi (ha) ?_));refine Yi (Ii i (by omega)) ?_;refine Xi ⟨i+1,by omega,fun j hj hji=>?_⟩ ?_
   ·rcases Nat.lt_or_ge j i with z | z
    ·exact i2 j hj z
    ·have:j=i:=by omega
     subst this; unfold segOk; rw [e1]; exact e2
   ·exact ⟨by show (partsB p).length - (i+1)<(partsB p).length - i; omega,Z4,Tv,Fh,Tv⟩
  ·intro h;have h:¬ (i:Int)<((partsB p).map encS).length:=h;have h:¬ i<(partsB p).length:=by simpa using h
   have e:some n=pathMajor p:=by
    rw [em2,if_pos];exact List.all_eq_true.2 fun x hx=>by
     obtain ⟨j,hj,rfl⟩:=List.getElem_of_mem hx;exact i2 j hj (by omega)
   exact .of_eq (congrArg majV e)
end Go.Eng

namespace Go.Eng
open Go.Proofs
theorem c187 (p:ByteArray) (hp:FewS p):PC 74 [vs p] (vb (pathMajor p).isSome):=by
 have hc:=c186 p hp;cases h:pathMajor p with
 | none =>
  rw [h] at hc;refine Ps pl0 Tryz.func74 rfl (Nz rfl) ?_;refine Xi .pure (Xi _ (Yi (hc) ?_));refine Yi ?_ ?_
  ·intro h; exact absurd (show (4:Int)=0 from h) (by decide)
  ·intro _; exact .refl _
 | some n =>
  rw [h] at hc;refine Ps pl0 Tryz.func74 rfl (Nz rfl) ?_;refine Xi .pure (Xi _ (Yi (hc) ?_));refine Yi ?_ ?_
  ·intro _; exact .refl _
  ·intro h; exact absurd rfl h
theorem splitL_mem (c:UInt8):∀ s:List UInt8,2≤(splitL c s).length→c ∈ s
 | [],h=>by rw [splitL] at h; simp at h
 | b :: r,h=>by
  rw [splitL] at h
  by_cases e:b=c
  ·exact e▸List.mem_cons_self ..
  ·rw [if_neg e] at h;refine List.mem_cons_of_mem _ (splitL_mem c r ?_);cases hs:splitL c r with
   | nil=>rw [hs] at h; simp at h
   | cons x l=>rw [hs] at h; simpa using h
theorem last_rng {p:ByteArray} {m:Int} (h:pathMajor p=some m):0≤Go.Lib.lastIndex p.data.toList [47]∧Go.Lib.lastIndex p.data.toList [47]≤p.size:=by
 have h2:2≤(splitL 47 p.data.toList).length:=by
  unfold pathMajor majorL at h;split at h
  ·cases h
  ·split at h
   ·cases h
   ·rename_i hn;simp only [Bool.or_eq_true,decide_eq_true_eq] at hn;omega
 have hm:=splitL_mem 47 _ h2;obtain ⟨i,hi,e⟩:=List.getElem_of_mem hm;have hsz:p.size=p.data.toList.length:=by simp
 unfold Go.Lib.lastIndex;rw [if_pos (by simp only [List.length_singleton]; omega)];have hocc:Go.Lib.occAt p.data.toList [47] i=true:=by
  unfold Go.Lib.occAt;rw [List.drop_eq_getElem_cons hi,e]; simp
 rcases Go.Lib.lastOcc_spec p.data.toList [47] (p.data.toList.length - [(47:UInt8)].length+1) with ⟨_,h3⟩ | ⟨j,h3,h4,_⟩
 ·have:=h3 i (by simp only [List.length_singleton]; omega)
  rw [hocc] at this; cases this
 ·rw [h4]; simp only [List.length_singleton] at h3; omega
abbrev lineNm (p:ByteArray):ByteArray:=p.extract 0 (Go.Lib.lastIndex p.data.toList [47]).toNat
theorem c155:Line lineNm:=by
 intro p hp;have hc:=c186 p hp;have hi:=c187 p hp;unfold lineV;cases h:pathMajor p with
 | none =>
  rw [h] at hc hi;refine Ps pl0 Tryz.func32 rfl (Nz rfl) ?_;refine Xi .pure (Xi _ (Yi (hc) ?_));refine Xi .pure (Xi _ (Yi (hi) ?_));exact .refl _
 | some n =>
  rw [h] at hc hi;obtain ⟨l1,l2⟩:=last_rng h;have hl:PC 41 [vs p,vs b47] (vi (Go.Lib.lastIndex p.data.toList [47])):=c188 p b47 hp;refine Ps pl0 Tryz.func32 rfl (Nz rfl) ?_;refine Xi .pure (Xi _ (Yi (hc) ?_));refine Xi .pure (Xi _ (Yi (hi) ?_));refine Yi ?_ ?_
  ·intro h; exact absurd rfl h
  intro _;refine Xi .pure (Xi _ (Yi (hl) ?_));refine Yi ⟨Int.le_refl _,l1,l2⟩ ?_;exact .refl _
end Go.Eng

namespace Go.Eng
open Go.Proofs
abbrev C165 (x:List Rl) (ifs:List (List AV)) (roots:List Rq):Prop:=∀ (d:List (List Tm)) (i:Nf),
 ACall Tryz.prog 254 [.ref 1000 0,.agg (encNf i)] (heapOf (ckH x ifs roots d) hfree) fun r h'=>r=incV (ne0 (noneT i.path (availP x i.path)))∧h'=heapOf (ckH x ifs roots d) hfree
abbrev Post66 (x:List Rl) (ifs:List (List AV)) (roots:List Rq) (d:List (List Tm)) (i:Nf) (r:AV) (h' : Nat→HO):Prop :=
 r=vb (inferP x roots d i).isSome∧∃ d',h'=heapOf (ckH x ifs roots d') hfree∧∀ t,inferP x roots d i=some t→d'=d++[t]
theorem c66_0 (x:List Rl) (ifs:List (List AV)) (roots:List Rq) (d:List (List Tm)) (p:ByteArray) (pl nu le ri:Int) (hd:d.length≤65536) (hr:∀ q ∈ roots,Few q.set) :
  ACall Tryz.prog 117 [.ref 1000 0,.agg (encNf ⟨0,p,pl,nu,le,ri⟩)] (heapOf (ckH x ifs roots d) hfree) fun r h'=>Post66 x ifs roots d ⟨0,p,pl,nu,le,ri⟩ r h':=by
 have einf0:inferP x roots d ⟨0,p,pl,nu,le,ri⟩=if p=mt∧pl=0∧le=0∧ri=0 then (nthZ roots nu).map rootT else none:=rfl
 by_cases hc:p=mt∧pl=0∧le=0∧ri=0
 ·have einf1:inferP x roots d ⟨0,p,pl,nu,le,ri⟩=(nthZ roots nu).map rootT:=by rw [einf0,if_pos hc]
  have hcal:=c161 x ifs roots d ⟨0,p,pl,nu,le,ri⟩ hr;cases ho:(nthZ roots nu).map rootT with
  | none =>
   have einf:inferP x roots d ⟨0,p,pl,nu,le,ri⟩=none:=by rw [einf1,ho]
   rw [ho] at hcal;refine acall_sub (cxe (plcut [3,4,6])) [(1000,1000),(1001,1001)] rfl tab_ok hm rfl Tryz.func117 (by kernel_rfl) rfl (Nz rfl) (by kernel_rfl) rfl ?_;refine Yi ?_ ?_
   ·intro h; exact absurd (show (0:Int)<0 from h) (by decide)
   intro _;refine Yi ?_ ?_
   ·intro h; exact absurd (show (3:Int)<0 from h) (by decide)
   intro _;refine Xi ⟨[(0,.ref 1000 0),(3,.ref 3 0)],[(3,.cells (encNf ⟨0,p,pl,nu,le,ri⟩)),(1000,ckO x ifs roots d),(1001,tkO d)],hfree⟩ (Yi ⟨Z2,Z3,Fh,ext_dec (by kernel_rfl)⟩ ?_)
   refine Xi _ (Yi (c111) ?_);refine Yi ⟨by show (0:Int)≤0; decide,by show (0:Int)<4; decide⟩ ?_;refine Yi (Nz rfl) (Yi (Nz rfl) ?_);refine Yi (by kernel_rfl) ?_;refine Xi ⟨[(0,.ref 1000 0),(3,.ref 3 0),(5,.ref 5 0)],[(3,.cells (encNf ⟨0,p,pl,nu,le,ri⟩)),(5,.cells [.v (fnV 249),.v (fnV 250)]),(1000,ckO x ifs roots d),(1001,tkO d)],hfree⟩ (Yi ⟨Z3,Z4,Fh,ext_dec (by kernel_rfl)⟩ ?_)
   refine Yi (Nz rfl) ?_;refine Xi _ (Yi (c160 ⟨0,p,pl,nu,le,ri⟩) ?_);refine Yi ?_ ?_
   rotate_left
   ·intro h6;have he:eqL [vi 0,vs p,vi pl,vi 0,vi le,vi ri] [vi 0,vs mt,vi 0,vi 0,vi 0,vi 0]:=⟨rfl,hc.1,hc.2.1,rfl,hc.2.2.1,hc.2.2.2,trivial⟩;exact absurd he h6
   intro _;refine Yi (by kernel_rfl) ?_;refine Xi ⟨[(0,.ref 1000 0),(3,.ref 3 0),(5,.ref 5 0)],[(3,.cells (encNf ⟨0,p,pl,nu,le,ri⟩)),(5,.cells [.v (fnV 249),.v (fnV 250)]),(1000,ckO x ifs roots d),(1001,tkO d)],hfree⟩ (Yi ⟨Z3,Z4,Fh,ext_dec (by kernel_rfl)⟩ ?_)
   refine Yi (Nz rfl) ?_;refine Xi (.gen [(1000,1000),(1001,1001)] 0) (Yi rfl (hcal.imp ?_));intro v1 g1 q1;have q11:=q1.1;have q12:=q1.2;subst q11;subst q12;have bulk:AllLen 1 [encInc []]∧(d.map encInc).length=(d.map encInc).length∧((d.map encInc).length+[encInc []].length)*24≤140737488355328∧(d.map encInc).length+[encInc []].length≤9223372036854775807 :=
    ⟨⟨rfl,trivial⟩,rfl,by rw [Lm,List.length_singleton]; omega,by rw [Lm,List.length_singleton]; omega⟩
   refine Yi bulk ?_;refine Yi (Nz rfl) ?_;have eh:heapOf [(1000,HO.cells [sl encRl x,.slice .none ifs,sl encRq roots,.slice (.id 1001 1) (d.map encInc++[encInc []])]),(1001,.tok 1 ((d.map encInc).length+[encInc []].length))] hfree=heapOf (ckH x ifs roots (d++[[]])) hfree:=by
    simp [ckH,ckO,ckC,tkO]
   have er:vb false=vb (inferP x roots d ⟨0,p,pl,nu,le,ri⟩).isSome:=by rw [einf]; rfl
   exact Xi _ (Yi (.refl _) (Yi er (Xi (d++[[]]) (Yi eh (fun t ht=>by rw [einf] at ht; cases ht)))))
  | some tt =>
   have einf:inferP x roots d ⟨0,p,pl,nu,le,ri⟩=some tt:=by rw [einf1,ho]
   rw [ho] at hcal;refine acall_sub (cxe (plcut [3,4,6])) [(1000,1000),(1001,1001)] rfl tab_ok hm rfl Tryz.func117 (by kernel_rfl) rfl (Nz rfl) (by kernel_rfl) rfl ?_;refine Yi ?_ ?_
   ·intro h; exact absurd (show (0:Int)<0 from h) (by decide)
   intro _;refine Yi ?_ ?_
   ·intro h; exact absurd (show (3:Int)<0 from h) (by decide)
   intro _;refine Xi ⟨[(0,.ref 1000 0),(3,.ref 3 0)],[(3,.cells (encNf ⟨0,p,pl,nu,le,ri⟩)),(1000,ckO x ifs roots d),(1001,tkO d)],hfree⟩ (Yi ⟨Z2,Z3,Fh,ext_dec (by kernel_rfl)⟩ ?_)
   refine Xi _ (Yi (c111) ?_);refine Yi ⟨by show (0:Int)≤0; decide,by show (0:Int)<4; decide⟩ ?_;refine Yi (Nz rfl) (Yi (Nz rfl) ?_);refine Yi (by kernel_rfl) ?_;refine Xi ⟨[(0,.ref 1000 0),(3,.ref 3 0),(5,.ref 5 0)],[(3,.cells (encNf ⟨0,p,pl,nu,le,ri⟩)),(5,.cells [.v (fnV 249),.v (fnV 250)]),(1000,ckO x ifs roots d),(1001,tkO d)],hfree⟩ (Yi ⟨Z3,Z4,Fh,ext_dec (by kernel_rfl)⟩ ?_)
   refine Yi (Nz rfl) ?_;refine Xi _ (Yi (c160 ⟨0,p,pl,nu,le,ri⟩) ?_);refine Yi ?_ ?_
   rotate_left
   ·intro h6;have he:eqL [vi 0,vs p,vi pl,vi 0,vi le,vi ri] [vi 0,vs mt,vi 0,vi 0,vi 0,vi 0]:=⟨rfl,hc.1,hc.2.1,rfl,hc.2.2.1,hc.2.2.2,trivial⟩;exact absurd he h6
   intro _;refine Yi (by kernel_rfl) ?_;refine Xi ⟨[(0,.ref 1000 0),(3,.ref 3 0),(5,.ref 5 0)],[(3,.cells (encNf ⟨0,p,pl,nu,le,ri⟩)),(5,.cells [.v (fnV 249),.v (fnV 250)]),(1000,ckO x ifs roots d),(1001,tkO d)],hfree⟩ (Yi ⟨Z3,Z4,Fh,ext_dec (by kernel_rfl)⟩ ?_)
   refine Yi (Nz rfl) ?_;refine Xi (.gen [(1000,1000),(1001,1001)] 0) (Yi rfl (hcal.imp ?_));intro v1 g1 q1;have q11:=q1.1;have q12:=q1.2;subst q11;subst q12;have bulk:AllLen 1 [encInc tt]∧(d.map encInc).length=(d.map encInc).length∧((d.map encInc).length+[encInc tt].length)*24≤140737488355328∧(d.map encInc).length+[encInc tt].length≤9223372036854775807 :=
    ⟨⟨rfl,trivial⟩,rfl,by rw [Lm,List.length_singleton]; omega,by rw [Lm,List.length_singleton]; omega⟩
   refine Yi bulk ?_;refine Yi (Nz rfl) ?_;have eh:heapOf [(1000,HO.cells [sl encRl x,.slice .none ifs,sl encRq roots,.slice (.id 1001 1) (d.map encInc++[encInc tt])]),(1001,.tok 1 ((d.map encInc).length+[encInc tt].length))] hfree=heapOf (ckH x ifs roots (d++[tt])) hfree:=by
    simp [ckH,ckO,ckC,tkO]
   have er:vb true=vb (inferP x roots d ⟨0,p,pl,nu,le,ri⟩).isSome:=by rw [einf]; rfl
   exact Xi _ (Yi (.refl _) (Yi er (Xi (d++[tt]) (Yi eh (fun t ht=>by rw [einf] at ht; cases ht; rfl)))))
 ·have einf:inferP x roots d ⟨0,p,pl,nu,le,ri⟩=none:=by rw [einf0,if_neg hc]
  refine acall_sub (cxe (plcut [3,4,6])) [(1000,1000),(1001,1001)] rfl tab_ok hm rfl Tryz.func117 (by kernel_rfl) rfl (Nz rfl) (by kernel_rfl) rfl ?_;refine Yi ?_ ?_
  ·intro h; exact absurd (show (0:Int)<0 from h) (by decide)
  intro _;refine Yi ?_ ?_
  ·intro h; exact absurd (show (3:Int)<0 from h) (by decide)
  intro _;refine Xi ⟨[(0,.ref 1000 0),(3,.ref 3 0)],[(3,.cells (encNf ⟨0,p,pl,nu,le,ri⟩)),(1000,ckO x ifs roots d),(1001,tkO d)],hfree⟩ (Yi ⟨Z2,Z3,Fh,ext_dec (by kernel_rfl)⟩ ?_)
  refine Xi _ (Yi (c111) ?_);refine Yi ⟨by show (0:Int)≤0; decide,by show (0:Int)<4; decide⟩ ?_;refine Yi (Nz rfl) (Yi (Nz rfl) ?_);refine Yi (by kernel_rfl) ?_;refine Xi ⟨[(0,.ref 1000 0),(3,.ref 3 0),(5,.ref 5 0)],[(3,.cells (encNf ⟨0,p,pl,nu,le,ri⟩)),(5,.cells [.v (fnV 249),.v (fnV 250)]),(1000,ckO x ifs roots d),(1001,tkO d)],hfree⟩ (Yi ⟨Z3,Z4,Fh,ext_dec (by kernel_rfl)⟩ ?_)
  refine Yi (Nz rfl) ?_;refine Xi _ (Yi (c160 ⟨0,p,pl,nu,le,ri⟩) ?_);refine Yi ?_ ?_
  ·intro h6;exact absurd (show p=mt∧pl=0∧le=0∧ri=0 from ⟨h6.2.1,h6.2.2.1,h6.2.2.2.2.1,h6.2.2.2.2.2.1⟩) hc
  intro _;refine Yi (by kernel_rfl) ?_;have er:vb false=vb (inferP x roots d ⟨0,p,pl,nu,le,ri⟩).isSome:=by rw [einf]; rfl
  exact Xi _ (Yi (.refl _) (Yi er (Xi d (Yi rfl (fun t ht=>by rw [einf] at ht; cases ht)))))
theorem c66_1 (x:List Rl) (ifs:List (List AV)) (roots:List Rq) (d:List (List Tm)) (p:ByteArray) (pl nu le ri:Int) (hd:d.length≤65536) (hx:Few x) (hq:∀ r ∈ x,∀ q ∈ r.reqs,Few q.set) :
  ACall Tryz.prog 117 [.ref 1000 0,.agg (encNf ⟨1,p,pl,nu,le,ri⟩)] (heapOf (ckH x ifs roots d) hfree) fun r h'=>Post66 x ifs roots d ⟨1,p,pl,nu,le,ri⟩ r h':=by
 have einf0:inferP x roots d ⟨1,p,pl,nu,le,ri⟩=if le=0∧ri=0 then reqV x ⟨1,p,pl,nu,le,ri⟩ else none:=rfl
 by_cases hc:le=0∧ri=0
 ·have einf1:inferP x roots d ⟨1,p,pl,nu,le,ri⟩=reqV x ⟨1,p,pl,nu,le,ri⟩:=by rw [einf0,if_pos hc]
  have hcal:=c163 x ifs roots d ⟨1,p,pl,nu,le,ri⟩ hx hq;cases ho:reqV x ⟨1,p,pl,nu,le,ri⟩ with
  | none =>
   have einf:inferP x roots d ⟨1,p,pl,nu,le,ri⟩=none:=by rw [einf1,ho]
   rw [ho] at hcal;refine acall_sub (cxe (plcut [3,4,6])) [(1000,1000),(1001,1001)] rfl tab_ok hm rfl Tryz.func117 (by kernel_rfl) rfl (Nz rfl) (by kernel_rfl) rfl ?_;refine Yi ?_ ?_
   ·intro h; exact absurd (show (1:Int)<0 from h) (by decide)
   intro _;refine Yi ?_ ?_
   ·intro h; exact absurd (show (3:Int)<1 from h) (by decide)
   intro _;refine Xi ⟨[(0,.ref 1000 0),(3,.ref 3 0)],[(3,.cells (encNf ⟨1,p,pl,nu,le,ri⟩)),(1000,ckO x ifs roots d),(1001,tkO d)],hfree⟩ (Yi ⟨Z2,Z3,Fh,ext_dec (by kernel_rfl)⟩ ?_)
   refine Xi _ (Yi (c111) ?_);refine Yi ⟨by show (0:Int)≤1; decide,by show (1:Int)<4; decide⟩ ?_;refine Yi (Nz rfl) (Yi (Nz rfl) ?_);refine Yi (by kernel_rfl) ?_;refine Xi ⟨[(0,.ref 1000 0),(3,.ref 3 0),(5,.ref 5 0)],[(3,.cells (encNf ⟨1,p,pl,nu,le,ri⟩)),(5,.cells [.v (fnV 251),.v (fnV 252)]),(1000,ckO x ifs roots d),(1001,tkO d)],hfree⟩ (Yi ⟨Z3,Z4,Fh,ext_dec (by kernel_rfl)⟩ ?_)
   refine Yi (Nz rfl) ?_;refine Xi _ (Yi (c162 ⟨1,p,pl,nu,le,ri⟩) ?_);refine Yi ?_ ?_
   rotate_left
   ·intro h6;have he:eqL [vi 1,vs mt,vi 0,vi 0,vi le,vi ri] [vi 1,vs mt,vi 0,vi 0,vi 0,vi 0]:=⟨rfl,rfl,rfl,rfl,hc.1,hc.2,trivial⟩;exact absurd he h6
   intro _;refine Yi (by kernel_rfl) ?_;refine Xi ⟨[(0,.ref 1000 0),(3,.ref 3 0),(5,.ref 5 0)],[(3,.cells (encNf ⟨1,p,pl,nu,le,ri⟩)),(5,.cells [.v (fnV 251),.v (fnV 252)]),(1000,ckO x ifs roots d),(1001,tkO d)],hfree⟩ (Yi ⟨Z3,Z4,Fh,ext_dec (by kernel_rfl)⟩ ?_)
   refine Yi (Nz rfl) ?_;refine Xi (.gen [(1000,1000),(1001,1001)] 0) (Yi rfl (hcal.imp ?_));intro v1 g1 q1;have q11:=q1.1;have q12:=q1.2;subst q11;subst q12;have bulk:AllLen 1 [encInc []]∧(d.map encInc).length=(d.map encInc).length∧((d.map encInc).length+[encInc []].length)*24≤140737488355328∧(d.map encInc).length+[encInc []].length≤9223372036854775807 :=
    ⟨⟨rfl,trivial⟩,rfl,by rw [Lm,List.length_singleton]; omega,by rw [Lm,List.length_singleton]; omega⟩
   refine Yi bulk ?_;refine Yi (Nz rfl) ?_;have eh:heapOf [(1000,HO.cells [sl encRl x,.slice .none ifs,sl encRq roots,.slice (.id 1001 1) (d.map encInc++[encInc []])]),(1001,.tok 1 ((d.map encInc).length+[encInc []].length))] hfree=heapOf (ckH x ifs roots (d++[[]])) hfree:=by
    simp [ckH,ckO,ckC,tkO]
   have er:vb false=vb (inferP x roots d ⟨1,p,pl,nu,le,ri⟩).isSome:=by rw [einf]; rfl
   exact Xi _ (Yi (.refl _) (Yi er (Xi (d++[[]]) (Yi eh (fun t ht=>by rw [einf] at ht; cases ht)))))
  | some tt =>
   have einf:inferP x roots d ⟨1,p,pl,nu,le,ri⟩=some tt:=by rw [einf1,ho]
   rw [ho] at hcal;refine acall_sub (cxe (plcut [3,4,6])) [(1000,1000),(1001,1001)] rfl tab_ok hm rfl Tryz.func117 (by kernel_rfl) rfl (Nz rfl) (by kernel_rfl) rfl ?_;refine Yi ?_ ?_
   ·intro h; exact absurd (show (1:Int)<0 from h) (by decide)
   intro _;refine Yi ?_ ?_
   ·intro h; exact absurd (show (3:Int)<1 from h) (by decide)
   intro _;refine Xi ⟨[(0,.ref 1000 0),(3,.ref 3 0)],[(3,.cells (encNf ⟨1,p,pl,nu,le,ri⟩)),(1000,ckO x ifs roots d),(1001,tkO d)],hfree⟩ (Yi ⟨Z2,Z3,Fh,ext_dec (by kernel_rfl)⟩ ?_)
   refine Xi _ (Yi (c111) ?_);refine Yi ⟨by show (0:Int)≤1; decide,by show (1:Int)<4; decide⟩ ?_;refine Yi (Nz rfl) (Yi (Nz rfl) ?_);refine Yi (by kernel_rfl) ?_;refine Xi ⟨[(0,.ref 1000 0),(3,.ref 3 0),(5,.ref 5 0)],[(3,.cells (encNf ⟨1,p,pl,nu,le,ri⟩)),(5,.cells [.v (fnV 251),.v (fnV 252)]),(1000,ckO x ifs roots d),(1001,tkO d)],hfree⟩ (Yi ⟨Z3,Z4,Fh,ext_dec (by kernel_rfl)⟩ ?_)
   refine Yi (Nz rfl) ?_;refine Xi _ (Yi (c162 ⟨1,p,pl,nu,le,ri⟩) ?_);refine Yi ?_ ?_
   rotate_left
   ·intro h6;have he:eqL [vi 1,vs mt,vi 0,vi 0,vi le,vi ri] [vi 1,vs mt,vi 0,vi 0,vi 0,vi 0]:=⟨rfl,rfl,rfl,rfl,hc.1,hc.2,trivial⟩;exact absurd he h6
   intro _;refine Yi (by kernel_rfl) ?_;refine Xi ⟨[(0,.ref 1000 0),(3,.ref 3 0),(5,.ref 5 0)],[(3,.cells (encNf ⟨1,p,pl,nu,le,ri⟩)),(5,.cells [.v (fnV 251),.v (fnV 252)]),(1000,ckO x ifs roots d),(1001,tkO d)],hfree⟩ (Yi ⟨Z3,Z4,Fh,ext_dec (by kernel_rfl)⟩ ?_)
   refine Yi (Nz rfl) ?_;refine Xi (.gen [(1000,1000),(1001,1001)] 0) (Yi rfl (hcal.imp ?_));intro v1 g1 q1;have q11:=q1.1;have q12:=q1.2;subst q11;subst q12;have bulk:AllLen 1 [encInc tt]∧(d.map encInc).length=(d.map encInc).length∧((d.map encInc).length+[encInc tt].length)*24≤140737488355328∧(d.map encInc).length+[encInc tt].length≤9223372036854775807 :=
    ⟨⟨rfl,trivial⟩,rfl,by rw [Lm,List.length_singleton]; omega,by rw [Lm,List.length_singleton]; omega⟩
   refine Yi bulk ?_;refine Yi (Nz rfl) ?_;have eh:heapOf [(1000,HO.cells [sl encRl x,.slice .none ifs,sl encRq roots,.slice (.id 1001 1) (d.map encInc++[encInc tt])]),(1001,.tok 1 ((d.map encInc).length+[encInc tt].length))] hfree=heapOf (ckH x ifs roots (d++[tt])) hfree:=by
    simp [ckH,ckO,ckC,tkO]
   have er:vb true=vb (inferP x roots d ⟨1,p,pl,nu,le,ri⟩).isSome:=by rw [einf]; rfl
   exact Xi _ (Yi (.refl _) (Yi er (Xi (d++[tt]) (Yi eh (fun t ht=>by rw [einf] at ht; cases ht; rfl)))))
 ·have einf:inferP x roots d ⟨1,p,pl,nu,le,ri⟩=none:=by rw [einf0,if_neg hc]
  refine acall_sub (cxe (plcut [3,4,6])) [(1000,1000),(1001,1001)] rfl tab_ok hm rfl Tryz.func117 (by kernel_rfl) rfl (Nz rfl) (by kernel_rfl) rfl ?_;refine Yi ?_ ?_
  ·intro h; exact absurd (show (1:Int)<0 from h) (by decide)
  intro _;refine Yi ?_ ?_
  ·intro h; exact absurd (show (3:Int)<1 from h) (by decide)
  intro _;refine Xi ⟨[(0,.ref 1000 0),(3,.ref 3 0)],[(3,.cells (encNf ⟨1,p,pl,nu,le,ri⟩)),(1000,ckO x ifs roots d),(1001,tkO d)],hfree⟩ (Yi ⟨Z2,Z3,Fh,ext_dec (by kernel_rfl)⟩ ?_)
  refine Xi _ (Yi (c111) ?_);refine Yi ⟨by show (0:Int)≤1; decide,by show (1:Int)<4; decide⟩ ?_;refine Yi (Nz rfl) (Yi (Nz rfl) ?_);refine Yi (by kernel_rfl) ?_;refine Xi ⟨[(0,.ref 1000 0),(3,.ref 3 0),(5,.ref 5 0)],[(3,.cells (encNf ⟨1,p,pl,nu,le,ri⟩)),(5,.cells [.v (fnV 251),.v (fnV 252)]),(1000,ckO x ifs roots d),(1001,tkO d)],hfree⟩ (Yi ⟨Z3,Z4,Fh,ext_dec (by kernel_rfl)⟩ ?_)
  refine Yi (Nz rfl) ?_;refine Xi _ (Yi (c162 ⟨1,p,pl,nu,le,ri⟩) ?_);refine Yi ?_ ?_
  ·intro h6;exact absurd (show le=0∧ri=0 from ⟨h6.2.2.2.2.1,h6.2.2.2.2.2.1⟩) hc
  intro _;refine Yi (by kernel_rfl) ?_;have er:vb false=vb (inferP x roots d ⟨1,p,pl,nu,le,ri⟩).isSome:=by rw [einf]; rfl
  exact Xi _ (Yi (.refl _) (Yi er (Xi d (Yi rfl (fun t ht=>by rw [einf] at ht; cases ht)))))
theorem c66_2 (x:List Rl) (ifs:List (List AV)) (roots:List Rq) (d:List (List Tm)) (p:ByteArray) (pl nu le ri:Int) (hd:d.length≤65536) (h165:C165 x ifs roots) :
  ACall Tryz.prog 117 [.ref 1000 0,.agg (encNf ⟨2,p,pl,nu,le,ri⟩)] (heapOf (ckH x ifs roots d) hfree) fun r h'=>Post66 x ifs roots d ⟨2,p,pl,nu,le,ri⟩ r h':=by
 have einf0:inferP x roots d ⟨2,p,pl,nu,le,ri⟩=if pl=0∧nu=0∧le=0∧ri=0 then ne0 (noneT p (availP x p)) else none:=rfl
 by_cases hc:pl=0∧nu=0∧le=0∧ri=0
 ·have einf1:inferP x roots d ⟨2,p,pl,nu,le,ri⟩=ne0 (noneT p (availP x p)):=by rw [einf0,if_pos hc]
  have hcal:=h165 d ⟨2,p,pl,nu,le,ri⟩;cases ho:ne0 (noneT p (availP x p)) with
  | none =>
   have einf:inferP x roots d ⟨2,p,pl,nu,le,ri⟩=none:=by rw [einf1,ho]
   rw [ho] at hcal;refine acall_sub (cxe (plcut [3,4,6])) [(1000,1000),(1001,1001)] rfl tab_ok hm rfl Tryz.func117 (by kernel_rfl) rfl (Nz rfl) (by kernel_rfl) rfl ?_;refine Yi ?_ ?_
   ·intro h; exact absurd (show (2:Int)<0 from h) (by decide)
   intro _;refine Yi ?_ ?_
   ·intro h; exact absurd (show (3:Int)<2 from h) (by decide)
   intro _;refine Xi ⟨[(0,.ref 1000 0),(3,.ref 3 0)],[(3,.cells (encNf ⟨2,p,pl,nu,le,ri⟩)),(1000,ckO x ifs roots d),(1001,tkO d)],hfree⟩ (Yi ⟨Z2,Z3,Fh,ext_dec (by kernel_rfl)⟩ ?_)
   refine Xi _ (Yi (c111) ?_);refine Yi ⟨by show (0:Int)≤2; decide,by show (2:Int)<4; decide⟩ ?_;refine Yi (Nz rfl) (Yi (Nz rfl) ?_);refine Yi (by kernel_rfl) ?_;refine Xi ⟨[(0,.ref 1000 0),(3,.ref 3 0),(5,.ref 5 0)],[(3,.cells (encNf ⟨2,p,pl,nu,le,ri⟩)),(5,.cells [.v (fnV 253),.v (fnV 254)]),(1000,ckO x ifs roots d),(1001,tkO d)],hfree⟩ (Yi ⟨Z3,Z4,Fh,ext_dec (by kernel_rfl)⟩ ?_)
   refine Yi (Nz rfl) ?_;refine Xi _ (Yi (c164 ⟨2,p,pl,nu,le,ri⟩) ?_);refine Yi ?_ ?_
   rotate_left
   ·intro h6;have he:eqL [vi 2,vs mt,vi pl,vi nu,vi le,vi ri] [vi 2,vs mt,vi 0,vi 0,vi 0,vi 0]:=⟨rfl,rfl,hc.1,hc.2.1,hc.2.2.1,hc.2.2.2,trivial⟩;exact absurd he h6
   intro _;refine Yi (by kernel_rfl) ?_;refine Xi ⟨[(0,.ref 1000 0),(3,.ref 3 0),(5,.ref 5 0)],[(3,.cells (encNf ⟨2,p,pl,nu,le,ri⟩)),(5,.cells [.v (fnV 253),.v (fnV 254)]),(1000,ckO x ifs roots d),(1001,tkO d)],hfree⟩ (Yi ⟨Z3,Z4,Fh,ext_dec (by kernel_rfl)⟩ ?_)
   refine Yi (Nz rfl) ?_;refine Xi (.gen [(1000,1000),(1001,1001)] 0) (Yi rfl (hcal.imp ?_));intro v1 g1 q1;have q11:=q1.1;have q12:=q1.2;subst q11;subst q12;have bulk:AllLen 1 [encInc []]∧(d.map encInc).length=(d.map encInc).length∧((d.map encInc).length+[encInc []].length)*24≤140737488355328∧(d.map encInc).length+[encInc []].length≤9223372036854775807 :=
    ⟨⟨rfl,trivial⟩,rfl,by rw [Lm,List.length_singleton]; omega,by rw [Lm,List.length_singleton]; omega⟩
   refine Yi bulk ?_;refine Yi (Nz rfl) ?_;have eh:heapOf [(1000,HO.cells [sl encRl x,.slice .none ifs,sl encRq roots,.slice (.id 1001 1) (d.map encInc++[encInc []])]),(1001,.tok 1 ((d.map encInc).length+[encInc []].length))] hfree=heapOf (ckH x ifs roots (d++[[]])) hfree:=by
    simp [ckH,ckO,ckC,tkO]
   have er:vb false=vb (inferP x roots d ⟨2,p,pl,nu,le,ri⟩).isSome:=by rw [einf]; rfl
   exact Xi _ (Yi (.refl _) (Yi er (Xi (d++[[]]) (Yi eh (fun t ht=>by rw [einf] at ht; cases ht)))))
  | some tt =>
   have einf:inferP x roots d ⟨2,p,pl,nu,le,ri⟩=some tt:=by rw [einf1,ho]
   rw [ho] at hcal;refine acall_sub (cxe (plcut [3,4,6])) [(1000,1000),(1001,1001)] rfl tab_ok hm rfl Tryz.func117 (by kernel_rfl) rfl (Nz rfl) (by kernel_rfl) rfl ?_;refine Yi ?_ ?_
   ·intro h; exact absurd (show (2:Int)<0 from h) (by decide)
   intro _;refine Yi ?_ ?_
   ·intro h; exact absurd (show (3:Int)<2 from h) (by decide)
   intro _;refine Xi ⟨[(0,.ref 1000 0),(3,.ref 3 0)],[(3,.cells (encNf ⟨2,p,pl,nu,le,ri⟩)),(1000,ckO x ifs roots d),(1001,tkO d)],hfree⟩ (Yi ⟨Z2,Z3,Fh,ext_dec (by kernel_rfl)⟩ ?_)
   refine Xi _ (Yi (c111) ?_);refine Yi ⟨by show (0:Int)≤2; decide,by show (2:Int)<4; decide⟩ ?_;refine Yi (Nz rfl) (Yi (Nz rfl) ?_);refine Yi (by kernel_rfl) ?_;refine Xi ⟨[(0,.ref 1000 0),(3,.ref 3 0),(5,.ref 5 0)],[(3,.cells (encNf ⟨2,p,pl,nu,le,ri⟩)),(5,.cells [.v (fnV 253),.v (fnV 254)]),(1000,ckO x ifs roots d),(1001,tkO d)],hfree⟩ (Yi ⟨Z3,Z4,Fh,ext_dec (by kernel_rfl)⟩ ?_)
   refine Yi (Nz rfl) ?_;refine Xi _ (Yi (c164 ⟨2,p,pl,nu,le,ri⟩) ?_);refine Yi ?_ ?_
   rotate_left
   ·intro h6;have he:eqL [vi 2,vs mt,vi pl,vi nu,vi le,vi ri] [vi 2,vs mt,vi 0,vi 0,vi 0,vi 0]:=⟨rfl,rfl,hc.1,hc.2.1,hc.2.2.1,hc.2.2.2,trivial⟩;exact absurd he h6
   intro _;refine Yi (by kernel_rfl) ?_;refine Xi ⟨[(0,.ref 1000 0),(3,.ref 3 0),(5,.ref 5 0)],[(3,.cells (encNf ⟨2,p,pl,nu,le,ri⟩)),(5,.cells [.v (fnV 253),.v (fnV 254)]),(1000,ckO x ifs roots d),(1001,tkO d)],hfree⟩ (Yi ⟨Z3,Z4,Fh,ext_dec (by kernel_rfl)⟩ ?_)
   refine Yi (Nz rfl) ?_;refine Xi (.gen [(1000,1000),(1001,1001)] 0) (Yi rfl (hcal.imp ?_));intro v1 g1 q1;have q11:=q1.1;have q12:=q1.2;subst q11;subst q12;have bulk:AllLen 1 [encInc tt]∧(d.map encInc).length=(d.map encInc).length∧((d.map encInc).length+[encInc tt].length)*24≤140737488355328∧(d.map encInc).length+[encInc tt].length≤9223372036854775807 :=
    ⟨⟨rfl,trivial⟩,rfl,by rw [Lm,List.length_singleton]; omega,by rw [Lm,List.length_singleton]; omega⟩
   refine Yi bulk ?_;refine Yi (Nz rfl) ?_;have eh:heapOf [(1000,HO.cells [sl encRl x,.slice .none ifs,sl encRq roots,.slice (.id 1001 1) (d.map encInc++[encInc tt])]),(1001,.tok 1 ((d.map encInc).length+[encInc tt].length))] hfree=heapOf (ckH x ifs roots (d++[tt])) hfree:=by
    simp [ckH,ckO,ckC,tkO]
   have er:vb true=vb (inferP x roots d ⟨2,p,pl,nu,le,ri⟩).isSome:=by rw [einf]; rfl
   exact Xi _ (Yi (.refl _) (Yi er (Xi (d++[tt]) (Yi eh (fun t ht=>by rw [einf] at ht; cases ht; rfl)))))
 ·have einf:inferP x roots d ⟨2,p,pl,nu,le,ri⟩=none:=by rw [einf0,if_neg hc]
  refine acall_sub (cxe (plcut [3,4,6])) [(1000,1000),(1001,1001)] rfl tab_ok hm rfl Tryz.func117 (by kernel_rfl) rfl (Nz rfl) (by kernel_rfl) rfl ?_;refine Yi ?_ ?_
  ·intro h; exact absurd (show (2:Int)<0 from h) (by decide)
  intro _;refine Yi ?_ ?_
  ·intro h; exact absurd (show (3:Int)<2 from h) (by decide)
  intro _;refine Xi ⟨[(0,.ref 1000 0),(3,.ref 3 0)],[(3,.cells (encNf ⟨2,p,pl,nu,le,ri⟩)),(1000,ckO x ifs roots d),(1001,tkO d)],hfree⟩ (Yi ⟨Z2,Z3,Fh,ext_dec (by kernel_rfl)⟩ ?_)
  refine Xi _ (Yi (c111) ?_);refine Yi ⟨by show (0:Int)≤2; decide,by show (2:Int)<4; decide⟩ ?_;refine Yi (Nz rfl) (Yi (Nz rfl) ?_);refine Yi (by kernel_rfl) ?_;refine Xi ⟨[(0,.ref 1000 0),(3,.ref 3 0),(5,.ref 5 0)],[(3,.cells (encNf ⟨2,p,pl,nu,le,ri⟩)),(5,.cells [.v (fnV 253),.v (fnV 254)]),(1000,ckO x ifs roots d),(1001,tkO d)],hfree⟩ (Yi ⟨Z3,Z4,Fh,ext_dec (by kernel_rfl)⟩ ?_)
  refine Yi (Nz rfl) ?_;refine Xi _ (Yi (c164 ⟨2,p,pl,nu,le,ri⟩) ?_);refine Yi ?_ ?_
  ·intro h6;exact absurd (show pl=0∧nu=0∧le=0∧ri=0 from ⟨h6.2.2.1,h6.2.2.2.1,h6.2.2.2.2.1,h6.2.2.2.2.2.1⟩) hc
  intro _;refine Yi (by kernel_rfl) ?_;have er:vb false=vb (inferP x roots d ⟨2,p,pl,nu,le,ri⟩).isSome:=by rw [einf]; rfl
  exact Xi _ (Yi (.refl _) (Yi er (Xi d (Yi rfl (fun t ht=>by rw [einf] at ht; cases ht)))))
theorem c66_3 (x:List Rl) (ifs:List (List AV)) (roots:List Rq) (d:List (List Tm)) (p:ByteArray) (pl nu le ri:Int) (hd:d.length≤65536) (hi:∀ t ∈ d,FewI t) :
  ACall Tryz.prog 117 [.ref 1000 0,.agg (encNf ⟨3,p,pl,nu,le,ri⟩)] (heapOf (ckH x ifs roots d) hfree) fun r h'=>Post66 x ifs roots d ⟨3,p,pl,nu,le,ri⟩ r h':=by
 have einf0:inferP x roots d ⟨3,p,pl,nu,le,ri⟩=if pl=0∧nu=0 then resI d ⟨3,p,pl,nu,le,ri⟩ else none:=rfl
 by_cases hc:pl=0∧nu=0
 ·have einf1:inferP x roots d ⟨3,p,pl,nu,le,ri⟩=resI d ⟨3,p,pl,nu,le,ri⟩:=by rw [einf0,if_pos hc]
  have hcal:=c167 x ifs roots d ⟨3,p,pl,nu,le,ri⟩ hi;cases ho:resI d ⟨3,p,pl,nu,le,ri⟩ with
  | none =>
   have einf:inferP x roots d ⟨3,p,pl,nu,le,ri⟩=none:=by rw [einf1,ho]
   rw [ho] at hcal;refine acall_sub (cxe (plcut [3,4,6])) [(1000,1000),(1001,1001)] rfl tab_ok hm rfl Tryz.func117 (by kernel_rfl) rfl (Nz rfl) (by kernel_rfl) rfl ?_;refine Yi ?_ ?_
   ·intro h; exact absurd (show (3:Int)<0 from h) (by decide)
   intro _;refine Yi ?_ ?_
   ·intro h; exact absurd (show (3:Int)<3 from h) (by decide)
   intro _;refine Xi ⟨[(0,.ref 1000 0),(3,.ref 3 0)],[(3,.cells (encNf ⟨3,p,pl,nu,le,ri⟩)),(1000,ckO x ifs roots d),(1001,tkO d)],hfree⟩ (Yi ⟨Z2,Z3,Fh,ext_dec (by kernel_rfl)⟩ ?_)
   refine Xi _ (Yi (c111) ?_);refine Yi ⟨by show (0:Int)≤3; decide,by show (3:Int)<4; decide⟩ ?_;refine Yi (Nz rfl) (Yi (Nz rfl) ?_);refine Yi (by kernel_rfl) ?_;refine Xi ⟨[(0,.ref 1000 0),(3,.ref 3 0),(5,.ref 5 0)],[(3,.cells (encNf ⟨3,p,pl,nu,le,ri⟩)),(5,.cells [.v (fnV 255),.v (fnV 256)]),(1000,ckO x ifs roots d),(1001,tkO d)],hfree⟩ (Yi ⟨Z3,Z4,Fh,ext_dec (by kernel_rfl)⟩ ?_)
   refine Yi (Nz rfl) ?_;refine Xi _ (Yi (c166 ⟨3,p,pl,nu,le,ri⟩) ?_);refine Yi ?_ ?_
   rotate_left
   ·intro h6;have he:eqL [vi 3,vs mt,vi pl,vi nu,vi 0,vi 0] [vi 3,vs mt,vi 0,vi 0,vi 0,vi 0]:=⟨rfl,rfl,hc.1,hc.2,rfl,rfl,trivial⟩;exact absurd he h6
   intro _;refine Yi (by kernel_rfl) ?_;refine Xi ⟨[(0,.ref 1000 0),(3,.ref 3 0),(5,.ref 5 0)],[(3,.cells (encNf ⟨3,p,pl,nu,le,ri⟩)),(5,.cells [.v (fnV 255),.v (fnV 256)]),(1000,ckO x ifs roots d),(1001,tkO d)],hfree⟩ (Yi ⟨Z3,Z4,Fh,ext_dec (by kernel_rfl)⟩ ?_)
   refine Yi (Nz rfl) ?_;refine Xi (.gen [(1000,1000),(1001,1001)] 0) (Yi rfl (hcal.imp ?_));intro v1 g1 q1;have q11:=q1.1;have q12:=q1.2;subst q11;subst q12;have bulk:AllLen 1 [encInc []]∧(d.map encInc).length=(d.map encInc).length∧((d.map encInc).length+[encInc []].length)*24≤140737488355328∧(d.map encInc).length+[encInc []].length≤9223372036854775807 :=
    ⟨⟨rfl,trivial⟩,rfl,by rw [Lm,List.length_singleton]; omega,by rw [Lm,List.length_singleton]; omega⟩
   refine Yi bulk ?_;refine Yi (Nz rfl) ?_;have eh:heapOf [(1000,HO.cells [sl encRl x,.slice .none ifs,sl encRq roots,.slice (.id 1001 1) (d.map encInc++[encInc []])]),(1001,.tok 1 ((d.map encInc).length+[encInc []].length))] hfree=heapOf (ckH x ifs roots (d++[[]])) hfree:=by
    simp [ckH,ckO,ckC,tkO]
   have er:vb false=vb (inferP x roots d ⟨3,p,pl,nu,le,ri⟩).isSome:=by rw [einf]; rfl
   exact Xi _ (Yi (.refl _) (Yi er (Xi (d++[[]]) (Yi eh (fun t ht=>by rw [einf] at ht; cases ht)))))
  | some tt =>
   have einf:inferP x roots d ⟨3,p,pl,nu,le,ri⟩=some tt:=by rw [einf1,ho]
   rw [ho] at hcal;refine acall_sub (cxe (plcut [3,4,6])) [(1000,1000),(1001,1001)] rfl tab_ok hm rfl Tryz.func117 (by kernel_rfl) rfl (Nz rfl) (by kernel_rfl) rfl ?_;refine Yi ?_ ?_
   ·intro h; exact absurd (show (3:Int)<0 from h) (by decide)
   intro _;refine Yi ?_ ?_
   ·intro h; exact absurd (show (3:Int)<3 from h) (by decide)
   intro _;refine Xi ⟨[(0,.ref 1000 0),(3,.ref 3 0)],[(3,.cells (encNf ⟨3,p,pl,nu,le,ri⟩)),(1000,ckO x ifs roots d),(1001,tkO d)],hfree⟩ (Yi ⟨Z2,Z3,Fh,ext_dec (by kernel_rfl)⟩ ?_)
   refine Xi _ (Yi (c111) ?_);refine Yi ⟨by show (0:Int)≤3; decide,by show (3:Int)<4; decide⟩ ?_;refine Yi (Nz rfl) (Yi (Nz rfl) ?_);refine Yi (by kernel_rfl) ?_;refine Xi ⟨[(0,.ref 1000 0),(3,.ref 3 0),(5,.ref 5 0)],[(3,.cells (encNf ⟨3,p,pl,nu,le,ri⟩)),(5,.cells [.v (fnV 255),.v (fnV 256)]),(1000,ckO x ifs roots d),(1001,tkO d)],hfree⟩ (Yi ⟨Z3,Z4,Fh,ext_dec (by kernel_rfl)⟩ ?_)
   refine Yi (Nz rfl) ?_;refine Xi _ (Yi (c166 ⟨3,p,pl,nu,le,ri⟩) ?_);refine Yi ?_ ?_
   rotate_left
   ·intro h6;have he:eqL [vi 3,vs mt,vi pl,vi nu,vi 0,vi 0] [vi 3,vs mt,vi 0,vi 0,vi 0,vi 0]:=⟨rfl,rfl,hc.1,hc.2,rfl,rfl,trivial⟩;exact absurd he h6
   intro _;refine Yi (by kernel_rfl) ?_;refine Xi ⟨[(0,.ref 1000 0),(3,.ref 3 0),(5,.ref 5 0)],[(3,.cells (encNf ⟨3,p,pl,nu,le,ri⟩)),(5,.cells [.v (fnV 255),.v (fnV 256)]),(1000,ckO x ifs roots d),(1001,tkO d)],hfree⟩ (Yi ⟨Z3,Z4,Fh,ext_dec (by kernel_rfl)⟩ ?_)
   refine Yi (Nz rfl) ?_;refine Xi (.gen [(1000,1000),(1001,1001)] 0) (Yi rfl (hcal.imp ?_));intro v1 g1 q1;have q11:=q1.1;have q12:=q1.2;subst q11;subst q12;have bulk:AllLen 1 [encInc tt]∧(d.map encInc).length=(d.map encInc).length∧((d.map encInc).length+[encInc tt].length)*24≤140737488355328∧(d.map encInc).length+[encInc tt].length≤9223372036854775807 :=
    ⟨⟨rfl,trivial⟩,rfl,by rw [Lm,List.length_singleton]; omega,by rw [Lm,List.length_singleton]; omega⟩
   refine Yi bulk ?_;refine Yi (Nz rfl) ?_;have eh:heapOf [(1000,HO.cells [sl encRl x,.slice .none ifs,sl encRq roots,.slice (.id 1001 1) (d.map encInc++[encInc tt])]),(1001,.tok 1 ((d.map encInc).length+[encInc tt].length))] hfree=heapOf (ckH x ifs roots (d++[tt])) hfree:=by
    simp [ckH,ckO,ckC,tkO]
   have er:vb true=vb (inferP x roots d ⟨3,p,pl,nu,le,ri⟩).isSome:=by rw [einf]; rfl
   exact Xi _ (Yi (.refl _) (Yi er (Xi (d++[tt]) (Yi eh (fun t ht=>by rw [einf] at ht; cases ht; rfl)))))
 ·have einf:inferP x roots d ⟨3,p,pl,nu,le,ri⟩=none:=by rw [einf0,if_neg hc]
  refine acall_sub (cxe (plcut [3,4,6])) [(1000,1000),(1001,1001)] rfl tab_ok hm rfl Tryz.func117 (by kernel_rfl) rfl (Nz rfl) (by kernel_rfl) rfl ?_;refine Yi ?_ ?_
  ·intro h; exact absurd (show (3:Int)<0 from h) (by decide)
  intro _;refine Yi ?_ ?_
  ·intro h; exact absurd (show (3:Int)<3 from h) (by decide)
  intro _;refine Xi ⟨[(0,.ref 1000 0),(3,.ref 3 0)],[(3,.cells (encNf ⟨3,p,pl,nu,le,ri⟩)),(1000,ckO x ifs roots d),(1001,tkO d)],hfree⟩ (Yi ⟨Z2,Z3,Fh,ext_dec (by kernel_rfl)⟩ ?_)
  refine Xi _ (Yi (c111) ?_);refine Yi ⟨by show (0:Int)≤3; decide,by show (3:Int)<4; decide⟩ ?_;refine Yi (Nz rfl) (Yi (Nz rfl) ?_);refine Yi (by kernel_rfl) ?_;refine Xi ⟨[(0,.ref 1000 0),(3,.ref 3 0),(5,.ref 5 0)],[(3,.cells (encNf ⟨3,p,pl,nu,le,ri⟩)),(5,.cells [.v (fnV 255),.v (fnV 256)]),(1000,ckO x ifs roots d),(1001,tkO d)],hfree⟩ (Yi ⟨Z3,Z4,Fh,ext_dec (by kernel_rfl)⟩ ?_)
  refine Yi (Nz rfl) ?_;refine Xi _ (Yi (c166 ⟨3,p,pl,nu,le,ri⟩) ?_);refine Yi ?_ ?_
  ·intro h6;exact absurd (show pl=0∧nu=0 from ⟨h6.2.2.1,h6.2.2.2.1⟩) hc
  intro _;refine Yi (by kernel_rfl) ?_;have er:vb false=vb (inferP x roots d ⟨3,p,pl,nu,le,ri⟩).isSome:=by rw [einf]; rfl
  exact Xi _ (Yi (.refl _) (Yi er (Xi d (Yi rfl (fun t ht=>by rw [einf] at ht; cases ht)))))
end Go.Eng

namespace Go.Eng
open Go.Proofs
theorem c66 (x:List Rl) (ifs:List (List AV)) (roots:List Rq) (d:List (List Tm)) (i:Nf) (hd:d.length≤65536) (hr:∀ q ∈ roots,Few q.set) (hx:Few x) (hq:∀ r ∈ x,∀ q ∈ r.reqs,Few q.set) (h165:C165 x ifs roots) (hi:∀ t ∈ d,FewI t) :
  ACall Tryz.prog 117 [.ref 1000 0,.agg (encNf i)] (heapOf (ckH x ifs roots d) hfree) fun r h'=>Post66 x ifs roots d i r h':=by
 obtain ⟨k,p,pl,nu,le,ri⟩:=i
 by_cases h0:k=0
 ·subst h0; exact c66_0 x ifs roots d p pl nu le ri hd hr
 by_cases h1:k=1
 ·subst h1; exact c66_1 x ifs roots d p pl nu le ri hd hx hq
 by_cases h2:k=2
 ·subst h2; exact c66_2 x ifs roots d p pl nu le ri hd h165
 by_cases h3:k=3
 ·subst h3; exact c66_3 x ifs roots d p pl nu le ri hd hi
 have einf:inferP x roots d ⟨k,p,pl,nu,le,ri⟩=none:=by
  show (if k=0 then _ else if k=1 then _ else if k=2 then _ else if k=3 then _ else none)=none;rw [if_neg h0,if_neg h1,if_neg h2,if_neg h3]
 have er:vb false=vb (inferP x roots d ⟨k,p,pl,nu,le,ri⟩).isSome:=by rw [einf]; rfl
 refine acall_sub (cxe pl0) [(1000,1000),(1001,1001)] rfl tab_ok hm rfl Tryz.func117 (by kernel_rfl) rfl (Nz rfl) (by kernel_rfl) rfl ?_;refine Yi ?_ ?_
 ·intro _;exact Xi _ (Yi (.refl _) (Yi er (Xi d (Yi rfl (fun t ht=>by rw [einf] at ht; cases ht)))))
 intro h4;have h4:¬ k<0:=h4;refine Yi ?_ ?_
 ·intro _;exact Xi _ (Yi (.refl _) (Yi er (Xi d (Yi rfl (fun t ht=>by rw [einf] at ht; cases ht)))))
 intro h5;have h5:¬ 3<k:=h5;omega
end Go.Eng
