/- Lemmas for the claims of this seat, without a condition: part 20 (C39, LayStr, C40, C41, C42, C43, C44, C45, C46, C47, C48, C49, C50, C51, C52, C53, C54, C55). -/
import Derived.Test.YtkmnnpmneamgoaaGreatDoorA19
import Derived.Shelf.Strings.SplitShaped
import Derived.Shelf.Strings.LastIndexAll
import Derived.Shelf.Strings.Search3
import Derived.Shelf.Small.Wraps
import Derived.Ground.NamesProg
import Derived.Lib.LastIndexLaws
namespace Go.Eng
open Go.Proofs
abbrev vc (c:UInt8):AV:=.v (.int .u8 c.toNat)
theorem u8_le (a:UInt8) (n:Nat) (h:n<256):decide (UInt8.ofNat n≤a)=decide ((n:Int)≤(a.toNat:Int)):=by
 rw [Bool.eq_iff_iff,decide_eq_true_eq,decide_eq_true_eq,UInt8.le_iff_toNat_le,show (UInt8.ofNat n).toNat=n by simp; omega]; omega
theorem u8_ge (a:UInt8) (n:Nat) (h:n<256):decide (a≤UInt8.ofNat n)=decide ((a.toNat:Int)≤(n:Int)):=by
 rw [Bool.eq_iff_iff,decide_eq_true_eq,decide_eq_true_eq,UInt8.le_iff_toNat_le,show (UInt8.ofNat n).toNat=n by simp; omega]; omega
theorem c217 (c:UInt8):PC 245 [vc c] (vb (smallC c)):=by
 refine Ps pl0 Tryz.func245 rfl (Nz rfl) ?_;have e1:decide ((97:UInt8)≤c)=decide ((97:Int)≤(c.toNat:Int)):=u8_le c 97 (by decide);have e2:decide (c≤(122:UInt8))=decide ((c.toNat:Int)≤(122:Int)):=u8_ge c 122 (by decide);have es:smallC c=(decide ((97:Int)≤(c.toNat:Int))&&decide ((c.toNat:Int)≤(122:Int))):=by unfold smallC; rw [e1,e2]
 refine Yi ?_ ?_
 ·intro h;have h:(97:Int)≤(c.toNat:Int):=h;refine Yi ?_ ?_
  ·intro h2;have h2:(c.toNat:Int)≤122:=h2;exact .of_eq (congrArg vb (show true=smallC c by rw [es,decide_eq_true h,decide_eq_true h2]; rfl))
  ·intro h2;have h2:¬ (c.toNat:Int)≤122:=h2;exact .of_eq (congrArg vb (show false=smallC c by rw [es,decide_eq_false h2,Bool.and_false]))
 ·intro h;have h:¬ (97:Int)≤(c.toNat:Int):=h;exact .of_eq (congrArg vb (show false=smallC c by rw [es,decide_eq_false h]; rfl))
theorem c218 (c:UInt8):PC 246 [vc c] (vb (digitC c)):=by
 refine Ps pl0 Tryz.func246 rfl (Nz rfl) ?_;have e1:decide ((48:UInt8)≤c)=decide ((48:Int)≤(c.toNat:Int)):=u8_le c 48 (by decide);have e2:decide (c≤(57:UInt8))=decide ((c.toNat:Int)≤(57:Int)):=u8_ge c 57 (by decide);have es:digitC c=(decide ((48:Int)≤(c.toNat:Int))&&decide ((c.toNat:Int)≤(57:Int))):=by unfold digitC; rw [e1,e2]
 refine Yi ?_ ?_
 ·intro h;have h:(48:Int)≤(c.toNat:Int):=h;refine Yi ?_ ?_
  ·intro h2;have h2:(c.toNat:Int)≤57:=h2;exact .of_eq (congrArg vb (show true=digitC c by rw [es,decide_eq_true h,decide_eq_true h2]; rfl))
  ·intro h2;have h2:¬ (c.toNat:Int)≤57:=h2;exact .of_eq (congrArg vb (show false=digitC c by rw [es,decide_eq_false h2,Bool.and_false]))
 ·intro h;have h:¬ (48:Int)≤(c.toNat:Int):=h;exact .of_eq (congrArg vb (show false=digitC c by rw [es,decide_eq_false h]; rfl))
theorem c261 (c:UInt8):PC 291 [vc c] (vb (capC c)):=by
 refine Ps pl0 Tryz.func291 rfl (Nz rfl) ?_;have e1:decide ((65:UInt8)≤c)=decide ((65:Int)≤(c.toNat:Int)):=u8_le c 65 (by decide);have e2:decide (c≤(90:UInt8))=decide ((c.toNat:Int)≤(90:Int)):=u8_ge c 90 (by decide);have es:capC c=(decide ((65:Int)≤(c.toNat:Int))&&decide ((c.toNat:Int)≤(90:Int))):=by unfold capC; rw [e1,e2]
 refine Yi ?_ ?_
 ·intro h;have h:(65:Int)≤(c.toNat:Int):=h;refine Yi ?_ ?_
  ·intro h2;have h2:(c.toNat:Int)≤90:=h2;exact .of_eq (congrArg vb (show true=capC c by rw [es,decide_eq_true h,decide_eq_true h2]; rfl))
  ·intro h2;have h2:¬ (c.toNat:Int)≤90:=h2;exact .of_eq (congrArg vb (show false=capC c by rw [es,decide_eq_false h2,Bool.and_false]))
 ·intro h;have h:¬ (65:Int)≤(c.toNat:Int):=h;exact .of_eq (congrArg vb (show false=capC c by rw [es,decide_eq_false h]; rfl))
abbrev segC (c:UInt8):Bool:=smallC c||digitC c
theorem c216 (c:UInt8):PC 244 [vc c] (vb (segC c)):=by
 have h1:=c217 c;have h2:=c218 c;rcases Bt (smallC c) with e | e
 ·rw [e] at h1;refine Ps pl0 Tryz.func244 rfl (Nz rfl) ?_;refine Xi .pure (Xi _ (Yi (h1) ?_));exact .of_eq (congrArg vb (show true=segC c by unfold segC; rw [e]; rfl))
 ·rw [e] at h1;refine Ps pl0 Tryz.func244 rfl (Nz rfl) ?_;refine Xi .pure (Xi _ (Yi (h1) ?_));refine Xi .pure (Xi _ (Yi (h2) ?_));exact .of_eq (congrArg vb (show digitC c=segC c by unfold segC; rw [e]; rfl))
theorem c243 (c:UInt8):PC 268 [vc c] (vb (wordC c)):=by
 have h1:=c217 c;have h2:=c261 c;have h3:=c218 c;have ew:wordC c=(smallC c||capC c||digitC c||decide (c=95)):=rfl;rcases Bt (smallC c) with e | e
 ·rw [e] at h1;refine Ps pl0 Tryz.func268 rfl (Nz rfl) ?_;refine Xi .pure (Xi _ (Yi (h1) ?_));exact .of_eq (congrArg vb (show true=wordC c by rw [ew,e]; rfl))
 rw [e] at h1;rcases Bt (capC c) with e2 | e2
 ·rw [e2] at h2;refine Ps pl0 Tryz.func268 rfl (Nz rfl) ?_;refine Xi .pure (Xi _ (Yi (h1) ?_));refine Xi .pure (Xi _ (Yi (h2) ?_));exact .of_eq (congrArg vb (show true=wordC c by rw [ew,e,e2]; rfl))
 rw [e2] at h2;rcases Bt (digitC c) with e3 | e3
 ·rw [e3] at h3;refine Ps pl0 Tryz.func268 rfl (Nz rfl) ?_;refine Xi .pure (Xi _ (Yi (h1) ?_));refine Xi .pure (Xi _ (Yi (h2) ?_));refine Xi .pure (Xi _ (Yi (h3) ?_));exact .of_eq (congrArg vb (show true=wordC c by rw [ew,e,e2,e3]; rfl))
 rw [e3] at h3;refine Ps pl0 Tryz.func268 rfl (Nz rfl) ?_;refine Xi .pure (Xi _ (Yi (h1) ?_));refine Xi .pure (Xi _ (Yi (h2) ?_));refine Xi .pure (Xi _ (Yi (h3) ?_));have eb:decide (c=95)=decide ((c.toNat:Int)=95):=by
  rw [Bool.eq_iff_iff,decide_eq_true_eq,decide_eq_true_eq];constructor
  ·intro h; subst h; rfl
  ·intro h; exact UInt8.toNat_inj.1 (by show c.toNat=95; omega)
 refine Yi ?_ ?_
 ·intro h;have h:(c.toNat:Int)=95:=h;exact .of_eq (congrArg vb (show true=wordC c by rw [ew,e,e2,e3,eb,decide_eq_true h]; rfl))
 ·intro h;have h:¬ (c.toNat:Int)=95:=h;exact .of_eq (congrArg vb (show false=wordC c by rw [ew,e,e2,e3,eb,decide_eq_false h]; rfl))
theorem at_data (s:ByteArray) (i:Nat) (h:i<s.data.toList.length):s.data[i]?=some s.data.toList[i]:=by
 rw [← Array.getElem?_toList]; exact Ge h
theorem c215 (s:ByteArray) (f:Nat) (q:UInt8→Bool) (hf:∀ c,PC f [vc c] (vb (q c))) (hs:s.data.toList.length<4611686018427387904):PC 243 [vs s,.v (fnV f)] (vb (s.data.toList.all q)):=by
 have hsz:s.size=s.data.toList.length:=by simp
 refine Ps pl0 Tryz.func243 rfl (Nz rfl) ?_;refine Xi {i:Nat // i≤s.data.toList.length∧∀ j (hj:j<s.data.toList.length),j<i→q s.data.toList[j]=true} (Xi (fun i=>⟨[(0,vs s),(1,.v (fnV f)),(7,vi s.size),(8,vi i.1)],[],hfree⟩) (Xi (fun i=>s.data.toList.length - i.1) (Yi (Xi ⟨0,Nat.zero_le _,fun j _ h=>by omega⟩ ?_) ?_)))
 ·exact ⟨Z4,Tv,Fh,Tv⟩
 intro ⟨i,h1,h2⟩;refine Yi ?_ ?_
 ·intro h;have h:(i:Int)<(s.size:Nat):=h;have h:i<s.data.toList.length:=by omega
  refine Xi s.data.toList[i] (Yi ⟨by show (0:Int)≤i; omega,by show s.data[((i:Nat):Int).toNat]?=_; rw [Int.toNat_natCast]; exact at_data s i h⟩ ?_);have hc:=hf s.data.toList[i];refine Or.elim (Bt (q s.data.toList[i])) (fun e=>?_) (fun e=>?_)
  ·rw [e] at hc;refine Xi .pure (Xi _ (Yi (hc) ?_));refine Yi (Ii i (by omega)) ?_;refine Xi ⟨i+1,by omega,fun j hj hji=>?_⟩ ?_
   ·rcases Nat.lt_or_ge j i with z | z
    ·exact h2 j hj z
    ·have:j=i:=by omega
     subst this; exact e
   ·exact ⟨Dl s.data.toList.length i (by omega),Z4,Tv,Fh,Tv⟩
  ·rw [e] at hc;refine Xi .pure (Xi _ (Yi (hc) ?_));have er:s.data.toList.all q=false:=by
    rw [Bool.eq_false_iff];intro ha
    have:=List.all_eq_true.1 ha _ (List.getElem_mem h)
    rw [e] at this; cases this
   exact .of_eq (congrArg vb er.symm)
 ·intro h;have h:¬ (i:Int)<(s.size:Nat):=h;have er:s.data.toList.all q=true:=List.all_eq_true.2 fun c hc=>by
   obtain ⟨j,hj,rfl⟩:=List.getElem_of_mem hc;exact h2 j hj (by omega)
  exact .of_eq (congrArg vb er.symm)
end Go.Eng

namespace Go.Proofs
open Go.Shelf
def Tryz.laySplit_ren:Go.Shelf.Ren:=⟨fun | 146=>240 | 221=>266 | 268=>287 | 138=>288 | 143=>289 | 195=>309 | 197=>310 | 218=>311 | 219=>312 | 260=>319 | 217=>320 | 225=>321 | 224=>322 | 267=>323 | 266=>326 | 314=>327 | n=>n,fun | 9=>9 | 31=>52 | 3=>3 | 4=>4 | 0=>0 | 105=>318 | 21=>21 | 5=>5 | 46=>155 | 119=>325 | 139=>328 | 138=>327 | 146=>294 | 51=>221 | n=>n,fun | 1=>0 | 3=>1 | 4=>2 | n=>n⟩
theorem Tryz.laySplit:Go.Proofs.Lays.n146 Tryz.prog Tryz.laySplit_ren:={
 mixed:=by kernel_rfl
 f138:=Tryz.func288.trans (congrArg some (by kernel_rfl))
 f143:=Tryz.func289.trans (congrArg some (by kernel_rfl))
 f146:=Tryz.func240.trans (congrArg some (by kernel_rfl))
 f195:=Tryz.func309.trans (congrArg some (by kernel_rfl))
 f197:=Tryz.func310.trans (congrArg some (by kernel_rfl))
 f217:=Tryz.func320.trans (congrArg some (by kernel_rfl))
 f218:=Tryz.func311.trans (congrArg some (by kernel_rfl))
 f219:=Tryz.func312.trans (congrArg some (by kernel_rfl))
 f221:=Tryz.func266.trans (congrArg some (by kernel_rfl))
 f224:=Tryz.func322.trans (congrArg some (by kernel_rfl))
 f225:=Tryz.func321.trans (congrArg some (by kernel_rfl))
 f260:=Tryz.func319.trans (congrArg some (by kernel_rfl))
 f266:=Tryz.func326.trans (congrArg some (by kernel_rfl))
 f267:=Tryz.func323.trans (congrArg some (by kernel_rfl))
 f268:=Tryz.func287.trans (congrArg some (by kernel_rfl))
 f314:=Tryz.func327.trans (congrArg some (by kernel_rfl))
 t0:=Tryz.underlying0
 a0:=Tryz.isAgg0
 z0:=Tryz.sizeOf0
 v0:=Tryz.zeroValue0
 t3:=Tryz.underlying3
 a3:=Tryz.isAgg3
 z3:=Tryz.sizeOf3
 v3:=Tryz.zeroValue3
 t4:=Tryz.underlying4
 a4:=Tryz.isAgg4
 z4:=Tryz.sizeOf4
 v4:=Tryz.zeroValue4
 t5:=Tryz.underlying5
 a5:=Tryz.isAgg5
 z5:=Tryz.sizeOf5
 v5:=Tryz.zeroValue5
 t9:=Tryz.underlying9
 a9:=Tryz.isAgg9
 z9:=Tryz.sizeOf9
 v9:=Tryz.zeroValue9
 t21:=Tryz.underlying21
 a21:=Tryz.isAgg21
 z21:=Tryz.sizeOf21
 v21:=Tryz.zeroValue21
 t31:=Tryz.underlying52
 a31:=Tryz.isAgg52
 z31:=Tryz.sizeOf52
 v31:=Tryz.zeroValue52
 t46:=Tryz.underlying155
 a46:=Tryz.isAgg155
 z46:=Tryz.sizeOf155
 v46:=Tryz.zeroValue155
 t51:=Tryz.underlying221
 a51:=Tryz.isAgg221
 z51:=Tryz.sizeOf221
 v51:=Tryz.zeroValue221
 t105:=Tryz.underlying318
 a105:=Tryz.isAgg318
 z105:=Tryz.sizeOf318
 v105:=Tryz.zeroValue318
 t119:=Tryz.underlying325
 a119:=Tryz.isAgg325
 z119:=Tryz.sizeOf325
 t138:=Tryz.underlying327
 a138:=Tryz.isAgg327
 z138:=Tryz.sizeOf327
 v138:=Tryz.zeroValue327
 t139:=Tryz.underlying328
 a139:=Tryz.isAgg328
 z139:=Tryz.sizeOf328
 v139:=Tryz.zeroValue328
 t146:=Tryz.underlying294
 a146:=Tryz.isAgg294
 z146:=Tryz.sizeOf294
 v146:=Tryz.zeroValue294
 g1:=by kernel_rfl
 g3:=by kernel_rfl
 g4:=by kernel_rfl }
def Tryz.layLast_ren:Go.Shelf.Ren:=⟨fun | 148=>213 | 222=>247 | 223=>248 | 269=>270 | n=>n,fun | 9=>9 | 3=>3 | 4=>4 | 5=>5 | 146=>294 | 51=>221 | 46=>155 | n=>n,fun | n=>n⟩
theorem Tryz.layLast:Go.Proofs.Lays.n148 Tryz.prog Tryz.layLast_ren:={
 mixed:=by kernel_rfl
 f148:=Tryz.func213.trans (congrArg some (by kernel_rfl))
 f222:=Tryz.func247.trans (congrArg some (by kernel_rfl))
 f223:=Tryz.func248.trans (congrArg some (by kernel_rfl))
 f269:=Tryz.func270.trans (congrArg some (by kernel_rfl))
 t3:=Tryz.underlying3
 a3:=Tryz.isAgg3
 z3:=Tryz.sizeOf3
 v3:=Tryz.zeroValue3
 t4:=Tryz.underlying4
 a4:=Tryz.isAgg4
 z4:=Tryz.sizeOf4
 v4:=Tryz.zeroValue4
 t5:=Tryz.underlying5
 a5:=Tryz.isAgg5
 z5:=Tryz.sizeOf5
 v5:=Tryz.zeroValue5
 t9:=Tryz.underlying9
 a9:=Tryz.isAgg9
 z9:=Tryz.sizeOf9
 v9:=Tryz.zeroValue9
 t46:=Tryz.underlying155
 a46:=Tryz.isAgg155
 z46:=Tryz.sizeOf155
 v46:=Tryz.zeroValue155
 t51:=Tryz.underlying221
 a51:=Tryz.isAgg221
 z51:=Tryz.sizeOf221
 v51:=Tryz.zeroValue221
 t146:=Tryz.underlying294
 a146:=Tryz.isAgg294
 z146:=Tryz.sizeOf294
 v146:=Tryz.zeroValue294 }
def Tryz.layCut_ren:Go.Shelf.Ren:=⟨fun | 103=>267 | 210=>290 | 206=>313 | n=>n,fun | 9=>9 | 4=>4 | 24=>128 | 3=>3 | n=>n,fun | n=>n⟩
theorem Tryz.layCut:Go.Proofs.Lays.n103 Tryz.prog Tryz.layCut_ren:={
 mixed:=by kernel_rfl
 f103:=Tryz.func267.trans (congrArg some (by kernel_rfl))
 f206:=Tryz.func313.trans (congrArg some (by kernel_rfl))
 f210:=Tryz.func290.trans (congrArg some (by kernel_rfl))
 t3:=Tryz.underlying3
 a3:=Tryz.isAgg3
 z3:=Tryz.sizeOf3
 v3:=Tryz.zeroValue3
 t4:=Tryz.underlying4
 a4:=Tryz.isAgg4
 z4:=Tryz.sizeOf4
 v4:=Tryz.zeroValue4
 t9:=Tryz.underlying9
 a9:=Tryz.isAgg9
 z9:=Tryz.sizeOf9
 v9:=Tryz.zeroValue9
 t24:=Tryz.underlying128
 a24:=Tryz.isAgg128
 z24:=Tryz.sizeOf128
 v24:=Tryz.zeroValue128 }
def Tryz.layCont_ren:Go.Shelf.Ren:=⟨fun | 144=>292 | 143=>289 | 219=>312 | 217=>320 | 225=>321 | 224=>322 | 267=>323 | 266=>326 | 314=>327 | n=>n,fun | 9=>9 | 4=>4 | 3=>3 | 5=>5 | 46=>155 | 146=>294 | 51=>221 | n=>n,fun | 1=>0 | n=>n⟩
theorem Tryz.layCont:Go.Proofs.Lays.n144 Tryz.prog Tryz.layCont_ren:={
 mixed:=by kernel_rfl
 f143:=Tryz.func289.trans (congrArg some (by kernel_rfl))
 f144:=Tryz.func292.trans (congrArg some (by kernel_rfl))
 f217:=Tryz.func320.trans (congrArg some (by kernel_rfl))
 f219:=Tryz.func312.trans (congrArg some (by kernel_rfl))
 f224:=Tryz.func322.trans (congrArg some (by kernel_rfl))
 f225:=Tryz.func321.trans (congrArg some (by kernel_rfl))
 f266:=Tryz.func326.trans (congrArg some (by kernel_rfl))
 f267:=Tryz.func323.trans (congrArg some (by kernel_rfl))
 f314:=Tryz.func327.trans (congrArg some (by kernel_rfl))
 t3:=Tryz.underlying3
 a3:=Tryz.isAgg3
 z3:=Tryz.sizeOf3
 v3:=Tryz.zeroValue3
 t4:=Tryz.underlying4
 a4:=Tryz.isAgg4
 z4:=Tryz.sizeOf4
 v4:=Tryz.zeroValue4
 t5:=Tryz.underlying5
 a5:=Tryz.isAgg5
 z5:=Tryz.sizeOf5
 v5:=Tryz.zeroValue5
 t9:=Tryz.underlying9
 a9:=Tryz.isAgg9
 z9:=Tryz.sizeOf9
 v9:=Tryz.zeroValue9
 t46:=Tryz.underlying155
 a46:=Tryz.isAgg155
 z46:=Tryz.sizeOf155
 v46:=Tryz.zeroValue155
 t51:=Tryz.underlying221
 a51:=Tryz.isAgg221
 z51:=Tryz.sizeOf221
 v51:=Tryz.zeroValue221
 t146:=Tryz.underlying294
 a146:=Tryz.isAgg294
 z146:=Tryz.sizeOf294
 v146:=Tryz.zeroValue294
 g1:=by kernel_rfl }
end Go.Proofs

namespace Go.Eng
open Go.Proofs
abbrev b47:ByteArray:=⟨#[47]⟩
abbrev partsB (s:ByteArray):List ByteArray:=Go.Lib.splitB b47 0 (Go.Lib.countB s b47) s
theorem parts_eq (s:ByteArray):(partsB s).map (·.data.toList)=splitL 47 s.data.toList:=splitB_eq s 47
abbrev encS (s:ByteArray):List AV:=[vs s]
theorem c212 (s:ByteArray) (hs:FewS s):PC 240 [vs s,vs b47] (sl encS (partsB s)):=by
 unfold FewS at hs;have h:=pcall_new (P:=Tryz.prog) (f:=240) (args:=[vs s,vs b47]) [.string s,.string b47] ((partsB s).map Value.string) 9 (ent 240 Tryz.func240 (by kernel_rfl) rfl) rfl (fun x hx=>by
  obtain ⟨y,_,rfl⟩:=List.mem_map.1 hx; rfl) (fun w hm=>by
  obtain ⟨m,hm⟩:=hm;have hl:(partsB s).length=Go.Lib.countB s b47+1:=Go.Lib.splitB_all b47 (by decide) 0 _ s rfl;refine (Any.strings_Split Tryz.laySplit (by kernel_rfl) s b47 m w (by omega) hm (by decide)).mono ?_
  rintro e w' ⟨rfl,rfl⟩
  exact ⟨by rw [Lm,hl],rfl⟩)
 rw [List.map_map] at h;exact h
theorem c188 (s p:ByteArray) (hs:FewS s):PC 213 [vs s,vs p] (vi (Go.Lib.lastIndex s.data.toList p.data.toList)):=by
 unfold FewS at hs;exact pcall_same [.string s,.string p] (.int .i64 (Go.Lib.lastIndex s.data.toList p.data.toList)) (ent 213 Tryz.func213 (by kernel_rfl) rfl) rfl (fun g w=>.v _ _) fun w _=>Any.strings_LastIndex Tryz.layLast s p (by omega) w
theorem c242 (s p:ByteArray):PC 267 [vs s,vs p] (.tup [vs ⟨(Go.Lib.trimPrefix s.data.toList p.data.toList).toArray⟩,vb (Go.Lib.hasPrefix s.data.toList p.data.toList)]):=by
 exact pcall_same [.string s,.string p] _ (ent 267 Tryz.func267 (by kernel_rfl) rfl) rfl (fun g w=>rep_vals [.string ⟨(Go.Lib.trimPrefix s.data.toList p.data.toList).toArray⟩,.bool (Go.Lib.hasPrefix s.data.toList p.data.toList)]) fun w _=>Any.strings_CutPrefix Tryz.layCut s p w
theorem c262 (s p:ByteArray) (hs:FewS s):PC 292 [vs s,vs p] (vb (Go.Lib.contains s.data.toList p.data.toList)):=by
 unfold FewS at hs;exact pcall_same [.string s,.string p] (.bool (Go.Lib.contains s.data.toList p.data.toList)) (ent 292 Tryz.func292 (by kernel_rfl) rfl) rfl (fun g w=>.v _ _) fun w hm=>by
  obtain ⟨m,hm⟩:=hm;exact Any.strings_Contains Tryz.layCont s p m w (by omega) hm
end Go.Eng

namespace Go.Eng
open Go.Proofs
theorem preL_eq:∀ x y:List UInt8,preL x y=x.isPrefixOf y
 | [],_=>by simp [preL]
 | _ :: _,[]=>rfl
 | a :: x,b :: y=>by
  rw [preL,List.isPrefixOf_cons_cons,preL_eq x y]
  rfl
theorem inL_eq (x:List UInt8):∀ y:List UInt8,inL x y=Go.Lib.contains y x
 | []=>by
  unfold Go.Lib.contains Go.Lib.index;cases x <;> rfl
 | b :: y=>by
  rw [inL,preL_eq,inL_eq x y];unfold Go.Lib.contains;have hg:=Go.Lib.index_ge y x
  conv=>rhs; unfold Go.Lib.index
  cases h:x.isPrefixOf (b :: y) with
  | true=>simp
  | false =>
   simp only [Bool.false_or,Bool.false_eq_true,if_false]
   by_cases h0:Go.Lib.index y x=-1
   ·rw [h0]; rfl
   ·have h1:(Go.Lib.index y x == -1)=false:=by simpa using h0
    rw [h1];simp only [Bool.false_eq_true,if_false];rw [decide_eq_true (by omega),decide_eq_true (by omega)]
theorem headD_zero:∀ (l:List UInt8) (h:0<l.length),l.headD 0=l[0]
 | [],h=>by simp at h
 | _ :: _,_=>rfl
abbrev keyBA:ByteArray:=⟨⟨keyTxt⟩⟩
theorem c244 (s:ByteArray) (hs:FewS s):PC 269 [vs s] (vb (keyB s.data.toList)):=by
 unfold FewS at hs;have hc:=c262 keyBA ((⟨#[32]⟩++s)++⟨#[32]⟩) (Nat.le_of_ble_eq_true (by kernel_rfl));have e:Go.Lib.contains keyBA.data.toList ((⟨#[32]⟩++s:ByteArray)++⟨#[32]⟩).data.toList=keyB s.data.toList:=by
  unfold keyB;rw [inL_eq]
  congr 1
 rw [e] at hc;refine Ps pl0 Tryz.func269 rfl (Nz rfl) ?_;refine Yi (by show (((1+s.size:Nat)):Int)≤_; omega) ?_;refine Yi (by show (((⟨#[32]⟩++s:ByteArray).size+1:Nat):Int)≤_; rw [ByteArray.size_append]; show (((1+s.size)+1:Nat):Int)≤_; omega) ?_;refine Xi .pure (Xi _ (Yi (hc) ?_));exact .refl _
theorem c214 (s:ByteArray) (hs:FewS s):PC 242 [vs s] (vb (isNameL s.data.toList)):=by
 have hk:=c244 s hs;have hw:=c215 s 268 wordC c243 (by unfold FewS at hs; simp; omega);have hsz:s.size=s.data.toList.length:=by simp
 have en:isNameL s.data.toList=(!s.data.toList.isEmpty&&decide (s.data.toList.length≤32)&&smallC (s.data.toList.headD 0)&&s.data.toList.all wordC&&!keyB s.data.toList):=rfl
 by_cases h0:s=⟨#[]⟩
 ·subst h0;refine Ps pl0 Tryz.func242 rfl (Nz rfl) ?_;refine Yi ?_ ?_
  ·intro h; exact absurd rfl (show (⟨#[]⟩ : ByteArray)≠⟨#[]⟩ from h)
  ·intro _; exact .refl _
 have h0' : s.data.toList≠[]:=fun e=>h0 (by
  have:s.data=#[]:=by rw [← Array.toList_inj]; exact e
  cases s; simp_all)
 have hlen:0<s.data.toList.length:=List.length_pos_iff.2 h0';have hemp:s.data.toList.isEmpty=false:=by
  cases hl:s.data.toList with
  | nil=>exact absurd hl h0'
  | cons a l=>rfl
 have hhd:s.data.toList.headD 0=s.data.toList[0]:=headD_zero _ hlen;have hsm:=c217 s.data.toList[0];refine Ps pl0 Tryz.func242 rfl (Nz rfl) ?_;refine Yi ?_ ?_
 rotate_left
 ·intro h; exact absurd h0 h
 intro _;refine Yi ?_ ?_
 rotate_left
 ·intro h;have h:¬ ((s.size:Nat):Int)≤32:=h;exact .of_eq (congrArg vb (show false=isNameL s.data.toList by rw [en,decide_eq_false (by omega:¬ s.data.toList.length≤32)]; simp))
 intro h;have h:((s.size:Nat):Int)≤32:=h;refine Xi s.data.toList[0] (Yi ⟨Int.le_refl _,at_data s 0 hlen⟩ ?_);refine Or.elim (Bt (smallC s.data.toList[0])) (fun e1=>?_) (fun e1=>?_)
 rotate_left
 ·rw [e1] at hsm;refine Xi .pure (Xi _ (Yi (hsm) ?_));exact .of_eq (congrArg vb (show false=isNameL s.data.toList by rw [en,hhd,e1]; simp))
 rw [e1] at hsm;refine Xi .pure (Xi _ (Yi (hsm) ?_));refine Or.elim (Bt (s.data.toList.all wordC)) (fun e2=>?_) (fun e2=>?_)
 rotate_left
 ·rw [e2] at hw;refine Xi .pure (Xi _ (Yi (hw) ?_));exact .of_eq (congrArg vb (show false=isNameL s.data.toList by rw [en,e2]; simp))
 rw [e2] at hw;refine Xi .pure (Xi _ (Yi (hw) ?_));have ef:isNameL s.data.toList=!keyB s.data.toList:=by rw [en,hemp,hhd,e1,e2,decide_eq_true (by omega:s.data.toList.length≤32)]; rfl
 refine Or.elim (Bt (keyB s.data.toList)) (fun e3=>?_) (fun e3=>?_)
 ·rw [e3] at hk;refine Xi .pure (Xi _ (Yi (hk) ?_));exact .of_eq (congrArg vb (show false=isNameL s.data.toList by rw [ef,e3]; rfl))
 ·rw [e3] at hk;refine Xi .pure (Xi _ (Yi (hk) ?_));exact .of_eq (congrArg vb (show true=isNameL s.data.toList by rw [ef,e3]; rfl))
end Go.Eng

namespace Go.Eng
open Go.Proofs
abbrev verV:Option Int→AV
 | some n=>.tup [vi n,vb true]
 | none=>.tup [vi 0,vb false]
theorem wrap_u8 {z:Int} (h0:0≤z) (h1:z<256):IntKind.u8.wrap z=z:=by
 show z % 256=z;omega
theorem digit_rng {c:UInt8} (h:digitC c=true):48≤c.toNat∧c.toNat≤57:=by
 unfold digitC at h;simp only [Bool.and_eq_true,decide_eq_true_eq] at h;exact ⟨UInt8.le_iff_toNat_le.1 h.1,UInt8.le_iff_toNat_le.1 h.2⟩
theorem numL_take (r:List UInt8) (i:Nat) (h:i<r.length):numL (r.take (i+1))=10*numL (r.take i)+((r[i].toNat:Int) - 48):=by
 unfold numL; rw [List.take_add_one,Ge h,List.foldl_append]; rfl
theorem c213 (s:ByteArray) (hs:FewS s):PC 241 [vs s] (verV (verL s.data.toList)):=by
 unfold FewS at hs;have hc:=c242 s ⟨#[118]⟩
 by_cases hp:∃ r,s.data.toList=118 :: r
 ·obtain ⟨r,hr⟩:=hp;have e1:Go.Lib.hasPrefix s.data.toList (⟨#[118]⟩ : ByteArray).data.toList=true:=by rw [hr]; rfl
  have e2:Go.Lib.trimPrefix s.data.toList (⟨#[118]⟩ : ByteArray).data.toList=r:=by unfold Go.Lib.trimPrefix; rw [e1,if_pos rfl,hr]; rfl
  rw [e1,e2] at hc;have hv:verL s.data.toList=if (r.isEmpty||decide (3<r.length)||(decide (1<r.length)&&decide (r.headD 0=48))||!r.all digitC)=true then none else some (numL r):=by rw [hr]; rfl
  have hrl:r.length<s.size:=by
   have:s.size=s.data.toList.length:=by simp
   rw [this,hr]; simp
  generalize hB:(⟨r.toArray⟩ : ByteArray)=rB at hc;have hBl:rB.data.toList=r:=by rw [← hB]
  have hBs:rB.size=r.length:=by rw [← hB]; rfl
  have hw:=c215 rB 246 digitC c218 (by rw [hBl]; omega);rw [hBl] at hw;have no:∀ {b:Bool},b=true→(if b=true then none else some (numL r))=(none:Option Int):=fun h=>if_pos h;refine Ps (plcut [2,4]) Tryz.func241 rfl (Nz rfl) ?_;refine Xi .pure (Xi _ (Yi (hc) ?_));refine Xi ⟨[(0,vs rB),(4,vb true)],[],hfree⟩ (Yi ⟨Z2,Tv,Fh,Tv⟩ ?_)
  refine Yi ?_ ?_
  ·intro h;have h:rB=⟨#[]⟩:=h
   have:r=[]:=by rw [← hBl,h]
   exact .of_eq (congrArg verV (show (none:Option Int)=verL s.data.toList by rw [hv,this]; rfl))
  intro h;have h:¬ rB=⟨#[]⟩:=h;have hne:r≠[]:=fun e=>h (by rw [← hB,e]);have hlen:0<r.length:=List.length_pos_iff.2 hne;have hemp:r.isEmpty=false:=by
   cases hl:r with
   | nil=>exact absurd hl hne
   | cons a l=>rfl
  refine Yi ?_ ?_
  ·intro h2;have h2:(3:Int)<((rB.size:Nat):Int):=h2;exact .of_eq (congrArg verV (show (none:Option Int)=verL s.data.toList by rw [hv,no]; rw [decide_eq_true (by omega:3<r.length)]; simp))
  intro h2;have h2:¬ (3:Int)<((rB.size:Nat):Int):=h2;have hl3:r.length≤3:=by omega
  have d3:decide (3<r.length)=false:=decide_eq_false (by omega);refine Yi ?_ ?_
  ·intro h3;have h3:(1:Int)<((rB.size:Nat):Int):=h3;have hat0:rB.data[(0:Int).toNat]?=some r[0]:=by
    show rB.data[0]?=_;rw [← Array.getElem?_toList,hBl]; exact Ge hlen
   refine Xi r[0] (Yi ⟨Int.le_refl _,hat0⟩ ?_);have hh:=headD_zero r hlen;refine Yi ?_ ?_
   ·intro h4;have h4:(r[0].toNat:Int)=48:=h4
    have:r[0]=48:=UInt8.toNat_inj.1 (by show r[0].toNat=48; omega)
    exact .of_eq (congrArg verV (show (none:Option Int)=verL s.data.toList by rw [hv,hh,this,decide_eq_true (by omega:1<r.length)]; simp))
   intro h4;have h4:¬ (r[0].toNat:Int)=48:=h4;have eo:(decide (1<r.length)&&decide (r.headD 0=48))=false:=by rw [hh,decide_eq_false (show ¬ r[0]=48 from fun e=>h4 (by rw [e]; rfl)),Bool.and_false]
   have hv2:verL s.data.toList=if (!r.all digitC)=true then none else some (numL r):=by rw [hv,hemp,d3,eo]; rfl
   refine Or.elim (Bt (r.all digitC)) (fun e3=>?_) (fun e3=>?_)
   rotate_left
   ·rw [e3] at hw;refine Xi .pure (Xi _ (Yi (hw) ?_));exact .of_eq (congrArg verV (show (none:Option Int)=verL s.data.toList by rw [hv2,e3]; rfl))
   rw [e3] at hw;refine Xi .pure (Xi _ (Yi (hw) ?_));have hv3:verL s.data.toList=some (numL r):=by rw [hv2,e3]; rfl
   refine Xi ⟨[(0,vs rB)],[],hfree⟩ (Yi ⟨Z1,Tv,Fh,Tv⟩ ?_)
   have z0:numL (r.take 0)=0:=rfl;refine Xi {i:Nat // i≤r.length∧0≤numL (r.take i)∧(i=0→numL (r.take i)≤0)∧(i≤1→numL (r.take i)≤9)∧(i≤2→numL (r.take i)≤99)∧numL (r.take i)≤999} (Xi (fun i=>⟨[(0,vs rB),(5,vi (numL (r.take i.1))),(39,vi rB.size),(40,vi i.1)],[],hfree⟩) (Xi (fun i=>r.length - i.1) (Yi (Xi ⟨0,Nat.zero_le _,by omega,fun _=>by omega,fun _=>by omega,fun _=>by omega,by omega⟩ ?_) ?_)))
   ·exact ⟨Z4,Tv,Fh,Tv⟩
   intro ⟨i,i1,i2,i3,i4,i5,i6⟩;refine Yi ?_ ?_
   ·intro h;have h:(i:Int)<(rB.size:Nat):=h;have h:i<r.length:=by omega
    have hdg:digitC r[i]=true:=List.all_eq_true.1 e3 _ (List.getElem_mem h);have hdr:=digit_rng hdg;have hnx:=numL_take r i h;have hwr:IntKind.u8.wrap ((r[i].toNat:Int) - 48)=(r[i].toNat:Int) - 48:=wrap_u8 (by omega) (by omega);have hat:rB.data[((i:Nat):Int).toNat]?=some r[i]:=by rw [Int.toNat_natCast,← Array.getElem?_toList,hBl]; exact Ge h
    refine Yi (by show InI64 (10*numL (r.take i)); unfold InI64; omega) ?_;refine Xi r[i] (Yi ⟨by show (0:Int)≤i; omega,hat⟩ ?_);refine Yi (by show InI64 (IntKind.u8.wrap ((r[i].toNat:Int) - 48)); rw [hwr]; unfold InI64; omega) ?_;refine Yi (by show InI64 (10*numL (r.take i)+IntKind.u8.wrap ((r[i].toNat:Int) - 48)); rw [hwr]; unfold InI64; omega) ?_;refine Yi (Ii i (by omega)) ?_;have e5:vi (10*numL (r.take i)+IntKind.u8.wrap ((r[i].toNat:Int) - 48))=vi (numL (r.take (i+1))):=by rw [hwr,hnx]
    refine Xi ⟨i+1,by omega,by omega,fun _=>by omega,fun _=>by omega,fun _=>by omega,by omega⟩ ?_;exact ⟨Dl r.length i (by omega),⟨Zr,⟨e5,rfl⟩,Zr,Zr,Tv⟩,Tv,Fh,Tv⟩
   ·intro h;have h:¬ (i:Int)<(rB.size:Nat):=h;have e6:AV.tup [vi (numL (r.take i)),vb true]=verV (verL s.data.toList):=by rw [hv3,List.take_of_length_le (by omega)]
    exact .of_eq e6
  ·intro h3;have h3:¬ (1:Int)<((rB.size:Nat):Int):=h3;have eo:(decide (1<r.length)&&decide (r.headD 0=48))=false:=by rw [decide_eq_false (by omega:¬ 1<r.length)]; rfl
   have hv2:verL s.data.toList=if (!r.all digitC)=true then none else some (numL r):=by rw [hv,hemp,d3,eo]; rfl
   refine Or.elim (Bt (r.all digitC)) (fun e3=>?_) (fun e3=>?_)
   rotate_left
   ·rw [e3] at hw;refine Xi .pure (Xi _ (Yi (hw) ?_));exact .of_eq (congrArg verV (show (none:Option Int)=verL s.data.toList by rw [hv2,e3]; rfl))
   rw [e3] at hw;refine Xi .pure (Xi _ (Yi (hw) ?_));have hv3:verL s.data.toList=some (numL r):=by rw [hv2,e3]; rfl
   refine Xi ⟨[(0,vs rB)],[],hfree⟩ (Yi ⟨Z1,Tv,Fh,Tv⟩ ?_)
   have z0:numL (r.take 0)=0:=rfl;refine Xi {i:Nat // i≤r.length∧0≤numL (r.take i)∧(i=0→numL (r.take i)≤0)∧(i≤1→numL (r.take i)≤9)∧(i≤2→numL (r.take i)≤99)∧numL (r.take i)≤999} (Xi (fun i=>⟨[(0,vs rB),(5,vi (numL (r.take i.1))),(39,vi rB.size),(40,vi i.1)],[],hfree⟩) (Xi (fun i=>r.length - i.1) (Yi (Xi ⟨0,Nat.zero_le _,by omega,fun _=>by omega,fun _=>by omega,fun _=>by omega,by omega⟩ ?_) ?_)))
   ·exact ⟨Z4,Tv,Fh,Tv⟩
   intro ⟨i,i1,i2,i3,i4,i5,i6⟩;refine Yi ?_ ?_
   ·intro h;have h:(i:Int)<(rB.size:Nat):=h;have h:i<r.length:=by omega
    have hdg:digitC r[i]=true:=List.all_eq_true.1 e3 _ (List.getElem_mem h);have hdr:=digit_rng hdg;have hnx:=numL_take r i h;have hwr:IntKind.u8.wrap ((r[i].toNat:Int) - 48)=(r[i].toNat:Int) - 48:=wrap_u8 (by omega) (by omega);have hat:rB.data[((i:Nat):Int).toNat]?=some r[i]:=by rw [Int.toNat_natCast,← Array.getElem?_toList,hBl]; exact Ge h
    refine Yi (by show InI64 (10*numL (r.take i)); unfold InI64; omega) ?_;refine Xi r[i] (Yi ⟨by show (0:Int)≤i; omega,hat⟩ ?_);refine Yi (by show InI64 (IntKind.u8.wrap ((r[i].toNat:Int) - 48)); rw [hwr]; unfold InI64; omega) ?_;refine Yi (by show InI64 (10*numL (r.take i)+IntKind.u8.wrap ((r[i].toNat:Int) - 48)); rw [hwr]; unfold InI64; omega) ?_;refine Yi (Ii i (by omega)) ?_;have e5:vi (10*numL (r.take i)+IntKind.u8.wrap ((r[i].toNat:Int) - 48))=vi (numL (r.take (i+1))):=by rw [hwr,hnx]
    refine Xi ⟨i+1,by omega,by omega,fun _=>by omega,fun _=>by omega,fun _=>by omega,by omega⟩ ?_;exact ⟨Dl r.length i (by omega),⟨Zr,⟨e5,rfl⟩,Zr,Zr,Tv⟩,Tv,Fh,Tv⟩
   ·intro h;have h:¬ (i:Int)<(rB.size:Nat):=h;have e6:AV.tup [vi (numL (r.take i)),vb true]=verV (verL s.data.toList):=by rw [hv3,List.take_of_length_le (by omega)]
    exact .of_eq e6
 ·have e1:Go.Lib.hasPrefix s.data.toList (⟨#[118]⟩ : ByteArray).data.toList=false:=by
   cases hl:s.data.toList with
   | nil=>rfl
   | cons a l =>
    have:a≠118:=fun e=>hp ⟨l,by rw [hl,e]⟩
    show (List.isPrefixOf [118] (a :: l))=false;rw [List.isPrefixOf_cons_cons]
    have:((118:UInt8) == a)=false:=by rw [beq_eq_false_iff_ne]; exact fun e=>this e.symm
    rw [this]; rfl
  have hv:verL s.data.toList=none:=by
   cases hl:s.data.toList with
   | nil=>rfl
   | cons a l =>
    have:a≠118:=fun e=>hp ⟨l,by rw [hl,e]⟩
    show (if a=118 then _ else none)=none;rw [if_neg this]
  rw [e1] at hc;refine Ps pl0 Tryz.func241 rfl (Nz rfl) ?_;refine Xi .pure (Xi _ (Yi (hc) ?_));exact .of_eq (congrArg verV hv.symm)
end Go.Eng

namespace Go.Eng
open Go.Proofs
abbrev majV:Option Int→AV
 | some n=>.tup [vi n,vi 0]
 | none=>.tup [vi 0,vi 4]
theorem splitL_len (c:UInt8):∀ (s x:List UInt8),x ∈ splitL c s→x.length≤s.length
 | [],x,h=>by
  rw [splitL] at h; rw [List.mem_singleton.1 h]; exact Nat.le_refl _
 | b :: r,x,h=>by
  have ih:=splitL_len c r;rw [splitL] at h;split at h
  ·rcases List.mem_cons.1 h with rfl | h
   ·exact Nat.zero_le _
   ·have:=ih x h; rw [List.length_cons]; omega
  ·split at h
   ·rw [List.mem_singleton.1 h]; rw [List.length_cons]; simp
   ·rename_i y l e;rcases List.mem_cons.1 h with rfl | h
    ·have:=ih y (by rw [e]; exact List.mem_cons_self ..); rw [List.length_cons,List.length_cons]; omega
    ·have:=ih x (by rw [e]; exact List.mem_cons_of_mem _ h); rw [List.length_cons]; omega
theorem part_few {p x:ByteArray} (hp:FewS p) (hx:x ∈ partsB p):FewS x:=by
 have h:x.data.toList ∈ splitL 47 p.data.toList:=by rw [← parts_eq]; exact List.mem_map.2 ⟨x,hx,rfl⟩
 have:=splitL_len 47 _ _ h
 unfold FewS at *
 have e1:x.size=x.data.toList.length:=by simp
 have e2:p.size=p.data.toList.length:=by simp
 omega
theorem parts_len (p:ByteArray):(partsB p).length=(splitL 47 p.data.toList).length:=by rw [← parts_eq,Lm]
theorem parts_pos (p:ByteArray):0<(partsB p).length:=by
 rw [show (partsB p).length=Go.Lib.countB p b47+1 from Go.Lib.splitB_all b47 (by decide) 0 _ p rfl]; omega
theorem parts_few (p:ByteArray):(partsB p).length≤p.size+1:=by
 rw [show (partsB p).length=Go.Lib.countB p b47+1 from Go.Lib.splitB_all b47 (by decide) 0 _ p rfl]
 have:=Go.Lib.countB_le b47 (by decide) p.size p (Nat.le_refl _); omega
theorem parts_last (p:ByteArray) (h:(partsB p).length - 1<(partsB p).length):(splitL 47 p.data.toList).getLastD []=((partsB p)[(partsB p).length - 1]).data.toList:=by
 rw [← parts_eq,List.getLastD_eq_getLast?,List.getLast?_eq_getElem?,Lm,List.getElem?_map,Ge h]; rfl
theorem parts_all (p:ByteArray):(splitL 47 p.data.toList).all segOk=(partsB p).all fun x=>segOk x.data.toList:=by
 rw [← parts_eq,List.all_map]; rfl
theorem c186 (p:ByteArray) (hp:FewS p):PC 211 [vs p] (majV (pathMajor p)):=by
 have hps:=parts_few p;have hpos:=parts_pos p;have hp1:(partsB p).length - 1<(partsB p).length:=by omega
 have hsz:p.size=p.data.toList.length:=by simp
 have hfp:∀ {x},x ∈ partsB p→FewS x:=fun h=>part_few hp h;unfold FewS at hp;have hg1:((partsB p).map encS)[((((partsB p).map encS).length:Int) - 1).toNat]?=some (encS (partsB p)[(partsB p).length - 1]):=by
  rw [Lm,show (((partsB p).length:Int) - 1).toNat=(partsB p).length - 1 by omega]; exact map_at (Ge hp1)
 have hv:=c213 (partsB p)[(partsB p).length - 1] (hfp (List.getElem_mem hp1));have em:pathMajor p=match verL ((partsB p)[(partsB p).length - 1]).data.toList with
  | none=>none
  | some n=>if (decide (64<p.data.toList.length)||decide ((partsB p).length<2))=true then none else if ((partsB p).all fun x=>segOk x.data.toList)=true then some n else none:=by
  unfold pathMajor majorL;rw [parts_last p hp1,parts_all,← parts_len];cases verL ((partsB p)[(partsB p).length - 1]).data.toList with
  | none=>rfl
  | some n=>rfl
 cases hve:verL ((partsB p)[(partsB p).length - 1]).data.toList with
 | none =>
  rw [hve] at hv em;refine Ps (plcut [2,3]) Tryz.func211 rfl (Nz rfl) ?_;refine Xi .pure (Xi _ (Yi (c212 p hp) ?_));refine Xi ⟨[(0,vs p),(4,sl encS (partsB p))],[],hfree⟩ (Yi ⟨Z2,Tv,Fh,Tv⟩ ?_)
  refine Yi (by show InI64 ((((partsB p).map encS).length:Int) - 1); unfold InI64; rw [Lm]; omega) ?_;refine Xi (encS (partsB p)[(partsB p).length - 1]) (Yi (Yi (by show (0:Int)≤(((partsB p).map encS).length:Int) - 1; rw [Lm]; omega) hg1) (Yi rfl ?_));refine Xi .pure (Xi _ (Yi (hv) ?_));refine Xi ⟨[(0,vs p),(4,sl encS (partsB p)),(5,vi 0),(6,vb false)],[],hfree⟩ (Yi ⟨Z4,Tv,Fh,Tv⟩ ?_)
  exact .of_eq (congrArg majV em.symm)
 | some n =>
  rw [hve] at hv em;have em:pathMajor p=if (decide (64<p.data.toList.length)||decide ((partsB p).length<2))=true then none else if ((partsB p).all fun x=>segOk x.data.toList)=true then some n else none:=em
  refine Ps (plcut [2,3,5]) Tryz.func211 rfl (Nz rfl) ?_;refine Xi .pure (Xi _ (Yi (c212 p hp) ?_));refine Xi ⟨[(0,vs p),(4,sl encS (partsB p))],[],hfree⟩ (Yi ⟨Z2,Tv,Fh,Tv⟩ ?_)
  refine Yi (by show InI64 ((((partsB p).map encS).length:Int) - 1); unfold InI64; rw [Lm]; omega) ?_;refine Xi (encS (partsB p)[(partsB p).length - 1]) (Yi (Yi (by show (0:Int)≤(((partsB p).map encS).length:Int) - 1; rw [Lm]; omega) hg1) (Yi rfl ?_));refine Xi .pure (Xi _ (Yi (hv) ?_));refine Xi ⟨[(0,vs p),(4,sl encS (partsB p)),(5,vi n),(6,vb true)],[],hfree⟩ (Yi ⟨Z4,Tv,Fh,Tv⟩ ?_)
  refine Yi ?_ ?_
  ·intro h;have h:(64:Int)<((p.size:Nat):Int):=h;exact .of_eq (congrArg majV (show (none:Option Int)=pathMajor p by rw [em,decide_eq_true (by omega:64<p.data.toList.length)]; rfl))
  intro h;have h:¬ (64:Int)<((p.size:Nat):Int):=h;have d1:decide (64<p.data.toList.length)=false:=decide_eq_false (by omega);refine Yi ?_ ?_
  ·intro h2;have h2:(((partsB p).map encS).length:Int)<2:=h2;rw [Lm] at h2;exact .of_eq (congrArg majV (show (none:Option Int)=pathMajor p by rw [em,d1,decide_eq_true (by omega:(partsB p).length<2)]; rfl))
  intro h2;have h2:¬ (((partsB p).map encS).length:Int)<2:=h2;have d2:decide ((partsB p).length<2)=false:=decide_eq_false (by rw [Lm] at h2; omega);have em2:pathMajor p=if ((partsB p).all fun x=>segOk x.data.toList)=true then some n else none:=by rw [em,d1,d2]; rfl
  refine Xi ⟨[(4,sl encS (partsB p)),(5,vi n)],[],hfree⟩ (Yi ⟨Z2,Tv,Fh,Tv⟩ ?_)
  refine Xi {i:Nat // i≤(partsB p).length∧∀ j (hj:j<(partsB p).length),j<i→segOk ((partsB p)[j]).data.toList=true} (Xi (fun i=>⟨[(5,vi n),(33,sl encS (partsB p)),(34,vi ((partsB p).map encS).length),(35,vi i.1)],[],hfree⟩) (Xi (fun i=>(partsB p).length - i.1) (Yi (Xi ⟨0,Nat.zero_le _,fun j _ h=>by omega⟩ ?_) ?_)))
  ·exact ⟨Z4,Tv,Fh,Tv⟩
  intro ⟨i,i1,i2⟩;refine Yi ?_ ?_
  ·intro h;have h:(i:Int)<((partsB p).map encS).length:=h;have h:i<(partsB p).length:=by simpa using h
   have hg:(partsB p)[i]?=some (partsB p)[i]:=Ge h;refine Xi (encS (partsB p)[i]) (Yi (Yi (Nn i) (by simp [hg])) (Yi rfl ?_));have hfi:=hfp (List.getElem_mem h);have hn:=c214 (partsB p)[i] hfi;have ha:=c215 (partsB p)[i] 244 segC c216 (by unfold FewS at hfi; have e1:(partsB p)[i].size=(partsB p)[i].data.toList.length:=(by simp); omega);have no:segOk ((partsB p)[i]).data.toList=false→(none:Option Int)=pathMajor p:=fun e=>by
    rw [em2,if_neg];intro hall
    have:=List.all_eq_true.1 hall _ (List.getElem_mem h)
    rw [e] at this; cases this
   refine Or.elim (Bt (isNameL ((partsB p)[i]).data.toList)) (fun e1=>?_) (fun e1=>?_)
   rotate_left
   ·rw [e1] at hn;refine Xi .pure (Xi _ (Yi (hn) ?_));exact .of_eq (congrArg majV (no (by unfold segOk; rw [e1]; rfl)))
   rw [e1] at hn;refine Xi .pure (Xi _ (Yi (hn) ?_));refine Or.elim (Bt (((partsB p)[i]).data.toList.all segC)) (fun e2=>?_) (fun e2=>?_)
   rotate_left
   ·rw [e2] at ha;refine Xi .pure (Xi _ (Yi (ha) ?_));exact .of_eq (congrArg majV (no (by unfold segOk; rw [e1]; exact e2)))
   rw [e2] at ha;refine Xi .pure (Xi _ (Yi (ha) ?_));refine Yi (Ii i (by omega)) ?_;refine Xi ⟨i+1,by omega,fun j hj hji=>?_⟩ ?_
   ·rcases Nat.lt_or_ge j i with z | z
    ·exact i2 j hj z
    ·have:j=i:=by omega
     subst this; unfold segOk; rw [e1]; exact e2
   ·exact ⟨by show (partsB p).length - (i+1)<(partsB p).length - i; omega,Z4,Tv,Fh,Tv⟩
  ·intro h;have h:¬ (i:Int)<((partsB p).map encS).length:=h;have h:¬ i<(partsB p).length:=by simpa using h
   have e:some n=pathMajor p:=by
    rw [em2,if_pos];exact List.all_eq_true.2 fun x hx=>by
     obtain ⟨j,hj,rfl⟩:=List.getElem_of_mem hx;exact i2 j hj (by omega)
   exact .of_eq (congrArg majV e)
end Go.Eng

namespace Go.Eng
open Go.Proofs
theorem c187 (p:ByteArray) (hp:FewS p):PC 212 [vs p] (vb (pathMajor p).isSome):=by
 have hc:=c186 p hp;cases h:pathMajor p with
 | none =>
  rw [h] at hc;refine Ps pl0 Tryz.func212 rfl (Nz rfl) ?_;refine Xi .pure (Xi _ (Yi (hc) ?_));refine Yi ?_ ?_
  ·intro h; exact absurd (show (4:Int)=0 from h) (by decide)
  ·intro _; exact .refl _
 | some n =>
  rw [h] at hc;refine Ps pl0 Tryz.func212 rfl (Nz rfl) ?_;refine Xi .pure (Xi _ (Yi (hc) ?_));refine Yi ?_ ?_
  ·intro _; exact .refl _
  ·intro h; exact absurd rfl h
theorem splitL_mem (c:UInt8):∀ s:List UInt8,2≤(splitL c s).length→c ∈ s
 | [],h=>by rw [splitL] at h; simp at h
 | b :: r,h=>by
  rw [splitL] at h
  by_cases e:b=c
  ·exact e▸List.mem_cons_self ..
  ·rw [if_neg e] at h;refine List.mem_cons_of_mem _ (splitL_mem c r ?_);cases hs:splitL c r with
   | nil=>rw [hs] at h; simp at h
   | cons x l=>rw [hs] at h; simpa using h
theorem last_rng {p:ByteArray} {m:Int} (h:pathMajor p=some m):0≤Go.Lib.lastIndex p.data.toList [47]∧Go.Lib.lastIndex p.data.toList [47]≤p.size:=by
 have h2:2≤(splitL 47 p.data.toList).length:=by
  unfold pathMajor majorL at h;split at h
  ·cases h
  ·split at h
   ·cases h
   ·rename_i hn;simp only [Bool.or_eq_true,decide_eq_true_eq] at hn;omega
 have hm:=splitL_mem 47 _ h2;obtain ⟨i,hi,e⟩:=List.getElem_of_mem hm;have hsz:p.size=p.data.toList.length:=by simp
 unfold Go.Lib.lastIndex;rw [if_pos (by simp only [List.length_singleton]; omega)];have hocc:Go.Lib.occAt p.data.toList [47] i=true:=by
  unfold Go.Lib.occAt;rw [List.drop_eq_getElem_cons hi,e]; simp
 rcases Go.Lib.lastOcc_spec p.data.toList [47] (p.data.toList.length - [(47:UInt8)].length+1) with ⟨_,h3⟩ | ⟨j,h3,h4,_⟩
 ·have:=h3 i (by simp only [List.length_singleton]; omega)
  rw [hocc] at this; cases this
 ·rw [h4]; simp only [List.length_singleton] at h3; omega
abbrev lineNm (p:ByteArray):ByteArray:=p.extract 0 (Go.Lib.lastIndex p.data.toList [47]).toNat
theorem c155:Line lineNm:=by
 intro p hp;have hc:=c186 p hp;have hi:=c187 p hp;unfold lineV;cases h:pathMajor p with
 | none =>
  rw [h] at hc hi;refine Ps pl0 Tryz.func163 rfl (Nz rfl) ?_;refine Xi .pure (Xi _ (Yi (hc) ?_));refine Xi .pure (Xi _ (Yi (hi) ?_));exact .refl _
 | some n =>
  rw [h] at hc hi;obtain ⟨l1,l2⟩:=last_rng h;have hl:PC 213 [vs p,vs b47] (vi (Go.Lib.lastIndex p.data.toList [47])):=c188 p b47 hp;refine Ps pl0 Tryz.func163 rfl (Nz rfl) ?_;refine Xi .pure (Xi _ (Yi (hc) ?_));refine Xi .pure (Xi _ (Yi (hi) ?_));refine Yi ?_ ?_
  ·intro h; exact absurd rfl h
  intro _;refine Xi .pure (Xi _ (Yi (hl) ?_));refine Yi ⟨Int.le_refl _,l1,l2⟩ ?_;exact .refl _
end Go.Eng

namespace Go.Eng
open Go.Proofs
end Go.Eng

namespace Go.Eng
open Go.Proofs
end Go.Eng

namespace Go.Eng
open Go.Proofs
theorem reqs_few {l:List Rq} (h:checkRqs l=0):l.length≤16:=by
 unfold checkRqs at h;split at h
 ·cases h
 ·omega
theorem ix_few {x:List Rl} (h:checkIx x=0):x.length≤256∧∀ r ∈ x,r.reqs.length≤16:=by
 have h1:x.length≤256:=by
  unfold checkIx at h;split at h
  ·cases h
  ·omega
 exact ⟨h1,fun r hr=>reqs_few ((checkIx_ok h).1 r hr).reqs⟩
theorem flat_few {x:List Rl} (h:∀ r ∈ x,r.reqs.length≤16):((x.map (·.reqs)).flatten).length≤x.length*16:=by
 induction x with
 | nil=>simp
 | cons r x ih =>
  rw [List.map_cons,List.flatten_cons,List.length_append,List.length_cons]
  have:=h r (List.mem_cons_self ..)
  have:=ih fun s hs=>h s (List.mem_cons_of_mem _ hs)
  omega
theorem pathsU_few {x:List Rl} {roots:List Rq} {l:List Nf} (h1:checkIx x=0) (h2:checkRqs roots=0) (h3:l.length≤65536):(pathsU x roots l).length≤100000:=by
 obtain ⟨a,b⟩:=ix_few h1
 have:=flat_few b
 have:=reqs_few h2
 unfold pathsU;simp only [List.length_append,Lm];omega
theorem InU.fewI {U:List ByteArray} {t:List Tm} (h:InU U t) (hu:U.length≤100000):FewI t :=
 ⟨by have:=h.len; omega,fun u hu=>few_can (h.1.canon u hu)⟩
end Go.Eng

namespace Go.Eng
open Go.Proofs
abbrev ixV (x:List Rl) (ifs:List (List AV)):AV:=.agg (Ic x ifs)
end Go.Eng

namespace Go.Eng
open Go.Proofs
abbrev shK:Shape:=⟨true,[.str,.int .i64,.int .i64,.int .i64]⟩
abbrev keyVl (y:Sl):Value:=.agg #[.string y.path,.int .i64 y.ver.a,.int .i64 y.ver.b,.int .i64 y.ver.c]
abbrev kvR (r:Rl):Value × AV:=(keyVl (keyR r),.agg (encRl r))
def pathsIx:List Rl→List ByteArray→List ByteArray
 | [],acc=>acc
 | r :: x,acc=>pathsIx x (if acc.any (fun p=>decide (p=r.path)) then acc else acc++[r.path])
abbrev kvP (x:List Rl) (p:ByteArray):Value × AV:=(.string p,sl encRl (x.filter fun r=>decide (r.path=p)))
abbrev tblV (x:List Rl):AV:=if checkIx x=0 then .tup [.agg [.cmap shK (x.map kvR),.cmap shS ((pathsIx x []).map (kvP x))],vi 0] else .tup [.agg [.cmap shK [],.cmap shS []],vi (checkIx x)]
abbrev H84 (x:List Rl) (ifs:List (List AV)):Prop:=PC 95 [ixV x ifs] (tblV x)
theorem key_inj {y z:Sl} (h:keyVl y=keyVl z):y=z:=by
 obtain ⟨p,⟨a,b,c⟩⟩:=y;obtain ⟨q,⟨d,e,f⟩⟩:=z;simp only [keyVl,Value.agg.injEq,Array.mk.injEq,List.cons.injEq,Value.string.injEq,Value.int.injEq,true_and,and_true] at h;obtain ⟨rfl,rfl,rfl,rfl⟩:=h
 rfl
theorem kvR_mem {x:List Rl} {y:Sl} {a:AV} (h:(keyVl y,a) ∈ x.map kvR):∃ r ∈ x,keyR r=y∧a=.agg (encRl r):=by
 obtain ⟨r,h1,h2⟩:=List.mem_map.1 h;simp only [kvR,Prod.mk.injEq] at h2;exact ⟨r,h1,key_inj h2.1,h2.2.symm⟩
end Go.Eng

namespace Go.Eng
open Go.Proofs
abbrev spansA (l:List Rl):SpanL:=(l.filter fun r=>!r.yanked).map fun r=>(plc r.ver,plc r.ver+1)
theorem spansA_len (l:List Rl):(spansA l).length≤l.length:=by
 unfold spansA; rw [Lm]; exact List.length_filter_le _ _
theorem kvP_mem {x:List Rl} {ps:List ByteArray} {p:ByteArray} {a:AV} (h:(Value.string p,a) ∈ ps.map (kvP x)):a=sl encRl (x.filter fun r=>decide (r.path=p)):=by
 obtain ⟨q,_,h2⟩:=List.mem_map.1 h;simp only [kvP,Prod.mk.injEq,Value.string.injEq] at h2;rw [← h2.2,h2.1]
theorem any_path {acc:List ByteArray} {p:ByteArray} : (acc.any fun q=>decide (q=p))=true↔p ∈ acc:=by
 rw [List.any_eq_true];constructor
 ·rintro ⟨q,h1,h2⟩; rw [← of_decide_eq_true h2]; exact h1
 ·intro h; exact ⟨p,h,by simp⟩
theorem pathsIx_mem:∀ (x:List Rl) (acc:List ByteArray) (p:ByteArray),p ∈ pathsIx x acc↔p ∈ acc∨∃ r ∈ x,r.path=p
 | [],acc,p=>by simp [pathsIx]
 | r :: x,acc,p=>by
  rw [pathsIx,pathsIx_mem x];constructor
  ·rintro (h | ⟨s,h1,h2⟩)
   ·split at h
    ·exact .inl h
    ·rcases List.mem_append.1 h with h | h
     ·exact .inl h
     ·exact .inr ⟨r,List.mem_cons_self ..,(List.mem_singleton.1 h).symm⟩
   ·exact .inr ⟨s,List.mem_cons_of_mem _ h1,h2⟩
  ·rintro (h | ⟨s,h1,h2⟩)
   ·left
    split
    ·exact h
    ·exact List.mem_append_left _ h
   ·rcases List.mem_cons.1 h1 with rfl | h1
    ·left
     split
     ·rename_i hh; rw [← h2]; exact any_path.1 hh
     ·rw [← h2]; exact List.mem_append_right _ (List.mem_singleton.2 rfl)
    ·exact .inr ⟨s,h1,h2⟩
abbrev pl195:Pol:=⟨[],[(7,2)],[],[],[],[],[],[],[],[],[2,3,6,7,9]⟩
theorem c195_loop (L:List Rl) (i:Nat) (h:i<L.length):spansA (L.take (i+1))=spansA (L.take i)++(if L[i].yanked then [] else [(plc L[i].ver,plc L[i].ver+1)]):=by
 unfold spansA;rw [List.take_add_one,Ge h,List.filter_append,List.map_append]
 congr 1
 cases hy:L[i].yanked <;> simp [hy]
theorem c195 (x:List Rl) (ifs:List (List AV)) (p:ByteArray) (h84:H84 x ifs):PC 61 [ixV x ifs,vs p] (sl encSpan (availP x p)):=by
 by_cases h0:checkIx x=0
 ·have h84:PC 95 [ixV x ifs] (.tup [.agg [.cmap shK (x.map kvR),.cmap shS ((pathsIx x []).map (kvP x))],vi 0]):=by
   have:=h84; unfold H84 tblV at this; rw [if_pos h0] at this; exact this
  have hxl:=(ix_few h0).1;obtain ⟨L,hLd⟩ : ∃ L,L=x.filter fun r=>decide (r.path=p):=⟨_,rfl⟩;have hL:ofPath x p=L:=by unfold ofPath; rw [if_neg (by omega),hLd]
  have hLl:L.length≤256:=by have:=List.length_filter_le (fun r:Rl=>decide (r.path=p)) x; rw [hLd]; omega
  refine Ps pl195 Tryz.func61 rfl (Nz rfl) ?_;refine Yi (Nz rfl) ?_;refine Xi .pure (Xi _ (Yi (h84) ?_));refine Yi (Nz rfl) ?_;refine Xi ⟨[(1,vs p),(5,.ref 5 0)],[(5,.cells [.cmap shK (x.map kvR),.cmap shS ((pathsIx x []).map (kvP x))])],hfree⟩ (Yi ⟨Z2,Z1,Fh,Tv⟩ ?_)
  refine Xi ⟨[(1,vs p),(5,.ref 5 0),(7,.slice (.id 7 2) [])],[(5,.cells [.cmap shK (x.map kvR),.cmap shS ((pathsIx x []).map (kvP x))]),(7,.tok 2 0)],hfree⟩ (Yi ⟨Z3,Z2,Fh,Tv⟩ ?_)
  refine Yi ?_ ?_
  ·intro a ha;have ea:a=sl encRl L:=by rw [hLd]; exact kvP_mem ha
   subst ea;refine Xi {i:Nat // i≤L.length} (Xi (fun i=>⟨[(7,.slice (.id 7 2) ((spansA (L.take i.1)).map encSpan)),(18,sl encRl L),(19,vi (L.map encRl).length),(20,vi i.1)],[(7,.tok 2 ((spansA (L.take i.1)).map encSpan).length)],hfree⟩) (Xi (fun i=>L.length - i.1) (Yi (Xi ⟨0,Nat.zero_le _⟩ ?_) ?_)))
   ·exact ⟨Z4,Z1,Fh,Tv⟩
   intro ⟨i,i1⟩;have hsl:=spansA_len (L.take i);rw [List.length_take] at hsl;refine Yi ?_ ?_
   ·intro h;have h:(i:Int)<(L.map encRl).length:=h;have h:i<L.length:=by simpa using h
    have hg:L[i]?=some L[i]:=Ge h;refine Xi (encRl L[i]) (Yi (Yi (Nn i) (by simp [hg])) (Yi rfl ?_));refine Yi (Nz rfl) (Yi (Nz rfl) ?_);refine Xi ⟨[(7,.slice (.id 7 2) ((spansA (L.take i)).map encSpan)),(9,.ref 9 0),(18,sl encRl L),(19,vi (L.map encRl).length),(20,vi i)],[(7,.tok 2 ((spansA (L.take i)).map encSpan).length),(9,.cells (encRl L[i]))],hfree⟩ (Yi ⟨Z5,Z2,Fh,Tv⟩ ?_)
    refine Yi ?_ ?_
    ·intro hy;have hy:L[i].yanked=true:=hy;refine Yi (Ii i (by omega)) ?_;have es:spansA (L.take (i+1))=spansA (L.take i):=by rw [c195_loop L i h,hy]; simp
     have e1:AV.slice (.id 7 2) ((spansA (L.take i)).map encSpan)=.slice (.id 7 2) ((spansA (L.take (i+1))).map encSpan):=by rw [es]
     have e2:HO.tok 2 ((spansA (L.take i)).map encSpan).length=.tok 2 ((spansA (L.take (i+1))).map encSpan).length:=by rw [es]
     refine Xi ⟨i+1,by omega⟩ ?_;exact ⟨Dl L.length i (by omega),⟨⟨e1,rfl⟩,Zr,Zr,Zr,Tv⟩,⟨⟨e2,rfl⟩,Tv⟩,Fh,Tv⟩
    ·intro hy;have hy:L[i].yanked=false:=hy;have hpl:=plc_rng L[i].ver;refine Xi ⟨[(7,.slice (.id 7 2) ((spansA (L.take i)).map encSpan)),(9,.ref 9 0),(18,sl encRl L),(19,vi (L.map encRl).length),(20,vi i)],[(7,.tok 2 ((spansA (L.take i)).map encSpan).length),(9,.cells (encRl L[i]))],hfree⟩ (Yi ⟨Z5,Z2,Fh,Tv⟩ ?_)
     refine Yi (Nz rfl) ?_;refine Xi _ (Yi (c88 L[i]) ?_);refine Yi (Nz rfl) ?_;refine Xi _ (Yi (c88 L[i]) ?_);refine Yi (by show InI64 (plc L[i].ver+1); unfold InI64; omega) ?_;have bulk:AllLen 2 [[vi (plc L[i].ver),vi (plc L[i].ver+1)]]∧((spansA (L.take i)).map encSpan).length=((spansA (L.take i)).map encSpan).length∧(((spansA (L.take i)).map encSpan).length+[[vi (plc L[i].ver),vi (plc L[i].ver+1)]].length)*16≤140737488355328∧((spansA (L.take i)).map encSpan).length+[[vi (plc L[i].ver),vi (plc L[i].ver+1)]].length≤9223372036854775807 :=
      ⟨⟨rfl,trivial⟩,rfl,by rw [Lm,List.length_singleton]; omega,by rw [Lm,List.length_singleton]; omega⟩
     refine Yi bulk ?_;refine Yi (by kernel_rfl) ?_;refine Yi (Ii i (by omega)) ?_;have es:spansA (L.take (i+1))=spansA (L.take i)++[(plc L[i].ver,plc L[i].ver+1)]:=by rw [c195_loop L i h,hy]; simp
     have e1:AV.slice (.id 7 2) ((spansA (L.take i)).map encSpan++[[vi (plc L[i].ver),vi (plc L[i].ver+1)]])=.slice (.id 7 2) ((spansA (L.take (i+1))).map encSpan):=by rw [es,List.map_append]; rfl
     have e2:HO.tok 2 (((spansA (L.take i)).map encSpan).length+[[vi (plc L[i].ver),vi (plc L[i].ver+1)]].length)=.tok 2 ((spansA (L.take (i+1))).map encSpan).length:=by rw [es,List.map_append,List.length_append]; rfl
     refine Xi ⟨i+1,by omega⟩ ?_;exact ⟨Dl L.length i (by omega),⟨⟨e1,rfl⟩,Zr,Zr,Zr,Tv⟩,⟨⟨e2,rfl⟩,Tv⟩,Fh,Tv⟩
   ·intro h;have h:¬ (i:Int)<(L.map encRl).length:=h;have h:¬ i<L.length:=by simpa using h
    have et:L.take i=L:=List.take_of_length_le (by omega);refine Xi ⟨[(7,.slice (.id 7 2) ((spansA (L.take i)).map encSpan))],[(7,.tok 2 ((spansA (L.take i)).map encSpan).length)],hfree⟩ (Yi ⟨Z1,Z1,Fh,Tv⟩ ?_)
    have hc:PC 116 [sl encSpan (spansA (L.take i))] (sl encSpan (canon (spansA (L.take i)))):=c102 _ (by unfold Few; omega);refine Xi .pure (Xi _ (Yi (hc) ?_));exact .of_eq (show sl encSpan (canon (spansA (L.take i)))=sl encSpan (availP x p) by rw [et]; unfold availP; rw [hL])
  ·intro hn;have hL:ofPath x p=[]:=by
    rw [hL,hLd,List.filter_eq_nil_iff];intro r hr he;have he:=of_decide_eq_true he;exact hn _ (List.mem_map.2 ⟨p,(pathsIx_mem x [] p).2 (.inr ⟨r,hr,he⟩),rfl⟩)
   refine Xi Unit (Xi (fun _=>⟨[(7,.slice (.id 7 2) []),(19,vi 0),(20,vi 0)],[(7,.tok 2 0)],hfree⟩) (Xi (fun _=>0) (Yi (Xi () ?_) ?_)))
   ·exact ⟨Z3,Z1,Fh,Tv⟩
   intro _;refine Yi ?_ ?_
   ·intro h; exact absurd (show (0:Int)<0 from h) (by decide)
   intro _;refine Xi ⟨[(7,.slice (.id 7 2) [])],[(7,.tok 2 0)],hfree⟩ (Yi ⟨Z1,Z1,Fh,Tv⟩ ?_)
   have hc:PC 116 [sl encSpan []] (sl encSpan (canon [])):=c102 [] (by unfold Few; simp);refine Xi .pure (Xi _ (Yi (hc) ?_));exact .of_eq (show sl encSpan (canon [])=sl encSpan (availP x p) by unfold availP; rw [hL]; rfl)
 ·have h84:PC 95 [ixV x ifs] (.tup [.agg [.cmap shK [],.cmap shS []],vi (checkIx x)]):=by
   have:=h84; unfold H84 tblV at this; rw [if_neg h0] at this; exact this
  have hL:ofPath x p=[]:=by unfold ofPath; rw [if_pos h0]
  refine Ps pl195 Tryz.func61 rfl (Nz rfl) ?_;refine Yi (Nz rfl) ?_;refine Xi .pure (Xi _ (Yi (h84) ?_));refine Yi (Nz rfl) ?_;refine Xi ⟨[(1,vs p),(5,.ref 5 0)],[(5,.cells [.cmap shK [],.cmap shS []])],hfree⟩ (Yi ⟨Z2,Z1,Fh,Tv⟩ ?_)
  refine Xi ⟨[(1,vs p),(5,.ref 5 0),(7,.slice (.id 7 2) [])],[(5,.cells [.cmap shK [],.cmap shS []]),(7,.tok 2 0)],hfree⟩ (Yi ⟨Z3,Z2,Fh,Tv⟩ ?_)
  refine Yi ?_ ?_
  ·intro a ha; cases ha
  ·intro _;refine Xi Unit (Xi (fun _=>⟨[(7,.slice (.id 7 2) []),(19,vi 0),(20,vi 0)],[(7,.tok 2 0)],hfree⟩) (Xi (fun _=>0) (Yi (Xi () ?_) ?_)))
   ·exact ⟨Z3,Z1,Fh,Tv⟩
   intro _;refine Yi ?_ ?_
   ·intro h; exact absurd (show (0:Int)<0 from h) (by decide)
   intro _;refine Xi ⟨[(7,.slice (.id 7 2) [])],[(7,.tok 2 0)],hfree⟩ (Yi ⟨Z1,Z1,Fh,Tv⟩ ?_)
   have hc:PC 116 [sl encSpan []] (sl encSpan (canon [])):=c102 [] (by unfold Few; simp);refine Xi .pure (Xi _ (Yi (hc) ?_));exact .of_eq (show sl encSpan (canon [])=sl encSpan (availP x p) by unfold availP; rw [hL]; rfl)
end Go.Eng

namespace Go.Eng
open Go.Proofs
theorem availP_few (x:List Rl) (p:ByteArray):Few (availP x p):=by
 unfold availP Few
 have:=canon_len (canon_canon (((ofPath x p).filter fun r=>!r.yanked).map fun r=>(plc r.ver,plc r.ver+1))); omega
end Go.Eng

namespace Go.Eng
open Go.Proofs
end Go.Eng

namespace Go.Eng
open Go.Proofs
end Go.Eng

namespace Go.Eng
open Go.Proofs
end Go.Eng

namespace Go.Eng
open Go.Proofs
end Go.Eng
