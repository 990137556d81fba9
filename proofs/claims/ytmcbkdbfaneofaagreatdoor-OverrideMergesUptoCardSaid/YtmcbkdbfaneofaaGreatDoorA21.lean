/- Lemmas for the claims of this seat, without a condition: part 21 (C39, LayStr, C40, C41, C42, C43, C44, C45, C46, C47, C48, C49, C50, C51, C52, C53, C54, C55). -/
import Derived.Test.YtmcbkdbfaneofaaGreatDoorA20
import Derived.Shelf.Strings.SplitShaped
import Derived.Shelf.Strings.LastIndexAll
import Derived.Shelf.Strings.Search3
import Derived.Shelf.Small.Wraps
import Derived.Ground.NamesProg
import Derived.Lib.LastIndexLaws
namespace Go.Eng
open Go.Proofs
abbrev vc(c:UInt8):AV:=.v (.int .u8 c.toNat)
theorem Wh(a:UInt8)(n:Nat)(h:n<256):decide (UInt8.ofNat n≤a)=decide ((n:Int)≤(a.toNat:Int)):=by
 rw[B1,AB,AB,LN,show(UInt8.ofNat n).toNat=n by simp;omega];omega
theorem Wg(a:UInt8)(n:Nat)(h:n<256):decide (a≤UInt8.ofNat n)=decide ((a.toNat:Int)≤(n:Int)):=by
 rw[B1,AB,AB,LN,show(UInt8.ofNat n).toNat=n by simp;omega];omega
theorem oC(c:UInt8):PC 143 [vc c] (vb (EK c)):=by
 refine Ps E8 Tryz.func143 rfl (Nz rfl) ?_;have e1:decide ((97:UInt8)≤c)=decide ((97:Int)≤(c.toNat:Int)):=Wh c 97 (by decide);have e2:decide (c≤(122:UInt8))=decide ((c.toNat:Int)≤(122:Int)):=Wg c 122 (by decide);have es:EK c=(decide ((97:Int)≤(c.toNat:Int))&&decide ((c.toNat:Int)≤(122:Int))):=by unfold EK;rw[e1,e2]
 refine Yi ?_ ?_
 ·intro h;have h:(97:Int)≤(c.toNat:Int):=h;refine Yi ?_ ?_
  ·intro h2;have h2:(c.toNat:Int)≤122:=h2;exact .of_eq (Ab vb (show true=EK c by rw[es,At h,At h2];rfl))
  ·intro h2;have h2:¬(c.toNat:Int)≤122:=h2;exact .of_eq (Ab vb (show false=EK c by rw[es,Aj h2,Cz]))
 ·intro h;have h:¬(97:Int)≤(c.toNat:Int):=h;exact .of_eq (Ab vb (show false=EK c by rw[es,Aj h];rfl))
theorem oD(c:UInt8):PC 144 [vc c] (vb (CI c)):=by
 refine Ps E8 Tryz.func144 rfl (Nz rfl) ?_;have e1:decide ((48:UInt8)≤c)=decide ((48:Int)≤(c.toNat:Int)):=Wh c 48 (by decide);have e2:decide (c≤(57:UInt8))=decide ((c.toNat:Int)≤(57:Int)):=Wg c 57 (by decide);have es:CI c=(decide ((48:Int)≤(c.toNat:Int))&&decide ((c.toNat:Int)≤(57:Int))):=by unfold CI;rw[e1,e2]
 refine Yi ?_ ?_
 ·intro h;have h:(48:Int)≤(c.toNat:Int):=h;refine Yi ?_ ?_
  ·intro h2;have h2:(c.toNat:Int)≤57:=h2;exact .of_eq (Ab vb (show true=CI c by rw[es,At h,At h2];rfl))
  ·intro h2;have h2:¬(c.toNat:Int)≤57:=h2;exact .of_eq (Ab vb (show false=CI c by rw[es,Aj h2,Cz]))
 ·intro h;have h:¬(48:Int)≤(c.toNat:Int):=h;exact .of_eq (Ab vb (show false=CI c by rw[es,Aj h];rfl))
theorem wa(c:UInt8):PC 221 [vc c] (vb (Me c)):=by
 refine Ps E8 Tryz.func221 rfl (Nz rfl) ?_;have e1:decide ((65:UInt8)≤c)=decide ((65:Int)≤(c.toNat:Int)):=Wh c 65 (by decide);have e2:decide (c≤(90:UInt8))=decide ((c.toNat:Int)≤(90:Int)):=Wg c 90 (by decide);have es:Me c=(decide ((65:Int)≤(c.toNat:Int))&&decide ((c.toNat:Int)≤(90:Int))):=by unfold Me;rw[e1,e2]
 refine Yi ?_ ?_
 ·intro h;have h:(65:Int)≤(c.toNat:Int):=h;refine Yi ?_ ?_
  ·intro h2;have h2:(c.toNat:Int)≤90:=h2;exact .of_eq (Ab vb (show true=Me c by rw[es,At h,At h2];rfl))
  ·intro h2;have h2:¬(c.toNat:Int)≤90:=h2;exact .of_eq (Ab vb (show false=Me c by rw[es,Aj h2,Cz]))
 ·intro h;have h:¬(65:Int)≤(c.toNat:Int):=h;exact .of_eq (Ab vb (show false=Me c by rw[es,Aj h];rfl))
abbrev Nv(c:UInt8):Bool:=EK c||CI c
theorem vQ(c:UInt8):PC 142 [vc c] (vb (Nv c)):=by
 have h1:=oC c;have h2:=oD c;rcases Bt (EK c)with e | e
 ·rw[e]at h1;refine Ps E8 Tryz.func142 rfl (Nz rfl) ?_;refine Xi .pure (Xi _ (Yi (h1) ?_));exact .of_eq (Ab vb (show true=Nv c by unfold Nv;rw[e];rfl))
 ·rw[e]at h1;refine Ps E8 Tryz.func142 rfl (Nz rfl) ?_;refine Xi .pure (Xi _ (Yi (h1) ?_));refine Xi .pure (Xi _ (Yi (h2) ?_));exact .of_eq (Ab vb (show CI c=Nv c by unfold Nv;rw[e];rfl))
theorem vW(c:UInt8):PC 187 [vc c] (vb (F7 c)):=by
 have h1:=oC c;have h2:=wa c;have h3:=oD c;have ew:F7 c=(EK c||Me c||CI c||decide (c=95)):=rfl;rcases Bt (EK c)with e | e
 ·rw[e]at h1;refine Ps E8 Tryz.func187 rfl (Nz rfl) ?_;refine Xi .pure (Xi _ (Yi (h1) ?_));exact .of_eq (Ab vb (show true=F7 c by rw[ew,e];rfl))
 rw[e]at h1;rcases Bt (Me c)with e2 | e2
 ·rw[e2]at h2;refine Ps E8 Tryz.func187 rfl (Nz rfl) ?_;refine Xi .pure (Xi _ (Yi (h1) ?_));refine Xi .pure (Xi _ (Yi (h2) ?_));exact .of_eq (Ab vb (show true=F7 c by rw[ew,e,e2];rfl))
 rw[e2]at h2;rcases Bt (CI c)with e3 | e3
 ·rw[e3]at h3;refine Ps E8 Tryz.func187 rfl (Nz rfl) ?_;refine Xi .pure (Xi _ (Yi (h1) ?_));refine Xi .pure (Xi _ (Yi (h2) ?_));refine Xi .pure (Xi _ (Yi (h3) ?_));exact .of_eq (Ab vb (show true=F7 c by rw[ew,e,e2,e3];rfl))
 rw[e3]at h3;refine Ps E8 Tryz.func187 rfl (Nz rfl) ?_;refine Xi .pure (Xi _ (Yi (h1) ?_));refine Xi .pure (Xi _ (Yi (h2) ?_));refine Xi .pure (Xi _ (Yi (h3) ?_));have eb:decide (c=95)=decide ((c.toNat:Int)=95):=by
  rw[B1,AB,AB];constructor
  ·intro h;subst h;rfl
  ·intro h;exact GB.1 (by show c.toNat=95;omega)
 refine Yi ?_ ?_
 ·intro h;have h:(c.toNat:Int)=95:=h;exact .of_eq (Ab vb (show true=F7 c by rw[ew,e,e2,e3,eb,At h];rfl))
 ·intro h;have h:¬(c.toNat:Int)=95:=h;exact .of_eq (Ab vb (show false=F7 c by rw[ew,e,e2,e3,eb,Aj h];rfl))
theorem MV(s:ByteArray)(i:Nat)(h:i<s.data.toList.length):s.data[i]?=some s.data.toList[i]:=by
 rw[←AQ];exact Ge h
theorem oA(s:ByteArray)(f:Nat)(q:UInt8→Bool)(hf:∀c,PC f [vc c] (vb (q c)))(hs:s.data.toList.length<4611686018427387904):PC 141 [vs s,.v (UU f)] (vb (s.data.toList.all q)):=by
 have Ek:s.size=s.data.toList.length:=by simp
 refine Ps E8 Tryz.func141 rfl (Nz rfl) ?_;refine Xi {i:Nat // i≤s.data.toList.length∧∀j (hj:j<s.data.toList.length),j<i→q s.data.toList[j]=true} (Xi (fun i=>⟨[(0,vs s),(1,.v (UU f)),(7,vi s.size),(8,vi i.1)],[],Aa⟩) (Xi (fun i=>s.data.toList.length-i.1) (Yi (Xi ⟨0,AG _,fun j _ h=>by omega⟩ ?_) ?_)))
 ·exact⟨Z4,Tv,Fh,Tv⟩
 intro⟨i,h1,h2⟩;refine Yi ?_ ?_
 ·intro h;have h:(i:Int)<(s.size:Nat):=h;have h:i<s.data.toList.length:=by omega
  refine Xi s.data.toList[i] (Yi ⟨by show(0:Int)≤i;omega,by show s.data[((i:Nat):Int).toNat]?=_;rw[Ba];exact MV s i h⟩ ?_);have hc:=hf s.data.toList[i];refine Bq (Bt (q s.data.toList[i])) (fun e=>?_) (fun e=>?_)
  ·rw[e]at hc;refine Xi .pure (Xi _ (Yi (hc) ?_));refine Yi (Ii i (by omega)) ?_;refine Xi ⟨i+1,by omega,fun j hj GA=>?_⟩ ?_
   ·rcases Ch j i with z | z
    ·exact h2 j hj z
    ·have:j=i:=by omega
     subst this;exact e
   ·exact⟨Dl s.data.toList.length i (by omega),Z4,Tv,Fh,Tv⟩
  ·rw[e]at hc;refine Xi .pure (Xi _ (Yi (hc) ?_));have er:s.data.toList.all q=false:=by
    rw[AF];intro ha
    have:=AR.1 ha _ (Ak h)
    rw[e]at this;cases this
   exact .of_eq (Ab vb er.symm)
 ·intro h;have h:¬(i:Int)<(s.size:Nat):=h;have er:s.data.toList.all q=true:=AR.2 fun c hc=>by
   obtain⟨j,hj,rfl⟩:=Cc hc;exact h2 j hj (by omega)
  exact .of_eq (Ab vb er.symm)
end Go.Eng
namespace Go.Proofs
open Go.Shelf
def Tryz.laySplit_ren:Go.Shelf.Ren:=⟨fun | 146=>138 | 221=>185 | 268=>217 | 138=>218 | 143=>219 | 195=>241 | 197=>242 | 218=>243 | 219=>244 | 260=>260 | 217=>261 | 225=>262 | 224=>263 | 267=>264 | 266=>278 | 314=>279 | n=>n,fun | 9=>9 | 31=>129 | 3=>3 | 4=>4 | 0=>0 | 105=>274 | 21=>21 | 5=>5 | 46=>185 | 119=>295 | 139=>298 | 138=>297 | 146=>233 | 51=>220 | n=>n,fun | 1=>0 | 3=>1 | 4=>2 | n=>n⟩
theorem Tryz.laySplit:Go.Proofs.Lays.n146 Tryz.prog Tryz.laySplit_ren:={
 mixed:=by kernel_rfl
 f138:=Tryz.func218.trans (congrArg some (by kernel_rfl))
 f143:=Tryz.func219.trans (congrArg some (by kernel_rfl))
 f146:=Tryz.func138.trans (congrArg some (by kernel_rfl))
 f195:=Tryz.func241.trans (congrArg some (by kernel_rfl))
 f197:=Tryz.func242.trans (congrArg some (by kernel_rfl))
 f217:=Tryz.func261.trans (congrArg some (by kernel_rfl))
 f218:=Tryz.func243.trans (congrArg some (by kernel_rfl))
 f219:=Tryz.func244.trans (congrArg some (by kernel_rfl))
 f221:=Tryz.func185.trans (congrArg some (by kernel_rfl))
 f224:=Tryz.func263.trans (congrArg some (by kernel_rfl))
 f225:=Tryz.func262.trans (congrArg some (by kernel_rfl))
 f260:=Tryz.func260.trans (congrArg some (by kernel_rfl))
 f266:=Tryz.func278.trans (congrArg some (by kernel_rfl))
 f267:=Tryz.func264.trans (congrArg some (by kernel_rfl))
 f268:=Tryz.func217.trans (congrArg some (by kernel_rfl))
 f314:=Tryz.func279.trans (congrArg some (by kernel_rfl))
 t0:=Tryz.underlying0
 a0:=Tryz.isAgg0
 z0:=Tryz.sizeOf0
 v0:=Tryz.zeroValue0
 t3:=Tryz.underlying3
 a3:=Tryz.isAgg3
 z3:=Tryz.sizeOf3
 v3:=Tryz.zeroValue3
 t4:=Tryz.underlying4
 a4:=Tryz.isAgg4
 z4:=Tryz.sizeOf4
 v4:=Tryz.zeroValue4
 t5:=Tryz.underlying5
 a5:=Tryz.isAgg5
 z5:=Tryz.sizeOf5
 v5:=Tryz.zeroValue5
 t9:=Tryz.underlying9
 a9:=Tryz.isAgg9
 z9:=Tryz.sizeOf9
 v9:=Tryz.zeroValue9
 t21:=Tryz.underlying21
 a21:=Tryz.isAgg21
 z21:=Tryz.sizeOf21
 v21:=Tryz.zeroValue21
 t31:=Tryz.underlying129
 a31:=Tryz.isAgg129
 z31:=Tryz.sizeOf129
 v31:=Tryz.zeroValue129
 t46:=Tryz.underlying185
 a46:=Tryz.isAgg185
 z46:=Tryz.sizeOf185
 v46:=Tryz.zeroValue185
 t51:=Tryz.underlying220
 a51:=Tryz.isAgg220
 z51:=Tryz.sizeOf220
 v51:=Tryz.zeroValue220
 t105:=Tryz.underlying274
 a105:=Tryz.isAgg274
 z105:=Tryz.sizeOf274
 v105:=Tryz.zeroValue274
 t119:=Tryz.underlying295
 a119:=Tryz.isAgg295
 z119:=Tryz.sizeOf295
 t138:=Tryz.underlying297
 a138:=Tryz.isAgg297
 z138:=Tryz.sizeOf297
 v138:=Tryz.zeroValue297
 t139:=Tryz.underlying298
 a139:=Tryz.isAgg298
 z139:=Tryz.sizeOf298
 v139:=Tryz.zeroValue298
 t146:=Tryz.underlying233
 a146:=Tryz.isAgg233
 z146:=Tryz.sizeOf233
 v146:=Tryz.zeroValue233
 g1:=by kernel_rfl
 g3:=by kernel_rfl
 g4:=by kernel_rfl }
def Tryz.layLast_ren:Go.Shelf.Ren:=⟨fun | 148=>115 | 222=>145 | 223=>146 | 269=>189 | n=>n,fun | 9=>9 | 3=>3 | 4=>4 | 5=>5 | 146=>233 | 51=>220 | 46=>185 | n=>n,fun | n=>n⟩
theorem Tryz.layLast:Go.Proofs.Lays.n148 Tryz.prog Tryz.layLast_ren:={
 mixed:=by kernel_rfl
 f148:=Tryz.func115.trans (congrArg some (by kernel_rfl))
 f222:=Tryz.func145.trans (congrArg some (by kernel_rfl))
 f223:=Tryz.func146.trans (congrArg some (by kernel_rfl))
 f269:=Tryz.func189.trans (congrArg some (by kernel_rfl))
 t3:=Tryz.underlying3
 a3:=Tryz.isAgg3
 z3:=Tryz.sizeOf3
 v3:=Tryz.zeroValue3
 t4:=Tryz.underlying4
 a4:=Tryz.isAgg4
 z4:=Tryz.sizeOf4
 v4:=Tryz.zeroValue4
 t5:=Tryz.underlying5
 a5:=Tryz.isAgg5
 z5:=Tryz.sizeOf5
 v5:=Tryz.zeroValue5
 t9:=Tryz.underlying9
 a9:=Tryz.isAgg9
 z9:=Tryz.sizeOf9
 v9:=Tryz.zeroValue9
 t46:=Tryz.underlying185
 a46:=Tryz.isAgg185
 z46:=Tryz.sizeOf185
 v46:=Tryz.zeroValue185
 t51:=Tryz.underlying220
 a51:=Tryz.isAgg220
 z51:=Tryz.sizeOf220
 v51:=Tryz.zeroValue220
 t146:=Tryz.underlying233
 a146:=Tryz.isAgg233
 z146:=Tryz.sizeOf233
 v146:=Tryz.zeroValue233 }
def Tryz.layCut_ren:Go.Shelf.Ren:=⟨fun | 103=>186 | 210=>220 | 206=>245 | n=>n,fun | 9=>9 | 4=>4 | 24=>231 | 3=>3 | n=>n,fun | n=>n⟩
theorem Tryz.layCut:Go.Proofs.Lays.n103 Tryz.prog Tryz.layCut_ren:={
 mixed:=by kernel_rfl
 f103:=Tryz.func186.trans (congrArg some (by kernel_rfl))
 f206:=Tryz.func245.trans (congrArg some (by kernel_rfl))
 f210:=Tryz.func220.trans (congrArg some (by kernel_rfl))
 t3:=Tryz.underlying3
 a3:=Tryz.isAgg3
 z3:=Tryz.sizeOf3
 v3:=Tryz.zeroValue3
 t4:=Tryz.underlying4
 a4:=Tryz.isAgg4
 z4:=Tryz.sizeOf4
 v4:=Tryz.zeroValue4
 t9:=Tryz.underlying9
 a9:=Tryz.isAgg9
 z9:=Tryz.sizeOf9
 v9:=Tryz.zeroValue9
 t24:=Tryz.underlying231
 a24:=Tryz.isAgg231
 z24:=Tryz.sizeOf231
 v24:=Tryz.zeroValue231 }
def Tryz.layCont_ren:Go.Shelf.Ren:=⟨fun | 144=>222 | 143=>219 | 219=>244 | 217=>261 | 225=>262 | 224=>263 | 267=>264 | 266=>278 | 314=>279 | n=>n,fun | 9=>9 | 4=>4 | 3=>3 | 5=>5 | 46=>185 | 146=>233 | 51=>220 | n=>n,fun | 1=>0 | n=>n⟩
theorem Tryz.layCont:Go.Proofs.Lays.n144 Tryz.prog Tryz.layCont_ren:={
 mixed:=by kernel_rfl
 f143:=Tryz.func219.trans (congrArg some (by kernel_rfl))
 f144:=Tryz.func222.trans (congrArg some (by kernel_rfl))
 f217:=Tryz.func261.trans (congrArg some (by kernel_rfl))
 f219:=Tryz.func244.trans (congrArg some (by kernel_rfl))
 f224:=Tryz.func263.trans (congrArg some (by kernel_rfl))
 f225:=Tryz.func262.trans (congrArg some (by kernel_rfl))
 f266:=Tryz.func278.trans (congrArg some (by kernel_rfl))
 f267:=Tryz.func264.trans (congrArg some (by kernel_rfl))
 f314:=Tryz.func279.trans (congrArg some (by kernel_rfl))
 t3:=Tryz.underlying3
 a3:=Tryz.isAgg3
 z3:=Tryz.sizeOf3
 v3:=Tryz.zeroValue3
 t4:=Tryz.underlying4
 a4:=Tryz.isAgg4
 z4:=Tryz.sizeOf4
 v4:=Tryz.zeroValue4
 t5:=Tryz.underlying5
 a5:=Tryz.isAgg5
 z5:=Tryz.sizeOf5
 v5:=Tryz.zeroValue5
 t9:=Tryz.underlying9
 a9:=Tryz.isAgg9
 z9:=Tryz.sizeOf9
 v9:=Tryz.zeroValue9
 t46:=Tryz.underlying185
 a46:=Tryz.isAgg185
 z46:=Tryz.sizeOf185
 v46:=Tryz.zeroValue185
 t51:=Tryz.underlying220
 a51:=Tryz.isAgg220
 z51:=Tryz.sizeOf220
 v51:=Tryz.zeroValue220
 t146:=Tryz.underlying233
 a146:=Tryz.isAgg233
 z146:=Tryz.sizeOf233
 v146:=Tryz.zeroValue233
 g1:=by kernel_rfl }
end Go.Proofs
namespace Go.Eng
open Go.Proofs
abbrev ZD:ByteArray:=⟨#[47]⟩
abbrev BM(s:ByteArray):List ByteArray:=Go.Lib.splitB ZD 0 (Go.Lib.countB s ZD) s
theorem PJ(s:ByteArray):(BM s).map (·.data.toList)=CO 47 s.data.toList:=eX s 47
abbrev EL(s:ByteArray):List AV:=[vs s]
theorem rm(s:ByteArray)(hs:E9 s):PC 138 [vs s,vs ZD] (sl EL (BM s)):=by
 unfold E9 at hs;have h:=d8 (P:=Tryz.prog) (f:=138) (args:=[vs s,vs ZD]) [.string s,.string ZD] ((BM s).map Value.string) 9 (fp 138 Tryz.func138 (by kernel_rfl) rfl) rfl (fun x hx=>by
  obtain⟨y,_,rfl⟩:=Ar.1 hx;rfl) (fun w hm=>by
  obtain⟨m,hm⟩:=hm;have hl:(BM s).length=Go.Lib.countB s ZD+1:=Go.Lib.splitB_all ZD (by decide) 0 _ s rfl;refine(Any.strings_Split Tryz.laySplit (by kernel_rfl) s ZD m w (by omega) hm (by decide)).mono ?_
  rintro e w' ⟨rfl,rfl⟩
  exact⟨by rw[Lm,hl],rfl⟩)
 rw[BW]at h;exact h
theorem vI(s p:ByteArray)(hs:E9 s):PC 115 [vs s,vs p] (vi (Go.Lib.lastIndex s.data.toList p.data.toList)):=by
 unfold E9 at hs;exact LF [.string s,.string p] (.int .i64 (Go.Lib.lastIndex s.data.toList p.data.toList)) (fp 115 Tryz.func115 (by kernel_rfl) rfl) rfl (fun g w=>.v _ _) fun w _=>Any.strings_LastIndex Tryz.layLast s p (by omega) w
theorem vV(s p:ByteArray):PC 186 [vs s,vs p] (.tup [vs ⟨(Go.Lib.trimPrefix s.data.toList p.data.toList).toArray⟩,vb (Go.Lib.hasPrefix s.data.toList p.data.toList)]):=by
 exact LF [.string s,.string p] _ (fp 186 Tryz.func186 (by kernel_rfl) rfl) rfl (fun g w=>jF [.string ⟨(Go.Lib.trimPrefix s.data.toList p.data.toList).toArray⟩,.bool (Go.Lib.hasPrefix s.data.toList p.data.toList)]) fun w _=>Any.strings_CutPrefix Tryz.layCut s p w
theorem wb(s p:ByteArray)(hs:E9 s):PC 222 [vs s,vs p] (vb (Go.Lib.contains s.data.toList p.data.toList)):=by
 unfold E9 at hs;exact LF [.string s,.string p] (.bool (Go.Lib.contains s.data.toList p.data.toList)) (fp 222 Tryz.func222 (by kernel_rfl) rfl) rfl (fun g w=>.v _ _) fun w hm=>by
  obtain⟨m,hm⟩:=hm;exact Any.strings_Contains Tryz.layCont s p m w (by omega) hm
theorem bY:∀x y:List UInt8,Nt x y=x.isPrefixOf y
 | [],_=>by simp[Nt]
 |_::_,[]=>rfl
 |a::x,b::y=>by
  rw[Nt,List.isPrefixOf_cons_cons,bY x y]
  rfl
theorem iD(x:List UInt8):∀y:List UInt8,iC x y=Go.Lib.contains y x
 | []=>by
  unfold Go.Lib.contains Go.Lib.index;cases x<;>rfl
 |b::y=>by
  rw[iC,bY,iD x y];unfold Go.Lib.contains;have hg:=Go.Lib.index_ge y x
  conv=>rhs;unfold Go.Lib.index
  cases h:x.isPrefixOf (b::y)with
  |true=>simp
  |false =>
   simp only[JD,Dz,GJ]
   by_cases h0:Go.Lib.index y x=-1
   ·rw[h0];rfl
   ·have h1:(Go.Lib.index y x == -1)=false:=by simpa using h0
    rw[h1];simp only[Dz,GJ];rw[At (by omega),At (by omega)]
theorem N8:∀(l:List UInt8) (h:0<l.length),l.headD 0=l[0]
 | [],h=>by simp at h
 |_::_,_=>rfl
abbrev nD:ByteArray:=⟨⟨ao⟩⟩
theorem vX(s:ByteArray)(hs:E9 s):PC 188 [vs s] (vb (U4 s.data.toList)):=by
 unfold E9 at hs;have hc:=wb nD ((⟨#[32]⟩++s)++⟨#[32]⟩) (Il (by kernel_rfl));have e:Go.Lib.contains nD.data.toList ((⟨#[32]⟩++s:ByteArray)++⟨#[32]⟩).data.toList=U4 s.data.toList:=by
  unfold U4;rw[iD]
  congr 1
 rw[e]at hc;refine Ps E8 Tryz.func188 rfl (Nz rfl) ?_;refine Yi (by show(((1+s.size:Nat)):Int)≤_;omega) ?_;refine Yi (by show(((⟨#[32]⟩++s:ByteArray).size+1:Nat):Int)≤_;rw[ByteArray.size_append];show(((1+s.size)+1:Nat):Int)≤_;omega) ?_;refine Xi .pure (Xi _ (Yi (hc) ?_));exact .refl _
theorem vP(s:ByteArray)(hs:E9 s):PC 140 [vs s] (vb (Gv s.data.toList)):=by
 have hk:=vX s hs;have hw:=oA s 187 F7 vW (by unfold E9 at hs;simp;omega);have Ek:s.size=s.data.toList.length:=by simp
 have en:Gv s.data.toList=(!s.data.toList.isEmpty&&decide (s.data.toList.length≤32)&&EK (s.data.toList.headD 0)&&s.data.toList.all F7&&!U4 s.data.toList):=rfl
 by_cases h0:s=⟨#[]⟩
 ·subst h0;refine Ps E8 Tryz.func140 rfl (Nz rfl) ?_;refine Yi ?_ ?_
  ·intro h;exact absurd rfl (show(⟨#[]⟩:ByteArray)≠⟨#[]⟩from h)
  ·intro _;exact .refl _
 have zk : s.data.toList≠[]:=fun e=>h0 (by
  have:s.data=#[]:=by rw[←I0];exact e
  cases s;simp_all)
 have CJ:0<s.data.toList.length:=G7.2 zk;have Qt:s.data.toList.isEmpty=false:=by
  cases hl:s.data.toList with
  |nil=>exact absurd hl zk
  |cons a l=>rfl
 have zJ:s.data.toList.headD 0=s.data.toList[0]:=N8 _ CJ;have fy:=oC s.data.toList[0];refine Ps E8 Tryz.func140 rfl (Nz rfl) ?_;refine Yi ?_ ?_
 rotate_left
 ·intro h;exact absurd h0 h
 intro _;refine Yi ?_ ?_
 rotate_left
 ·intro h;have h:¬((s.size:Nat):Int)≤32:=h;exact .of_eq (Ab vb (show false=Gv s.data.toList by rw[en,Aj (by omega:¬s.data.toList.length≤32)];simp))
 intro h;have h:((s.size:Nat):Int)≤32:=h;refine Xi s.data.toList[0] (Yi ⟨AZ _,MV s 0 CJ⟩ ?_);refine Bq (Bt (EK s.data.toList[0])) (fun e1=>?_) (fun e1=>?_)
 rotate_left
 ·rw[e1]at fy;refine Xi .pure (Xi _ (Yi (fy) ?_));exact .of_eq (Ab vb (show false=Gv s.data.toList by rw[en,zJ,e1];simp))
 rw[e1]at fy;refine Xi .pure (Xi _ (Yi (fy) ?_));refine Bq (Bt (s.data.toList.all F7)) (fun e2=>?_) (fun e2=>?_)
 rotate_left
 ·rw[e2]at hw;refine Xi .pure (Xi _ (Yi (hw) ?_));exact .of_eq (Ab vb (show false=Gv s.data.toList by rw[en,e2];simp))
 rw[e2]at hw;refine Xi .pure (Xi _ (Yi (hw) ?_));have ef:Gv s.data.toList=!U4 s.data.toList:=by rw[en,Qt,zJ,e1,e2,At (by omega:s.data.toList.length≤32)];rfl
 refine Bq (Bt (U4 s.data.toList)) (fun e3=>?_) (fun e3=>?_)
 ·rw[e3]at hk;refine Xi .pure (Xi _ (Yi (hk) ?_));exact .of_eq (Ab vb (show false=Gv s.data.toList by rw[ef,e3];rfl))
 ·rw[e3]at hk;refine Xi .pure (Xi _ (Yi (hk) ?_));exact .of_eq (Ab vb (show true=Gv s.data.toList by rw[ef,e3];rfl))
abbrev Xs:Option Int→AV
 |some n=>.tup [vi n,vb true]
 |none=>.tup [vi 0,vb false]
theorem SD{z:Int}(h0:0≤z)(h1:z<256):IntKind.u8.wrap z=z:=by
 show z % 256=z;omega
theorem Ju{c:UInt8}(h:CI c=true):48≤c.toNat∧c.toNat≤57:=by
 unfold CI at h;simp only[Ah,AB]at h;exact⟨LN.1 h.1,LN.1 h.2⟩
theorem K7(r:List UInt8)(i:Nat)(h:i<r.length):D1 (r.take (i+1))=10*D1 (r.take i)+((r[i].toNat:Int)-48):=by
 unfold D1;rw[BC,Ge h,KH];rfl
theorem vO(s:ByteArray)(hs:E9 s):PC 139 [vs s] (Xs (Gu s.data.toList)):=by
 unfold E9 at hs;have hc:=vV s ⟨#[118]⟩
 by_cases hp:∃r,s.data.toList=118::r
 ·obtain⟨r,hr⟩:=hp;have e1:Go.Lib.hasPrefix s.data.toList (⟨#[118]⟩:ByteArray).data.toList=true:=by rw[hr];rfl
  have e2:Go.Lib.trimPrefix s.data.toList (⟨#[118]⟩:ByteArray).data.toList=r:=by unfold Go.Lib.trimPrefix;rw[e1,Ax rfl,hr];rfl
  rw[e1,e2]at hc;have hv:Gu s.data.toList=if(r.isEmpty||decide (3<r.length)||(decide (1<r.length)&&decide (r.headD 0=48))||!r.all CI)=true then none else some (D1 r):=by rw[hr];rfl
  have W4:r.length<s.size:=by
   have:s.size=s.data.toList.length:=by simp
   rw[this,hr];simp
  generalize hB:(⟨r.toArray⟩:ByteArray)=rB at hc;have gR:rB.data.toList=r:=by rw[←hB]
  have rK:rB.size=r.length:=by rw[←hB];rfl
  have hw:=oA rB 144 CI oD (by rw[gR];omega);rw[gR]at hw;have no:∀{b:Bool},b=true→(if b=true then none else some (D1 r))=(none:Option Int):=fun h=>Ax h;refine Ps (Iq [2,4]) Tryz.func139 rfl (Nz rfl) ?_;refine Xi .pure (Xi _ (Yi (hc) ?_));refine Xi ⟨[(0,vs rB),(4,vb true)],[],Aa⟩ (Yi ⟨Z2,Tv,Fh,Tv⟩ ?_)
  refine Yi ?_ ?_
  ·intro h;have h:rB=⟨#[]⟩:=h
   have:r=[]:=by rw[←gR,h]
   exact .of_eq (Ab Xs (show(none:Option Int)=Gu s.data.toList by rw[hv,this];rfl))
  intro h;have h:¬rB=⟨#[]⟩:=h;have DL:r≠[]:=fun e=>h (by rw[←hB,e]);have CJ:0<r.length:=G7.2 DL;have Qt:r.isEmpty=false:=by
   cases hl:r with
   |nil=>exact absurd hl DL
   |cons a l=>rfl
  refine Yi ?_ ?_
  ·intro h2;have h2:(3:Int)<((rB.size:Nat):Int):=h2;exact .of_eq (Ab Xs (show(none:Option Int)=Gu s.data.toList by rw[hv,no];rw[At (by omega:3<r.length)];simp))
  intro h2;have h2:¬(3:Int)<((rB.size:Nat):Int):=h2;have su:r.length≤3:=by omega
  have d3:decide (3<r.length)=false:=Aj (by omega);refine Yi ?_ ?_
  ·intro h3;have h3:(1:Int)<((rB.size:Nat):Int):=h3;have wI:rB.data[(0:Int).toNat]?=some r[0]:=by
    show rB.data[0]?=_;rw[←AQ,gR];exact Ge CJ
   refine Xi r[0] (Yi ⟨AZ _,wI⟩ ?_);have hh:=N8 r CJ;refine Yi ?_ ?_
   ·intro h4;have h4:(r[0].toNat:Int)=48:=h4
    have:r[0]=48:=GB.1 (by show r[0].toNat=48;omega)
    exact .of_eq (Ab Xs (show(none:Option Int)=Gu s.data.toList by rw[hv,hh,this,At (by omega:1<r.length)];simp))
   intro h4;have h4:¬(r[0].toNat:Int)=48:=h4;have eo:(decide (1<r.length)&&decide (r.headD 0=48))=false:=by rw[hh,Aj (show ¬r[0]=48 from fun e=>h4 (by rw[e];rfl)),Cz]
   have sR:Gu s.data.toList=if(!r.all CI)=true then none else some (D1 r):=by rw[hv,Qt,d3,eo];rfl
   refine Bq (Bt (r.all CI)) (fun e3=>?_) (fun e3=>?_)
   rotate_left
   ·rw[e3]at hw;refine Xi .pure (Xi _ (Yi (hw) ?_));exact .of_eq (Ab Xs (show(none:Option Int)=Gu s.data.toList by rw[sR,e3];rfl))
   rw[e3]at hw;refine Xi .pure (Xi _ (Yi (hw) ?_));have xA:Gu s.data.toList=some (D1 r):=by rw[sR,e3];rfl
   refine Xi ⟨[(0,vs rB)],[],Aa⟩ (Yi ⟨Z1,Tv,Fh,Tv⟩ ?_)
   have z0:D1 (r.take 0)=0:=rfl;refine Xi {i:Nat // i≤r.length∧0≤D1 (r.take i)∧(i=0→D1 (r.take i)≤0)∧(i≤1→D1 (r.take i)≤9)∧(i≤2→D1 (r.take i)≤99)∧D1 (r.take i)≤999} (Xi (fun i=>⟨[(0,vs rB),(5,vi (D1 (r.take i.1))),(39,vi rB.size),(40,vi i.1)],[],Aa⟩) (Xi (fun i=>r.length-i.1) (Yi (Xi ⟨0,AG _,by omega,fun _=>by omega,fun _=>by omega,fun _=>by omega,by omega⟩ ?_) ?_)))
   ·exact⟨Z4,Tv,Fh,Tv⟩
   intro⟨i,i1,i2,i3,i4,i5,i6⟩;refine Yi ?_ ?_
   ·intro h;have h:(i:Int)<(rB.size:Nat):=h;have h:i<r.length:=by omega
    have wU:CI r[i]=true:=AR.1 e3 _ (Ak h);have nf:=Ju wU;have bB:=K7 r i h;have Ys:IntKind.u8.wrap ((r[i].toNat:Int)-48)=(r[i].toNat:Int)-48:=SD (by omega) (by omega);have RZ:rB.data[((i:Nat):Int).toNat]?=some r[i]:=by rw[Ba,←AQ,gR];exact Ge h
    refine Yi (by show Bu (10*D1 (r.take i));unfold Bu;omega) ?_;refine Xi r[i] (Yi ⟨by show(0:Int)≤i;omega,RZ⟩ ?_);refine Yi (by show Bu (IntKind.u8.wrap ((r[i].toNat:Int)-48));rw[Ys];unfold Bu;omega) ?_;refine Yi (by show Bu (10*D1 (r.take i)+IntKind.u8.wrap ((r[i].toNat:Int)-48));rw[Ys];unfold Bu;omega) ?_;refine Yi (Ii i (by omega)) ?_;have e5:vi (10*D1 (r.take i)+IntKind.u8.wrap ((r[i].toNat:Int)-48))=vi (D1 (r.take (i+1))):=by rw[Ys,bB]
    refine Xi ⟨i+1,by omega,by omega,fun _=>by omega,fun _=>by omega,fun _=>by omega,by omega⟩ ?_;exact⟨Dl r.length i (by omega),⟨Zr,⟨e5,rfl⟩,Zr,Zr,Tv⟩,Tv,Fh,Tv⟩
   ·intro h;have h:¬(i:Int)<(rB.size:Nat):=h;have e6:AV.tup [vi (D1 (r.take i)),vb true]=Xs (Gu s.data.toList):=by rw[xA,AJ (by omega)]
    exact .of_eq e6
  ·intro h3;have h3:¬(1:Int)<((rB.size:Nat):Int):=h3;have eo:(decide (1<r.length)&&decide (r.headD 0=48))=false:=by rw[Aj (by omega:¬1<r.length)];rfl
   have sR:Gu s.data.toList=if(!r.all CI)=true then none else some (D1 r):=by rw[hv,Qt,d3,eo];rfl
   refine Bq (Bt (r.all CI)) (fun e3=>?_) (fun e3=>?_)
   rotate_left
   ·rw[e3]at hw;refine Xi .pure (Xi _ (Yi (hw) ?_));exact .of_eq (Ab Xs (show(none:Option Int)=Gu s.data.toList by rw[sR,e3];rfl))
   rw[e3]at hw;refine Xi .pure (Xi _ (Yi (hw) ?_));have xA:Gu s.data.toList=some (D1 r):=by rw[sR,e3];rfl
   refine Xi ⟨[(0,vs rB)],[],Aa⟩ (Yi ⟨Z1,Tv,Fh,Tv⟩ ?_)
   have z0:D1 (r.take 0)=0:=rfl;refine Xi {i:Nat // i≤r.length∧0≤D1 (r.take i)∧(i=0→D1 (r.take i)≤0)∧(i≤1→D1 (r.take i)≤9)∧(i≤2→D1 (r.take i)≤99)∧D1 (r.take i)≤999} (Xi (fun i=>⟨[(0,vs rB),(5,vi (D1 (r.take i.1))),(39,vi rB.size),(40,vi i.1)],[],Aa⟩) (Xi (fun i=>r.length-i.1) (Yi (Xi ⟨0,AG _,by omega,fun _=>by omega,fun _=>by omega,fun _=>by omega,by omega⟩ ?_) ?_)))
   ·exact⟨Z4,Tv,Fh,Tv⟩
   intro⟨i,i1,i2,i3,i4,i5,i6⟩;refine Yi ?_ ?_
   ·intro h;have h:(i:Int)<(rB.size:Nat):=h;have h:i<r.length:=by omega
    have wU:CI r[i]=true:=AR.1 e3 _ (Ak h);have nf:=Ju wU;have bB:=K7 r i h;have Ys:IntKind.u8.wrap ((r[i].toNat:Int)-48)=(r[i].toNat:Int)-48:=SD (by omega) (by omega);have RZ:rB.data[((i:Nat):Int).toNat]?=some r[i]:=by rw[Ba,←AQ,gR];exact Ge h
    refine Yi (by show Bu (10*D1 (r.take i));unfold Bu;omega) ?_;refine Xi r[i] (Yi ⟨by show(0:Int)≤i;omega,RZ⟩ ?_);refine Yi (by show Bu (IntKind.u8.wrap ((r[i].toNat:Int)-48));rw[Ys];unfold Bu;omega) ?_;refine Yi (by show Bu (10*D1 (r.take i)+IntKind.u8.wrap ((r[i].toNat:Int)-48));rw[Ys];unfold Bu;omega) ?_;refine Yi (Ii i (by omega)) ?_;have e5:vi (10*D1 (r.take i)+IntKind.u8.wrap ((r[i].toNat:Int)-48))=vi (D1 (r.take (i+1))):=by rw[Ys,bB]
    refine Xi ⟨i+1,by omega,by omega,fun _=>by omega,fun _=>by omega,fun _=>by omega,by omega⟩ ?_;exact⟨Dl r.length i (by omega),⟨Zr,⟨e5,rfl⟩,Zr,Zr,Tv⟩,Tv,Fh,Tv⟩
   ·intro h;have h:¬(i:Int)<(rB.size:Nat):=h;have e6:AV.tup [vi (D1 (r.take i)),vb true]=Xs (Gu s.data.toList):=by rw[xA,AJ (by omega)]
    exact .of_eq e6
 ·have e1:Go.Lib.hasPrefix s.data.toList (⟨#[118]⟩:ByteArray).data.toList=false:=by
   cases hl:s.data.toList with
   |nil=>rfl
   |cons a l =>
    have:a≠118:=fun e=>hp ⟨l,by rw[hl,e]⟩
    show(List.isPrefixOf [118] (a::l))=false;rw[List.isPrefixOf_cons_cons]
    have:((118:UInt8) == a)=false:=by rw[beq_eq_false_iff_ne];exact fun e=>this e.symm
    rw[this];rfl
  have hv:Gu s.data.toList=none:=by
   cases hl:s.data.toList with
   |nil=>rfl
   |cons a l =>
    have:a≠118:=fun e=>hp ⟨l,by rw[hl,e]⟩
    show(if a=118 then _ else none)=none;rw[Ao this]
  rw[e1]at hc;refine Ps E8 Tryz.func139 rfl (Nz rfl) ?_;refine Xi .pure (Xi _ (Yi (hc) ?_));exact .of_eq (Ab Xs hv.symm)
abbrev QE:Option Int→AV
 |some n=>.tup [vi n,vi 0]
 |none=>.tup [vi 0,vi 4]
theorem LJ(c:UInt8):∀(s x:List UInt8),x∈CO c s→x.length≤s.length
 | [],x,h=>by
  rw[CO]at h;rw[As.1 h];exact Al _
 |b::r,x,h=>by
  have ih:=LJ c r;rw[CO]at h;split at h
  ·rcases Av.1 h with rfl | h
   ·exact AG _
   ·have:=ih x h;rw[Au];omega
  ·split at h
   ·rw[As.1 h];rw[Au];simp
   ·rename_i y l e;rcases Av.1 h with rfl | h
    ·have:=ih y (by rw[e];exact Ac ..);rw[Au,Au];omega
    ·have:=ih x (by rw[e];exact Af _ h);rw[Au];omega
theorem jp{p x:ByteArray}(hp:E9 p)(hx:x∈BM p):E9 x:=by
 have h:x.data.toList∈CO 47 p.data.toList:=by rw[←PJ];exact Ar.2 ⟨x,hx,rfl⟩
 have:=LJ 47 _ _ h
 unfold E9 at *
 have e1:x.size=x.data.toList.length:=by simp
 have e2:p.size=p.data.toList.length:=by simp
 omega
theorem d6(p:ByteArray):(BM p).length=(CO 47 p.data.toList).length:=by rw[←PJ,Lm]
theorem d7(p:ByteArray):0<(BM p).length:=by
 rw[show(BM p).length=Go.Lib.countB p ZD+1 from Go.Lib.splitB_all ZD (by decide) 0 _ p rfl];omega
theorem d5(p:ByteArray):(BM p).length≤p.size+1:=by
 rw[show(BM p).length=Go.Lib.countB p ZD+1 from Go.Lib.splitB_all ZD (by decide) 0 _ p rfl]
 have:=Go.Lib.countB_le ZD (by decide) p.size p (Al _);omega
theorem aD(p:ByteArray)(h:(BM p).length-1<(BM p).length):(CO 47 p.data.toList).getLastD []=((BM p)[(BM p).length-1]).data.toList:=by
 rw[←PJ,List.getLastD_eq_getLast?,List.getLast?_eq_getElem?,Lm,AK,Ge h];rfl
theorem d4(p:ByteArray):(CO 47 p.data.toList).all Hh=(BM p).all fun x=>Hh x.data.toList:=by
 rw[←PJ,List.all_map];rfl
theorem rh(p:ByteArray)(hp:E9 p):PC 113 [vs p] (QE (Bi p)):=by
 have xn:=d5 p;have ai:=d7 p;have xl:(BM p).length-1<(BM p).length:=by omega
 have Ek:p.size=p.data.toList.length:=by simp
 have zG:∀{x},x∈BM p→E9 x:=fun h=>jp hp h;unfold E9 at hp;have Sq:((BM p).map EL)[((((BM p).map EL).length:Int)-1).toNat]?=some (EL (BM p)[(BM p).length-1]):=by
  rw[Lm,show(((BM p).length:Int)-1).toNat=(BM p).length-1 by omega];exact B4 (Ge xl)
 have hv:=vO (BM p)[(BM p).length-1] (zG (Ak xl));have em:Bi p=match Gu ((BM p)[(BM p).length-1]).data.toList with
  |none=>none
  |some n=>if(decide (64<p.data.toList.length)||decide ((BM p).length<2))=true then none else if((BM p).all fun x=>Hh x.data.toList)=true then some n else none:=by
  unfold Bi QF;rw[aD p xl,d4,←d6];cases Gu ((BM p)[(BM p).length-1]).data.toList with
  |none=>rfl
  |some n=>rfl
 cases hve:Gu ((BM p)[(BM p).length-1]).data.toList with
 |none =>
  rw[hve]at hv em;refine Ps (Iq [2,3]) Tryz.func113 rfl (Nz rfl) ?_;refine Xi .pure (Xi _ (Yi (rm p hp) ?_));refine Xi ⟨[(0,vs p),(4,sl EL (BM p))],[],Aa⟩ (Yi ⟨Z2,Tv,Fh,Tv⟩ ?_)
  refine Yi (by show Bu ((((BM p).map EL).length:Int)-1);unfold Bu;rw[Lm];omega) ?_;refine Xi (EL (BM p)[(BM p).length-1]) (Yi (Yi (by show(0:Int)≤(((BM p).map EL).length:Int)-1;rw[Lm];omega) Sq) (Yi rfl ?_));refine Xi .pure (Xi _ (Yi (hv) ?_));refine Xi ⟨[(0,vs p),(4,sl EL (BM p)),(5,vi 0),(6,vb false)],[],Aa⟩ (Yi ⟨Z4,Tv,Fh,Tv⟩ ?_)
  exact .of_eq (Ab QE em.symm)
 |some n =>
  rw[hve]at hv em;have em:Bi p=if(decide (64<p.data.toList.length)||decide ((BM p).length<2))=true then none else if((BM p).all fun x=>Hh x.data.toList)=true then some n else none:=em
  refine Ps (Iq [2,3,5]) Tryz.func113 rfl (Nz rfl) ?_;refine Xi .pure (Xi _ (Yi (rm p hp) ?_));refine Xi ⟨[(0,vs p),(4,sl EL (BM p))],[],Aa⟩ (Yi ⟨Z2,Tv,Fh,Tv⟩ ?_)
  refine Yi (by show Bu ((((BM p).map EL).length:Int)-1);unfold Bu;rw[Lm];omega) ?_;refine Xi (EL (BM p)[(BM p).length-1]) (Yi (Yi (by show(0:Int)≤(((BM p).map EL).length:Int)-1;rw[Lm];omega) Sq) (Yi rfl ?_));refine Xi .pure (Xi _ (Yi (hv) ?_));refine Xi ⟨[(0,vs p),(4,sl EL (BM p)),(5,vi n),(6,vb true)],[],Aa⟩ (Yi ⟨Z4,Tv,Fh,Tv⟩ ?_)
  refine Yi ?_ ?_
  ·intro h;have h:(64:Int)<((p.size:Nat):Int):=h;exact .of_eq (Ab QE (show(none:Option Int)=Bi p by rw[em,At (by omega:64<p.data.toList.length)];rfl))
  intro h;have h:¬(64:Int)<((p.size:Nat):Int):=h;have d1:decide (64<p.data.toList.length)=false:=Aj (by omega);refine Yi ?_ ?_
  ·intro h2;have h2:(((BM p).map EL).length:Int)<2:=h2;rw[Lm]at h2;exact .of_eq (Ab QE (show(none:Option Int)=Bi p by rw[em,d1,At (by omega:(BM p).length<2)];rfl))
  intro h2;have h2:¬(((BM p).map EL).length:Int)<2:=h2;have d2:decide ((BM p).length<2)=false:=Aj (by rw[Lm]at h2;omega);have zi:Bi p=if((BM p).all fun x=>Hh x.data.toList)=true then some n else none:=by rw[em,d1,d2];rfl
  refine Xi ⟨[(4,sl EL (BM p)),(5,vi n)],[],Aa⟩ (Yi ⟨Z2,Tv,Fh,Tv⟩ ?_)
  refine Xi {i:Nat // i≤(BM p).length∧∀j (hj:j<(BM p).length),j<i→Hh ((BM p)[j]).data.toList=true} (Xi (fun i=>⟨[(5,vi n),(33,sl EL (BM p)),(34,vi ((BM p).map EL).length),(35,vi i.1)],[],Aa⟩) (Xi (fun i=>(BM p).length-i.1) (Yi (Xi ⟨0,AG _,fun j _ h=>by omega⟩ ?_) ?_)))
  ·exact⟨Z4,Tv,Fh,Tv⟩
  intro⟨i,i1,i2⟩;refine Yi ?_ ?_
  ·intro h;have h:(i:Int)<((BM p).map EL).length:=h;have h:i<(BM p).length:=by simpa using h
   have hg:(BM p)[i]?=some (BM p)[i]:=Ge h;refine Xi (EL (BM p)[i]) (Yi (Yi (Nn i) (by simp[hg])) (Yi rfl ?_));have zE:=zG (Ak h);have hn:=vP (BM p)[i] zE;have ha:=oA (BM p)[i] 142 Nv vQ (by unfold E9 at zE;have e1:(BM p)[i].size=(BM p)[i].data.toList.length:=(by simp);omega);have no:Hh ((BM p)[i]).data.toList=false→(none:Option Int)=Bi p:=fun e=>by
    rw[zi,Ao];intro Fp
    have:=AR.1 Fp _ (Ak h)
    rw[e]at this;cases this
   refine Bq (Bt (Gv ((BM p)[i]).data.toList)) (fun e1=>?_) (fun e1=>?_)
   rotate_left
   ·rw[e1]at hn;refine Xi .pure (Xi _ (Yi (hn) ?_));exact .of_eq (Ab QE (no (by unfold Hh;rw[e1];rfl)))
   rw[e1]at hn;refine Xi .pure (Xi _ (Yi (hn) ?_));refine Bq (Bt (((BM p)[i]).data.toList.all Nv)) (fun e2=>?_) (fun e2=>?_)
   rotate_left
   ·rw[e2]at ha;refine Xi .pure (Xi _ (Yi (ha) ?_));exact .of_eq (Ab QE (no (by unfold Hh;rw[e1];exact e2)))
   rw[e2]at ha;refine Xi .pure (Xi _ (Yi (ha) ?_));refine Yi (Ii i (by omega)) ?_;refine Xi ⟨i+1,by omega,fun j hj GA=>?_⟩ ?_
   ·rcases Ch j i with z | z
    ·exact i2 j hj z
    ·have:j=i:=by omega
     subst this;unfold Hh;rw[e1];exact e2
   ·exact⟨by show(BM p).length-(i+1)<(BM p).length-i;omega,Z4,Tv,Fh,Tv⟩
  ·intro h;have h:¬(i:Int)<((BM p).map EL).length:=h;have h:¬i<(BM p).length:=by simpa using h
   have e:some n=Bi p:=by
    rw[zi,Ax];exact AR.2 fun x hx=>by
     obtain⟨j,hj,rfl⟩:=Cc hx;exact i2 j hj (by omega)
   exact .of_eq (Ab QE e)
theorem vH(p:ByteArray)(hp:E9 p):PC 114 [vs p] (vb (Bi p).isSome):=by
 have hc:=rh p hp;cases h:Bi p with
 |none =>
  rw[h]at hc;refine Ps E8 Tryz.func114 rfl (Nz rfl) ?_;refine Xi .pure (Xi _ (Yi (hc) ?_));refine Yi ?_ ?_
  ·intro h;exact absurd (show(4:Int)=0 from h) (by decide)
  ·intro _;exact .refl _
 |some n =>
  rw[h]at hc;refine Ps E8 Tryz.func114 rfl (Nz rfl) ?_;refine Xi .pure (Xi _ (Yi (hc) ?_));refine Yi ?_ ?_
  ·intro _;exact .refl _
  ·intro h;exact absurd rfl h
theorem Oy(c:UInt8):∀s:List UInt8,2≤(CO c s).length→c∈s
 | [],h=>by rw[CO]at h;simp at h
 |b::r,h=>by
  rw[CO]at h
  by_cases e:b=c
  ·exact e▸Ac ..
  ·rw[Ao e]at h;refine Af _ (Oy c r ?_);cases hs:CO c r with
   |nil=>rw[hs]at h;simp at h
   |cons x l=>rw[hs]at h;simpa using h
theorem iK{p:ByteArray}{m:Int}(h:Bi p=some m):0≤Go.Lib.lastIndex p.data.toList [47]∧Go.Lib.lastIndex p.data.toList [47]≤p.size:=by
 have h2:2≤(CO 47 p.data.toList).length:=by
  unfold Bi QF at h;split at h
  ·cases h
  ·split at h
   ·cases h
   ·rename_i hn;simp only[CF,AB]at hn;omega
 have hm:=Oy 47 _ h2;obtain⟨i,hi,e⟩:=Cc hm;have Ek:p.size=p.data.toList.length:=by simp
 unfold Go.Lib.lastIndex;rw[Ax (by simp only[Am];omega)];have xh:Go.Lib.occAt p.data.toList [47] i=true:=by
  unfold Go.Lib.occAt;rw[Be hi,e];simp
 rcases Go.Lib.lastOcc_spec p.data.toList [47] (p.data.toList.length - [(47:UInt8)].length+1)with ⟨_,h3⟩ | ⟨j,h3,h4,_⟩
 ·have:=h3 i (by simp only[Am];omega)
  rw[xh]at this;cases this
 ·rw[h4];simp only[Am]at h3;omega
abbrev QB(p:ByteArray):ByteArray:=p.extract 0 (Go.Lib.lastIndex p.data.toList [47]).toNat
theorem ZG:UN QB:=by
 intro p hp;have hc:=rh p hp;have hi:=vH p hp;unfold Mz;cases h:Bi p with
 |none =>
  rw[h]at hc hi;refine Ps E8 Tryz.func91 rfl (Nz rfl) ?_;refine Xi .pure (Xi _ (Yi (hc) ?_));refine Xi .pure (Xi _ (Yi (hi) ?_));exact .refl _
 |some n =>
  rw[h]at hc hi;obtain⟨l1,l2⟩:=iK h;have hl:PC 115 [vs p,vs ZD] (vi (Go.Lib.lastIndex p.data.toList [47])):=vI p ZD hp;refine Ps E8 Tryz.func91 rfl (Nz rfl) ?_;refine Xi .pure (Xi _ (Yi (hc) ?_));refine Xi .pure (Xi _ (Yi (hi) ?_));refine Yi ?_ ?_
  ·intro h;exact absurd rfl h
  intro _;refine Xi .pure (Xi _ (Yi (hl) ?_));refine Yi ⟨AZ _,l1,l2⟩ ?_;exact .refl _
theorem PM{l:List Rq}(h:By l=0):l.length≤16:=by
 unfold By at h;split at h
 ·cases h
 ·omega
theorem Qy{x:List Rl}(h:A9 x=0):x.length≤256∧∀r∈x,r.reqs.length≤16:=by
 have h1:x.length≤256:=by
  unfold A9 at h;split at h
  ·cases h
  ·omega
 exact⟨h1,fun r hr=>PM ((Dc h).1 r hr).reqs⟩
theorem gE{x:List Rl}(h:∀r∈x,r.reqs.length≤16):((x.map (·.reqs)).flatten).length≤x.length*16:=by
 induction x with
 |nil=>simp
 |cons r x ih =>
  rw[AS,BJ,Ad,Au]
  have:=h r (Ac ..)
  have:=ih fun s hs=>h s (Af _ hs)
  omega
theorem aG{x:List Rl}{roots:List Rq}{l:List Nf}(h1:A9 x=0)(h2:By roots=0)(h3:l.length≤65536):(KD x roots l).length≤100000:=by
 obtain⟨a,b⟩:=Qy h1
 have:=gE b
 have:=PM h2
 unfold KD;simp only[Ad,Lm];omega
theorem Vb.fewI{U:List ByteArray}{t:List Tm}(h:Vb U t)(hu:U.length≤100000):nS t :=
 ⟨by have:=h.len;omega,fun u hu=>Pd (h.1.canon u hu)⟩
abbrev RF(x:List Rl)(ifs:List (List AV)):AV:=.agg (Ic x ifs)
abbrev Xz:EX:=⟨true,[.str,.int .i64,.int .i64,.int .i64]⟩
abbrev TX(y:Sl):Value:=.agg #[.string y.path,.int .i64 y.ver.a,.int .i64 y.ver.b,.int .i64 y.ver.c]
abbrev VS(r:Rl):Value×AV:=(TX (Gl r),.agg (Ai r))
def AT:List Rl→List ByteArray→List ByteArray
 | [],acc=>acc
 |r::x,acc=>AT x (if acc.any (fun p=>decide (p=r.path))then acc else acc++[r.path])
abbrev nF(x:List Rl)(p:ByteArray):Value×AV:=(.string p,sl Ai (x.filter fun r=>decide (r.path=p)))
abbrev aS(x:List Rl):AV:=if A9 x=0 then .tup [.agg [.cmap Xz (x.map VS),.cmap Dm ((AT x []).map (nF x))],vi 0]else .tup [.agg [.cmap Xz [],.cmap Dm []],vi (A9 x)]
abbrev mV(x:List Rl)(ifs:List (List AV)):Prop:=PC 73 [RF x ifs] (aS x)
theorem lP{y z:Sl}(h:TX y=TX z):y=z:=by
 obtain⟨p,⟨a,b,c⟩⟩:=y;obtain⟨q,⟨d,e,f⟩⟩:=z;simp only[TX,Value.agg.injEq,Array.mk.injEq,FN,Value.string.injEq,Value.int.injEq,true_and,and_true]at h;obtain⟨rfl,rfl,rfl,rfl⟩:=h
 rfl
theorem lV{x:List Rl}{y:Sl}{a:AV}(h:(TX y,a)∈x.map VS):∃r∈x,Gl r=y∧a=.agg (Ai r):=by
 obtain⟨r,h1,h2⟩:=Ar.1 h;simp only[VS,F9]at h2;exact⟨r,h1,lP h2.1,h2.2.symm⟩
abbrev DW(l:List Rl):Bg:=(l.filter fun r=>!r.yanked).map fun r=>(plc r.ver,plc r.ver+1)
theorem aR(l:List Rl):(DW l).length≤l.length:=by
 unfold DW;rw[Lm];exact BB _ _
theorem lU{x:List Rl}{ps:List ByteArray}{p:ByteArray}{a:AV}(h:(Value.string p,a)∈ps.map (nF x)):a=sl Ai (x.filter fun r=>decide (r.path=p)):=by
 obtain⟨q,_,h2⟩:=Ar.1 h;simp only[nF,F9,Value.string.injEq]at h2;rw[←h2.2,h2.1]
theorem OP{acc:List ByteArray}{p:ByteArray}:(acc.any fun q=>decide (q=p))=true↔p∈acc:=by
 rw[Bb];constructor
 ·rintro⟨q,h1,h2⟩;rw[←BD h2];exact h1
 ·intro h;exact⟨p,h,by simp⟩
theorem HF:∀(x:List Rl) (acc:List ByteArray) (p:ByteArray),p∈AT x acc↔p∈acc∨∃r∈x,r.path=p
 | [],acc,p=>by simp[AT]
 |r::x,acc,p=>by
  rw[AT,HF x];constructor
  ·rintro(h | ⟨s,h1,h2⟩)
   ·split at h
    ·exact .inl h
    ·rcases A6.1 h with h | h
     ·exact .inl h
     ·exact .inr ⟨r,Ac ..,(As.1 h).symm⟩
   ·exact .inr ⟨s,Af _ h1,h2⟩
  ·rintro(h | ⟨s,h1,h2⟩)
   ·left
    split
    ·exact h
    ·exact Br _ h
   ·rcases Av.1 h1 with rfl | h1
    ·left
     split
     ·rename_i hh;rw[←h2];exact OP.1 hh
     ·rw[←h2];exact Bv _ (As.2 rfl)
    ·exact .inr ⟨s,h1,h2⟩
abbrev nL:Sj:=⟨[],[(7,2)],[],[],[],[],[],[],[],[],[2,3,6,7,9]⟩
theorem Vm(L:List Rl)(i:Nat)(h:i<L.length):DW (L.take (i+1))=DW (L.take i)++(if L[i].yanked then []else [(plc L[i].ver,plc L[i].ver+1)]):=by
 unfold DW;rw[BC,Ge h,DZ,AH]
 congr 1
 cases hy:L[i].yanked<;>simp[hy]
theorem vL(x:List Rl)(ifs:List (List AV))(p:ByteArray)(qi:mV x ifs):PC 118 [RF x ifs,vs p] (sl Ag (Ci x p)):=by
 by_cases h0:A9 x=0
 ·have qi:PC 73 [RF x ifs] (.tup [.agg [.cmap Xz (x.map VS),.cmap Dm ((AT x []).map (nF x))],vi 0]):=by
   have:=qi;unfold mV aS at this;rw[Ax h0]at this;exact this
  have nB:=(Qy h0).1;obtain⟨L,ue⟩:∃L,L=x.filter fun r=>decide (r.path=p):=⟨_,rfl⟩;have hL:KB x p=L:=by unfold KB;rw[Ao (by omega),ue]
  have zr:L.length≤256:=by have:=BB (fun r:Rl=>decide (r.path=p)) x;rw[ue];omega
  refine Ps nL Tryz.func118 rfl (Nz rfl) ?_;refine Yi (Nz rfl) ?_;refine Xi .pure (Xi _ (Yi (qi) ?_));refine Yi (Nz rfl) ?_;refine Xi ⟨[(1,vs p),(5,.ref 5 0)],[(5,.cells [.cmap Xz (x.map VS),.cmap Dm ((AT x []).map (nF x))])],Aa⟩ (Yi ⟨Z2,Z1,Fh,Tv⟩ ?_)
  refine Xi ⟨[(1,vs p),(5,.ref 5 0),(7,.slice (.id 7 2) [])],[(5,.cells [.cmap Xz (x.map VS),.cmap Dm ((AT x []).map (nF x))]),(7,.tok 2 0)],Aa⟩ (Yi ⟨Z3,Z2,Fh,Tv⟩ ?_)
  refine Yi ?_ ?_
  ·intro a ha;have ea:a=sl Ai L:=by rw[ue];exact lU ha
   subst ea;refine Xi {i:Nat // i≤L.length} (Xi (fun i=>⟨[(7,.slice (.id 7 2) ((DW (L.take i.1)).map Ag)),(18,sl Ai L),(19,vi (L.map Ai).length),(20,vi i.1)],[(7,.tok 2 ((DW (L.take i.1)).map Ag).length)],Aa⟩) (Xi (fun i=>L.length-i.1) (Yi (Xi ⟨0,AG _⟩ ?_) ?_)))
   ·exact⟨Z4,Z1,Fh,Tv⟩
   intro⟨i,i1⟩;have VH:=aR (L.take i);rw[AC]at VH;refine Yi ?_ ?_
   ·intro h;have h:(i:Int)<(L.map Ai).length:=h;have h:i<L.length:=by simpa using h
    have hg:L[i]?=some L[i]:=Ge h;refine Xi (Ai L[i]) (Yi (Yi (Nn i) (by simp[hg])) (Yi rfl ?_));refine Yi (Nz rfl) (Yi (Nz rfl) ?_);refine Xi ⟨[(7,.slice (.id 7 2) ((DW (L.take i)).map Ag)),(9,.ref 9 0),(18,sl Ai L),(19,vi (L.map Ai).length),(20,vi i)],[(7,.tok 2 ((DW (L.take i)).map Ag).length),(9,.cells (Ai L[i]))],Aa⟩ (Yi ⟨Z5,Z2,Fh,Tv⟩ ?_)
    refine Yi ?_ ?_
    ·intro hy;have hy:L[i].yanked=true:=hy;refine Yi (Ii i (by omega)) ?_;have es:DW (L.take (i+1))=DW (L.take i):=by rw[Vm L i h,hy];simp
     have e1:AV.slice (.id 7 2) ((DW (L.take i)).map Ag)=.slice (.id 7 2) ((DW (L.take (i+1))).map Ag):=by rw[es]
     have e2:HO.tok 2 ((DW (L.take i)).map Ag).length=.tok 2 ((DW (L.take (i+1))).map Ag).length:=by rw[es]
     refine Xi ⟨i+1,by omega⟩ ?_;exact⟨Dl L.length i (by omega),⟨⟨e1,rfl⟩,Zr,Zr,Zr,Tv⟩,⟨⟨e2,rfl⟩,Tv⟩,Fh,Tv⟩
    ·intro hy;have hy:L[i].yanked=false:=hy;have sG:=mw L[i].ver;refine Xi ⟨[(7,.slice (.id 7 2) ((DW (L.take i)).map Ag)),(9,.ref 9 0),(18,sl Ai L),(19,vi (L.map Ai).length),(20,vi i)],[(7,.tok 2 ((DW (L.take i)).map Ag).length),(9,.cells (Ai L[i]))],Aa⟩ (Yi ⟨Z5,Z2,Fh,Tv⟩ ?_)
     refine Yi (Nz rfl) ?_;refine Xi _ (Yi (ze L[i]) ?_);refine Yi (Nz rfl) ?_;refine Xi _ (Yi (ze L[i]) ?_);refine Yi (by show Bu (plc L[i].ver+1);unfold Bu;omega) ?_;have F8:CT 2 [[vi (plc L[i].ver),vi (plc L[i].ver+1)]]∧((DW (L.take i)).map Ag).length=((DW (L.take i)).map Ag).length∧(((DW (L.take i)).map Ag).length+[[vi (plc L[i].ver),vi (plc L[i].ver+1)]].length)*16≤140737488355328∧((DW (L.take i)).map Ag).length+[[vi (plc L[i].ver),vi (plc L[i].ver+1)]].length≤9223372036854775807 :=
      ⟨⟨rfl,trivial⟩,rfl,by rw[Lm,Am];omega,by rw[Lm,Am];omega⟩
     refine Yi F8 ?_;refine Yi (by kernel_rfl) ?_;refine Yi (Ii i (by omega)) ?_;have es:DW (L.take (i+1))=DW (L.take i)++[(plc L[i].ver,plc L[i].ver+1)]:=by rw[Vm L i h,hy];simp
     have e1:AV.slice (.id 7 2) ((DW (L.take i)).map Ag++[[vi (plc L[i].ver),vi (plc L[i].ver+1)]])=.slice (.id 7 2) ((DW (L.take (i+1))).map Ag):=by rw[es,AH];rfl
     have e2:HO.tok 2 (((DW (L.take i)).map Ag).length+[[vi (plc L[i].ver),vi (plc L[i].ver+1)]].length)=.tok 2 ((DW (L.take (i+1))).map Ag).length:=by rw[es,AH,Ad];rfl
     refine Xi ⟨i+1,by omega⟩ ?_;exact⟨Dl L.length i (by omega),⟨⟨e1,rfl⟩,Zr,Zr,Zr,Tv⟩,⟨⟨e2,rfl⟩,Tv⟩,Fh,Tv⟩
   ·intro h;have h:¬(i:Int)<(L.map Ai).length:=h;have h:¬i<L.length:=by simpa using h
    have et:L.take i=L:=AJ (by omega);refine Xi ⟨[(7,.slice (.id 7 2) ((DW (L.take i)).map Ag))],[(7,.tok 2 ((DW (L.take i)).map Ag).length)],Aa⟩ (Yi ⟨Z1,Z1,Fh,Tv⟩ ?_)
    have hc:PC 148 [sl Ag (DW (L.take i))] (sl Ag (canon (DW (L.take i)))):=XN _ (by unfold Co;omega);refine Xi .pure (Xi _ (Yi (hc) ?_));exact .of_eq (show sl Ag (canon (DW (L.take i)))=sl Ag (Ci x p) by rw[et];unfold Ci;rw[hL])
  ·intro hn;have hL:KB x p=[]:=by
    rw[hL,ue,HI];intro r hr he;have he:=BD he;exact hn _ (Ar.2 ⟨p,(HF x [] p).2 (.inr ⟨r,hr,he⟩),rfl⟩)
   refine Xi Unit (Xi (fun _=>⟨[(7,.slice (.id 7 2) []),(19,vi 0),(20,vi 0)],[(7,.tok 2 0)],Aa⟩) (Xi (fun _=>0) (Yi (Xi () ?_) ?_)))
   ·exact⟨Z3,Z1,Fh,Tv⟩
   intro _;refine Yi ?_ ?_
   ·intro h;exact absurd (show(0:Int)<0 from h) (by decide)
   intro _;refine Xi ⟨[(7,.slice (.id 7 2) [])],[(7,.tok 2 0)],Aa⟩ (Yi ⟨Z1,Z1,Fh,Tv⟩ ?_)
   have hc:PC 148 [sl Ag []] (sl Ag (canon [])):=XN [] (by unfold Co;simp);refine Xi .pure (Xi _ (Yi (hc) ?_));exact .of_eq (show sl Ag (canon [])=sl Ag (Ci x p) by unfold Ci;rw[hL];rfl)
 ·have qi:PC 73 [RF x ifs] (.tup [.agg [.cmap Xz [],.cmap Dm []],vi (A9 x)]):=by
   have:=qi;unfold mV aS at this;rw[Ao h0]at this;exact this
  have hL:KB x p=[]:=by unfold KB;rw[Ax h0]
  refine Ps nL Tryz.func118 rfl (Nz rfl) ?_;refine Yi (Nz rfl) ?_;refine Xi .pure (Xi _ (Yi (qi) ?_));refine Yi (Nz rfl) ?_;refine Xi ⟨[(1,vs p),(5,.ref 5 0)],[(5,.cells [.cmap Xz [],.cmap Dm []])],Aa⟩ (Yi ⟨Z2,Z1,Fh,Tv⟩ ?_)
  refine Xi ⟨[(1,vs p),(5,.ref 5 0),(7,.slice (.id 7 2) [])],[(5,.cells [.cmap Xz [],.cmap Dm []]),(7,.tok 2 0)],Aa⟩ (Yi ⟨Z3,Z2,Fh,Tv⟩ ?_)
  refine Yi ?_ ?_
  ·intro a ha;cases ha
  ·intro _;refine Xi Unit (Xi (fun _=>⟨[(7,.slice (.id 7 2) []),(19,vi 0),(20,vi 0)],[(7,.tok 2 0)],Aa⟩) (Xi (fun _=>0) (Yi (Xi () ?_) ?_)))
   ·exact⟨Z3,Z1,Fh,Tv⟩
   intro _;refine Yi ?_ ?_
   ·intro h;exact absurd (show(0:Int)<0 from h) (by decide)
   intro _;refine Xi ⟨[(7,.slice (.id 7 2) [])],[(7,.tok 2 0)],Aa⟩ (Yi ⟨Z1,Z1,Fh,Tv⟩ ?_)
   have hc:PC 148 [sl Ag []] (sl Ag (canon [])):=XN [] (by unfold Co;simp);refine Xi .pure (Xi _ (Yi (hc) ?_));exact .of_eq (show sl Ag (canon [])=sl Ag (Ci x p) by unfold Ci;rw[hL];rfl)
theorem SV(x:List Rl)(p:ByteArray):Co (Ci x p):=by
 unfold Ci Co
 have:=Iu (Cv (((KB x p).filter fun r=>!r.yanked).map fun r=>(plc r.ver,plc r.ver+1)));omega
end Go.Eng
