/- Lemmas for the claims of this seat, without a condition: part 20 (C39, LayStr, C40, C41, C42, C43, C44, C45, C46, C47, C48, C49, C50, C51, C52, C53, C54, C55). -/
import Derived.Test.YtmcbkdbfaneofaaGreatDoorCA19
import Derived.Shelf.Strings.SplitShaped
import Derived.Shelf.Strings.LastIndexAll
import Derived.Shelf.Strings.Search3
import Derived.Shelf.Small.Wraps
import Derived.Ground.NamesProg
import Derived.Lib.LastIndexLaws
namespace Go.Eng
open Go.Proofs
abbrev vc(c:UInt8):AV:=.v (.int .u8 c.toNat)
theorem iq(a:UInt8)(n:Nat)(h:n<256):decide (UInt8.ofNat n≤a)=decide ((n:Int)≤(a.toNat:Int)):=by
 rw[BT,Az,Az,Ld,show(UInt8.ofNat n).toNat=n by simp;omega];omega
theorem ip(a:UInt8)(n:Nat)(h:n<256):decide (a≤UInt8.ofNat n)=decide ((a.toNat:Int)≤(n:Int)):=by
 rw[BT,Az,Az,Ld,show(UInt8.ofNat n).toNat=n by simp;omega];omega
theorem mh(c:UInt8):PC 143 [vc c] (vb (GT c)):=by
 refine Ps Gc Tryz.func143 rfl (Nz rfl) ?_;have e1:decide ((97:UInt8)≤c)=decide ((97:Int)≤(c.toNat:Int)):=iq c 97 (by decide);have e2:decide (c≤(122:UInt8))=decide ((c.toNat:Int)≤(122:Int)):=ip c 122 (by decide);have es:GT c=(decide ((97:Int)≤(c.toNat:Int))&&decide ((c.toNat:Int)≤(122:Int))):=by unfold GT;rw[e1,e2]
 refine Yi ?_ ?_
 ·intro h;have h:(97:Int)≤(c.toNat:Int):=h;refine Yi ?_ ?_
  ·intro h2;have h2:(c.toNat:Int)≤122:=h2;exact .of_eq (Ac vb (show true=GT c by rw[es,AA h,AA h2];rfl))
  ·intro h2;have h2:¬(c.toNat:Int)≤122:=h2;exact .of_eq (Ac vb (show false=GT c by rw[es,Ap h2,DE]))
 ·intro h;have h:¬(97:Int)≤(c.toNat:Int):=h;exact .of_eq (Ac vb (show false=GT c by rw[es,Ap h];rfl))
theorem mi(c:UInt8):PC 144 [vc c] (vb (EM c)):=by
 refine Ps Gc Tryz.func144 rfl (Nz rfl) ?_;have e1:decide ((48:UInt8)≤c)=decide ((48:Int)≤(c.toNat:Int)):=iq c 48 (by decide);have e2:decide (c≤(57:UInt8))=decide ((c.toNat:Int)≤(57:Int)):=ip c 57 (by decide);have es:EM c=(decide ((48:Int)≤(c.toNat:Int))&&decide ((c.toNat:Int)≤(57:Int))):=by unfold EM;rw[e1,e2]
 refine Yi ?_ ?_
 ·intro h;have h:(48:Int)≤(c.toNat:Int):=h;refine Yi ?_ ?_
  ·intro h2;have h2:(c.toNat:Int)≤57:=h2;exact .of_eq (Ac vb (show true=EM c by rw[es,AA h,AA h2];rfl))
  ·intro h2;have h2:¬(c.toNat:Int)≤57:=h2;exact .of_eq (Ac vb (show false=EM c by rw[es,Ap h2,DE]))
 ·intro h;have h:¬(48:Int)≤(c.toNat:Int):=h;exact .of_eq (Ac vb (show false=EM c by rw[es,Ap h];rfl))
theorem tc(c:UInt8):PC 221 [vc c] (vb (VJ c)):=by
 refine Ps Gc Tryz.func221 rfl (Nz rfl) ?_;have e1:decide ((65:UInt8)≤c)=decide ((65:Int)≤(c.toNat:Int)):=iq c 65 (by decide);have e2:decide (c≤(90:UInt8))=decide ((c.toNat:Int)≤(90:Int)):=ip c 90 (by decide);have es:VJ c=(decide ((65:Int)≤(c.toNat:Int))&&decide ((c.toNat:Int)≤(90:Int))):=by unfold VJ;rw[e1,e2]
 refine Yi ?_ ?_
 ·intro h;have h:(65:Int)≤(c.toNat:Int):=h;refine Yi ?_ ?_
  ·intro h2;have h2:(c.toNat:Int)≤90:=h2;exact .of_eq (Ac vb (show true=VJ c by rw[es,AA h,AA h2];rfl))
  ·intro h2;have h2:¬(c.toNat:Int)≤90:=h2;exact .of_eq (Ac vb (show false=VJ c by rw[es,Ap h2,DE]))
 ·intro h;have h:¬(65:Int)≤(c.toNat:Int):=h;exact .of_eq (Ac vb (show false=VJ c by rw[es,Ap h];rfl))
abbrev Zy(c:UInt8):Bool:=GT c||EM c
theorem sZ(c:UInt8):PC 142 [vc c] (vb (Zy c)):=by
 have h1:=mh c;have h2:=mi c;rcases Bt (GT c)with e | e
 ·rw[e]at h1;refine Ps Gc Tryz.func142 rfl (Nz rfl) ?_;refine Xi .pure (Xi _ (Yi (h1) ?_));exact .of_eq (Ac vb (show true=Zy c by unfold Zy;rw[e];rfl))
 ·rw[e]at h1;refine Ps Gc Tryz.func142 rfl (Nz rfl) ?_;refine Xi .pure (Xi _ (Yi (h1) ?_));refine Xi .pure (Xi _ (Yi (h2) ?_));exact .of_eq (Ac vb (show EM c=Zy c by unfold Zy;rw[e];rfl))
theorem s8(c:UInt8):PC 187 [vc c] (vb (Mh c)):=by
 have h1:=mh c;have h2:=tc c;have h3:=mi c;have ew:Mh c=(GT c||VJ c||EM c||decide (c=95)):=rfl;rcases Bt (GT c)with e | e
 ·rw[e]at h1;refine Ps Gc Tryz.func187 rfl (Nz rfl) ?_;refine Xi .pure (Xi _ (Yi (h1) ?_));exact .of_eq (Ac vb (show true=Mh c by rw[ew,e];rfl))
 rw[e]at h1;rcases Bt (VJ c)with e2 | e2
 ·rw[e2]at h2;refine Ps Gc Tryz.func187 rfl (Nz rfl) ?_;refine Xi .pure (Xi _ (Yi (h1) ?_));refine Xi .pure (Xi _ (Yi (h2) ?_));exact .of_eq (Ac vb (show true=Mh c by rw[ew,e,e2];rfl))
 rw[e2]at h2;rcases Bt (EM c)with e3 | e3
 ·rw[e3]at h3;refine Ps Gc Tryz.func187 rfl (Nz rfl) ?_;refine Xi .pure (Xi _ (Yi (h1) ?_));refine Xi .pure (Xi _ (Yi (h2) ?_));refine Xi .pure (Xi _ (Yi (h3) ?_));exact .of_eq (Ac vb (show true=Mh c by rw[ew,e,e2,e3];rfl))
 rw[e3]at h3;refine Ps Gc Tryz.func187 rfl (Nz rfl) ?_;refine Xi .pure (Xi _ (Yi (h1) ?_));refine Xi .pure (Xi _ (Yi (h2) ?_));refine Xi .pure (Xi _ (Yi (h3) ?_));have eb:decide (c=95)=decide ((c.toNat:Int)=95):=by
  rw[BT,Az,Az];constructor
  ·intro h;subst h;rfl
  ·intro h;exact UInt8.toNat_inj.1 (by show c.toNat=95;omega)
 refine Yi ?_ ?_
 ·intro h;have h:(c.toNat:Int)=95:=h;exact .of_eq (Ac vb (show true=Mh c by rw[ew,e,e2,e3,eb,AA h];rfl))
 ·intro h;have h:¬(c.toNat:Int)=95:=h;exact .of_eq (Ac vb (show false=Mh c by rw[ew,e,e2,e3,eb,Ap h];rfl))
theorem ZH(s:ByteArray)(i:Nat)(h:i<s.data.toList.length):s.data[i]?=some s.data.toList[i]:=by
 rw[←A1];exact Ge h
theorem mg(s:ByteArray)(f:Nat)(q:UInt8→Bool)(hf:∀c,PC f [vc c] (vb (q c)))(hs:s.data.toList.length<4611686018427387904):PC 141 [vs s,.v (TY f)] (vb (s.data.toList.all q)):=by
 have EB:s.size=s.data.toList.length:=by simp
 refine Ps Gc Tryz.func141 rfl (Nz rfl) ?_;refine Xi {i:Nat // i≤s.data.toList.length∧∀j (hj:j<s.data.toList.length),j<i→q s.data.toList[j]=true} (Xi (fun i=>⟨[(0,vs s),(1,.v (TY f)),(7,vi s.size),(8,vi i.1)],[],Ab⟩) (Xi (fun i=>s.data.toList.length-i.1) (Yi (Xi ⟨0,AN _,fun j _ h=>by omega⟩ ?_) ?_)))
 ·exact⟨Z4,Tv,Fh,Tv⟩
 intro⟨i,h1,h2⟩;refine Yi ?_ ?_
 ·intro h;have h:(i:Int)<(s.size:Nat):=h;have h:i<s.data.toList.length:=by omega
  refine Xi s.data.toList[i] (Yi ⟨by show(0:Int)≤i;omega,by show s.data[((i:Nat):Int).toNat]?=_;rw[Ch];exact ZH s i h⟩ ?_);have hc:=hf s.data.toList[i];refine BV (Bt (q s.data.toList[i])) (fun e=>?_) (fun e=>?_)
  ·rw[e]at hc;refine Xi .pure (Xi _ (Yi (hc) ?_));refine Yi (Ii i (by omega)) ?_;refine Xi ⟨i+1,by omega,fun j hj HT=>?_⟩ ?_
   ·rcases Ez j i with z | z
    ·exact h2 j hj z
    ·have:j=i:=by omega
     subst this;exact e
   ·exact⟨Dl s.data.toList.length i (by omega),Z4,Tv,Fh,Tv⟩
  ·rw[e]at hc;refine Xi .pure (Xi _ (Yi (hc) ?_));have er:s.data.toList.all q=false:=by
    rw[AI];intro ha
    have:=Bp.1 ha _ (Aq h)
    rw[e]at this;cases this
   exact .of_eq (Ac vb er.symm)
 ·intro h;have h:¬(i:Int)<(s.size:Nat):=h;have er:s.data.toList.all q=true:=Bp.2 fun c hc=>by
   obtain⟨j,hj,rfl⟩:=Fu hc;exact h2 j hj (by omega)
  exact .of_eq (Ac vb er.symm)
end Go.Eng
namespace Go.Proofs
open Go.Shelf
def Tryz.laySplit_ren:Go.Shelf.Ren:=⟨fun | 146=>138 | 221=>185 | 268=>217 | 138=>218 | 143=>219 | 195=>241 | 197=>242 | 218=>243 | 219=>244 | 260=>260 | 217=>261 | 225=>262 | 224=>263 | 267=>264 | 266=>278 | 314=>279 | n=>n,fun | 9=>9 | 31=>129 | 3=>3 | 4=>4 | 0=>0 | 105=>274 | 21=>21 | 5=>5 | 46=>185 | 119=>295 | 139=>298 | 138=>297 | 146=>233 | 51=>220 | n=>n,fun | 1=>0 | 3=>1 | 4=>2 | n=>n⟩
theorem Tryz.laySplit:Go.Proofs.Lays.n146 Tryz.prog Tryz.laySplit_ren:={
 mixed:=by kernel_rfl
 f138:=Tryz.func218.trans (congrArg some (by kernel_rfl))
 f143:=Tryz.func219.trans (congrArg some (by kernel_rfl))
 f146:=Tryz.func138.trans (congrArg some (by kernel_rfl))
 f195:=Tryz.func241.trans (congrArg some (by kernel_rfl))
 f197:=Tryz.func242.trans (congrArg some (by kernel_rfl))
 f217:=Tryz.func261.trans (congrArg some (by kernel_rfl))
 f218:=Tryz.func243.trans (congrArg some (by kernel_rfl))
 f219:=Tryz.func244.trans (congrArg some (by kernel_rfl))
 f221:=Tryz.func185.trans (congrArg some (by kernel_rfl))
 f224:=Tryz.func263.trans (congrArg some (by kernel_rfl))
 f225:=Tryz.func262.trans (congrArg some (by kernel_rfl))
 f260:=Tryz.func260.trans (congrArg some (by kernel_rfl))
 f266:=Tryz.func278.trans (congrArg some (by kernel_rfl))
 f267:=Tryz.func264.trans (congrArg some (by kernel_rfl))
 f268:=Tryz.func217.trans (congrArg some (by kernel_rfl))
 f314:=Tryz.func279.trans (congrArg some (by kernel_rfl))
 t0:=Tryz.underlying0
 a0:=Tryz.isAgg0
 z0:=Tryz.sizeOf0
 v0:=Tryz.zeroValue0
 t3:=Tryz.underlying3
 a3:=Tryz.isAgg3
 z3:=Tryz.sizeOf3
 v3:=Tryz.zeroValue3
 t4:=Tryz.underlying4
 a4:=Tryz.isAgg4
 z4:=Tryz.sizeOf4
 v4:=Tryz.zeroValue4
 t5:=Tryz.underlying5
 a5:=Tryz.isAgg5
 z5:=Tryz.sizeOf5
 v5:=Tryz.zeroValue5
 t9:=Tryz.underlying9
 a9:=Tryz.isAgg9
 z9:=Tryz.sizeOf9
 v9:=Tryz.zeroValue9
 t21:=Tryz.underlying21
 a21:=Tryz.isAgg21
 z21:=Tryz.sizeOf21
 v21:=Tryz.zeroValue21
 t31:=Tryz.underlying129
 a31:=Tryz.isAgg129
 z31:=Tryz.sizeOf129
 v31:=Tryz.zeroValue129
 t46:=Tryz.underlying185
 a46:=Tryz.isAgg185
 z46:=Tryz.sizeOf185
 v46:=Tryz.zeroValue185
 t51:=Tryz.underlying220
 a51:=Tryz.isAgg220
 z51:=Tryz.sizeOf220
 v51:=Tryz.zeroValue220
 t105:=Tryz.underlying274
 a105:=Tryz.isAgg274
 z105:=Tryz.sizeOf274
 v105:=Tryz.zeroValue274
 t119:=Tryz.underlying295
 a119:=Tryz.isAgg295
 z119:=Tryz.sizeOf295
 t138:=Tryz.underlying297
 a138:=Tryz.isAgg297
 z138:=Tryz.sizeOf297
 v138:=Tryz.zeroValue297
 t139:=Tryz.underlying298
 a139:=Tryz.isAgg298
 z139:=Tryz.sizeOf298
 v139:=Tryz.zeroValue298
 t146:=Tryz.underlying233
 a146:=Tryz.isAgg233
 z146:=Tryz.sizeOf233
 v146:=Tryz.zeroValue233
 g1:=by kernel_rfl
 g3:=by kernel_rfl
 g4:=by kernel_rfl }
def Tryz.layLast_ren:Go.Shelf.Ren:=⟨fun | 148=>115 | 222=>145 | 223=>146 | 269=>189 | n=>n,fun | 9=>9 | 3=>3 | 4=>4 | 5=>5 | 146=>233 | 51=>220 | 46=>185 | n=>n,fun | n=>n⟩
theorem Tryz.layLast:Go.Proofs.Lays.n148 Tryz.prog Tryz.layLast_ren:={
 mixed:=by kernel_rfl
 f148:=Tryz.func115.trans (congrArg some (by kernel_rfl))
 f222:=Tryz.func145.trans (congrArg some (by kernel_rfl))
 f223:=Tryz.func146.trans (congrArg some (by kernel_rfl))
 f269:=Tryz.func189.trans (congrArg some (by kernel_rfl))
 t3:=Tryz.underlying3
 a3:=Tryz.isAgg3
 z3:=Tryz.sizeOf3
 v3:=Tryz.zeroValue3
 t4:=Tryz.underlying4
 a4:=Tryz.isAgg4
 z4:=Tryz.sizeOf4
 v4:=Tryz.zeroValue4
 t5:=Tryz.underlying5
 a5:=Tryz.isAgg5
 z5:=Tryz.sizeOf5
 v5:=Tryz.zeroValue5
 t9:=Tryz.underlying9
 a9:=Tryz.isAgg9
 z9:=Tryz.sizeOf9
 v9:=Tryz.zeroValue9
 t46:=Tryz.underlying185
 a46:=Tryz.isAgg185
 z46:=Tryz.sizeOf185
 v46:=Tryz.zeroValue185
 t51:=Tryz.underlying220
 a51:=Tryz.isAgg220
 z51:=Tryz.sizeOf220
 v51:=Tryz.zeroValue220
 t146:=Tryz.underlying233
 a146:=Tryz.isAgg233
 z146:=Tryz.sizeOf233
 v146:=Tryz.zeroValue233 }
def Tryz.layCut_ren:Go.Shelf.Ren:=⟨fun | 103=>186 | 210=>220 | 206=>245 | n=>n,fun | 9=>9 | 4=>4 | 24=>231 | 3=>3 | n=>n,fun | n=>n⟩
theorem Tryz.layCut:Go.Proofs.Lays.n103 Tryz.prog Tryz.layCut_ren:={
 mixed:=by kernel_rfl
 f103:=Tryz.func186.trans (congrArg some (by kernel_rfl))
 f206:=Tryz.func245.trans (congrArg some (by kernel_rfl))
 f210:=Tryz.func220.trans (congrArg some (by kernel_rfl))
 t3:=Tryz.underlying3
 a3:=Tryz.isAgg3
 z3:=Tryz.sizeOf3
 v3:=Tryz.zeroValue3
 t4:=Tryz.underlying4
 a4:=Tryz.isAgg4
 z4:=Tryz.sizeOf4
 v4:=Tryz.zeroValue4
 t9:=Tryz.underlying9
 a9:=Tryz.isAgg9
 z9:=Tryz.sizeOf9
 v9:=Tryz.zeroValue9
 t24:=Tryz.underlying231
 a24:=Tryz.isAgg231
 z24:=Tryz.sizeOf231
 v24:=Tryz.zeroValue231 }
def Tryz.layCont_ren:Go.Shelf.Ren:=⟨fun | 144=>222 | 143=>219 | 219=>244 | 217=>261 | 225=>262 | 224=>263 | 267=>264 | 266=>278 | 314=>279 | n=>n,fun | 9=>9 | 4=>4 | 3=>3 | 5=>5 | 46=>185 | 146=>233 | 51=>220 | n=>n,fun | 1=>0 | n=>n⟩
theorem Tryz.layCont:Go.Proofs.Lays.n144 Tryz.prog Tryz.layCont_ren:={
 mixed:=by kernel_rfl
 f143:=Tryz.func219.trans (congrArg some (by kernel_rfl))
 f144:=Tryz.func222.trans (congrArg some (by kernel_rfl))
 f217:=Tryz.func261.trans (congrArg some (by kernel_rfl))
 f219:=Tryz.func244.trans (congrArg some (by kernel_rfl))
 f224:=Tryz.func263.trans (congrArg some (by kernel_rfl))
 f225:=Tryz.func262.trans (congrArg some (by kernel_rfl))
 f266:=Tryz.func278.trans (congrArg some (by kernel_rfl))
 f267:=Tryz.func264.trans (congrArg some (by kernel_rfl))
 f314:=Tryz.func279.trans (congrArg some (by kernel_rfl))
 t3:=Tryz.underlying3
 a3:=Tryz.isAgg3
 z3:=Tryz.sizeOf3
 v3:=Tryz.zeroValue3
 t4:=Tryz.underlying4
 a4:=Tryz.isAgg4
 z4:=Tryz.sizeOf4
 v4:=Tryz.zeroValue4
 t5:=Tryz.underlying5
 a5:=Tryz.isAgg5
 z5:=Tryz.sizeOf5
 v5:=Tryz.zeroValue5
 t9:=Tryz.underlying9
 a9:=Tryz.isAgg9
 z9:=Tryz.sizeOf9
 v9:=Tryz.zeroValue9
 t46:=Tryz.underlying185
 a46:=Tryz.isAgg185
 z46:=Tryz.sizeOf185
 v46:=Tryz.zeroValue185
 t51:=Tryz.underlying220
 a51:=Tryz.isAgg220
 z51:=Tryz.sizeOf220
 v51:=Tryz.zeroValue220
 t146:=Tryz.underlying233
 a146:=Tryz.isAgg233
 z146:=Tryz.sizeOf233
 v146:=Tryz.zeroValue233
 g1:=by kernel_rfl }
end Go.Proofs
namespace Go.Eng
open Go.Proofs
abbrev Yx:ByteArray:=⟨#[47]⟩
abbrev BC(s:ByteArray):List ByteArray:=Go.Lib.splitB Yx 0 (Go.Lib.countB s Yx) s
theorem OR(s:ByteArray):(BC s).map (·.data.toList)=Fc 47 s.data.toList:=cX s 47
abbrev Jt(s:ByteArray):List AV:=[vs s]
theorem o6(s:ByteArray)(hs:Gg s):PC 138 [vs s,vs Yx] (sl Jt (BC s)):=by
 unfold Gg at hs;have h:=cK (P:=Tryz.prog) (f:=138) (args:=[vs s,vs Yx]) [.string s,.string Yx] ((BC s).map Value.string) 9 (dj 138 Tryz.func138 (by kernel_rfl) rfl) rfl (fun x hx=>by
  obtain⟨y,_,rfl⟩:=Am.1 hx;rfl) (fun w hm=>by
  obtain⟨m,hm⟩:=hm;have hl:(BC s).length=Go.Lib.countB s Yx+1:=Go.Lib.splitB_all Yx (by decide) 0 _ s rfl;refine(Any.strings_Split Tryz.laySplit (by kernel_rfl) s Yx m w (by omega) hm (by decide)).mono ?_
  rintro e w' ⟨rfl,rfl⟩
  exact⟨by rw[Lm,hl],rfl⟩)
 rw[BN]at h;exact h
theorem sR(s p:ByteArray)(hs:Gg s):PC 115 [vs s,vs p] (vi (Go.Lib.lastIndex s.data.toList p.data.toList)):=by
 unfold Gg at hs;exact K6 [.string s,.string p] (.int .i64 (Go.Lib.lastIndex s.data.toList p.data.toList)) (dj 115 Tryz.func115 (by kernel_rfl) rfl) rfl (fun g w=>.v _ _) fun w _=>Any.strings_LastIndex Tryz.layLast s p (by omega) w
theorem s7(s p:ByteArray):PC 186 [vs s,vs p] (.tup [vs ⟨(Go.Lib.trimPrefix s.data.toList p.data.toList).toArray⟩,vb (Go.Lib.hasPrefix s.data.toList p.data.toList)]):=by
 exact K6 [.string s,.string p] _ (dj 186 Tryz.func186 (by kernel_rfl) rfl) rfl (fun g w=>gP [.string ⟨(Go.Lib.trimPrefix s.data.toList p.data.toList).toArray⟩,.bool (Go.Lib.hasPrefix s.data.toList p.data.toList)]) fun w _=>Any.strings_CutPrefix Tryz.layCut s p w
theorem td(s p:ByteArray)(hs:Gg s):PC 222 [vs s,vs p] (vb (Go.Lib.contains s.data.toList p.data.toList)):=by
 unfold Gg at hs;exact K6 [.string s,.string p] (.bool (Go.Lib.contains s.data.toList p.data.toList)) (dj 222 Tryz.func222 (by kernel_rfl) rfl) rfl (fun g w=>.v _ _) fun w hm=>by
  obtain⟨m,hm⟩:=hm;exact Any.strings_Contains Tryz.layCont s p m w (by omega) hm
theorem aD:∀x y:List UInt8,cP x y=x.isPrefixOf y
 | [],_=>by simp[cP]
 |_::_,[]=>rfl
 |a::x,b::y=>by
  rw[cP,List.isPrefixOf_cons_cons,aD x y]
  rfl
theorem fI(x:List UInt8):∀y:List UInt8,rX x y=Go.Lib.contains y x
 | []=>by
  unfold Go.Lib.contains Go.Lib.index;cases x<;>rfl
 |b::y=>by
  rw[rX,aD,fI x y];unfold Go.Lib.contains;have hg:=Go.Lib.index_ge y x
  conv=>rhs;unfold Go.Lib.index
  cases h:x.isPrefixOf (b::y)with
  |true=>simp
  |false =>
   simp only[Lx,Dj,F8]
   by_cases h0:Go.Lib.index y x=-1
   ·rw[h0];rfl
   ·have h1:(Go.Lib.index y x == -1)=false:=by simpa using h0
    rw[h1];simp only[Dj,F8];rw[AA (by omega),AA (by omega)]
theorem Sz:∀(l:List UInt8) (h:0<l.length),l.headD 0=l[0]
 | [],h=>by simp at h
 |_::_,_=>rfl
abbrev ly:ByteArray:=⟨⟨fN⟩⟩
theorem s9(s:ByteArray)(hs:Gg s):PC 188 [vs s] (vb (Y5 s.data.toList)):=by
 unfold Gg at hs;have hc:=td ly ((⟨#[32]⟩++s)++⟨#[32]⟩) (HF (by kernel_rfl));have e:Go.Lib.contains ly.data.toList ((⟨#[32]⟩++s:ByteArray)++⟨#[32]⟩).data.toList=Y5 s.data.toList:=by
  unfold Y5;rw[fI]
  congr 1
 rw[e]at hc;refine Ps Gc Tryz.func188 rfl (Nz rfl) ?_;refine Yi (by show(((1+s.size:Nat)):Int)≤_;omega) ?_;refine Yi (by show(((⟨#[32]⟩++s:ByteArray).size+1:Nat):Int)≤_;rw[ByteArray.size_append];show(((1+s.size)+1:Nat):Int)≤_;omega) ?_;refine Xi .pure (Xi _ (Yi (hc) ?_));exact .refl _
theorem sY(s:ByteArray)(hs:Gg s):PC 140 [vs s] (vb (H6 s.data.toList)):=by
 have hk:=s9 s hs;have hw:=mg s 187 Mh s8 (by unfold Gg at hs;simp;omega);have EB:s.size=s.data.toList.length:=by simp
 have en:H6 s.data.toList=(!s.data.toList.isEmpty&&decide (s.data.toList.length≤32)&&GT (s.data.toList.headD 0)&&s.data.toList.all Mh&&!Y5 s.data.toList):=rfl
 by_cases h0:s=⟨#[]⟩
 ·subst h0;refine Ps Gc Tryz.func140 rfl (Nz rfl) ?_;refine Yi ?_ ?_
  ·intro h;exact absurd rfl (show(⟨#[]⟩:ByteArray)≠⟨#[]⟩from h)
  ·intro _;exact .refl _
 have wC : s.data.toList≠[]:=fun e=>h0 (by
  have:s.data=#[]:=by rw[←Ir];exact e
  cases s;simp_all)
 have CE:0<s.data.toList.length:=MR.2 wC;have T3:s.data.toList.isEmpty=false:=by
  cases hl:s.data.toList with
  |nil=>exact absurd hl wC
  |cons a l=>rfl
 have w6:s.data.toList.headD 0=s.data.toList[0]:=Sz _ CE;have iF:=mh s.data.toList[0];refine Ps Gc Tryz.func140 rfl (Nz rfl) ?_;refine Yi ?_ ?_
 rotate_left
 ·intro h;exact absurd h0 h
 intro _;refine Yi ?_ ?_
 rotate_left
 ·intro h;have h:¬((s.size:Nat):Int)≤32:=h;exact .of_eq (Ac vb (show false=H6 s.data.toList by rw[en,Ap (by omega:¬s.data.toList.length≤32)];simp))
 intro h;have h:((s.size:Nat):Int)≤32:=h;refine Xi s.data.toList[0] (Yi ⟨AX _,ZH s 0 CE⟩ ?_);refine BV (Bt (GT s.data.toList[0])) (fun e1=>?_) (fun e1=>?_)
 rotate_left
 ·rw[e1]at iF;refine Xi .pure (Xi _ (Yi (iF) ?_));exact .of_eq (Ac vb (show false=H6 s.data.toList by rw[en,w6,e1];simp))
 rw[e1]at iF;refine Xi .pure (Xi _ (Yi (iF) ?_));refine BV (Bt (s.data.toList.all Mh)) (fun e2=>?_) (fun e2=>?_)
 rotate_left
 ·rw[e2]at hw;refine Xi .pure (Xi _ (Yi (hw) ?_));exact .of_eq (Ac vb (show false=H6 s.data.toList by rw[en,e2];simp))
 rw[e2]at hw;refine Xi .pure (Xi _ (Yi (hw) ?_));have ef:H6 s.data.toList=!Y5 s.data.toList:=by rw[en,T3,w6,e1,e2,AA (by omega:s.data.toList.length≤32)];rfl
 refine BV (Bt (Y5 s.data.toList)) (fun e3=>?_) (fun e3=>?_)
 ·rw[e3]at hk;refine Xi .pure (Xi _ (Yi (hk) ?_));exact .of_eq (Ac vb (show false=H6 s.data.toList by rw[ef,e3];rfl))
 ·rw[e3]at hk;refine Xi .pure (Xi _ (Yi (hk) ?_));exact .of_eq (Ac vb (show true=H6 s.data.toList by rw[ef,e3];rfl))
abbrev Wu:Option Int→AV
 |some n=>.tup [vi n,vb true]
 |none=>.tup [vi 0,vb false]
theorem aS{z:Int}(h0:0≤z)(h1:z<256):IntKind.u8.wrap z=z:=by
 show z % 256=z;omega
theorem UE{c:UInt8}(h:EM c=true):48≤c.toNat∧c.toNat≤57:=by
 unfold EM at h;simp only[Ag,Az]at h;exact⟨Ld.1 h.1,Ld.1 h.2⟩
theorem Vb(r:List UInt8)(i:Nat)(h:i<r.length):Gr (r.take (i+1))=10*Gr (r.take i)+((r[i].toNat:Int)-48):=by
 unfold Gr;rw[Bs,Ge h,J4];rfl
theorem sX(s:ByteArray)(hs:Gg s):PC 139 [vs s] (Wu (Lw s.data.toList)):=by
 unfold Gg at hs;have hc:=s7 s ⟨#[118]⟩
 by_cases hp:∃r,s.data.toList=118::r
 ·obtain⟨r,hr⟩:=hp;have e1:Go.Lib.hasPrefix s.data.toList (⟨#[118]⟩:ByteArray).data.toList=true:=by rw[hr];rfl
  have e2:Go.Lib.trimPrefix s.data.toList (⟨#[118]⟩:ByteArray).data.toList=r:=by unfold Go.Lib.trimPrefix;rw[e1,Aw rfl,hr];rfl
  rw[e1,e2]at hc;have hv:Lw s.data.toList=if(r.isEmpty||decide (3<r.length)||(decide (1<r.length)&&decide (r.headD 0=48))||!r.all EM)=true then none else some (Gr r):=by rw[hr];rfl
  have Wz:r.length<s.size:=by
   have:s.size=s.data.toList.length:=by simp
   rw[this,hr];simp
  generalize hB:(⟨r.toArray⟩:ByteArray)=rB at hc;have js:rB.data.toList=r:=by rw[←hB]
  have px:rB.size=r.length:=by rw[←hB];rfl
  have hw:=mg rB 144 EM mi (by rw[js];omega);rw[js]at hw;have no:∀{b:Bool},b=true→(if b=true then none else some (Gr r))=(none:Option Int):=fun h=>Aw h;refine Ps (Kz [2,4]) Tryz.func139 rfl (Nz rfl) ?_;refine Xi .pure (Xi _ (Yi (hc) ?_));refine Xi ⟨[(0,vs rB),(4,vb true)],[],Ab⟩ (Yi ⟨Z2,Tv,Fh,Tv⟩ ?_)
  refine Yi ?_ ?_
  ·intro h;have h:rB=⟨#[]⟩:=h
   have:r=[]:=by rw[←js,h]
   exact .of_eq (Ac Wu (show(none:Option Int)=Lw s.data.toList by rw[hv,this];rfl))
  intro h;have h:¬rB=⟨#[]⟩:=h;have Dz:r≠[]:=fun e=>h (by rw[←hB,e]);have CE:0<r.length:=MR.2 Dz;have T3:r.isEmpty=false:=by
   cases hl:r with
   |nil=>exact absurd hl Dz
   |cons a l=>rfl
  refine Yi ?_ ?_
  ·intro h2;have h2:(3:Int)<((rB.size:Nat):Int):=h2;exact .of_eq (Ac Wu (show(none:Option Int)=Lw s.data.toList by rw[hv,no];rw[AA (by omega:3<r.length)];simp))
  intro h2;have h2:¬(3:Int)<((rB.size:Nat):Int):=h2;have rM:r.length≤3:=by omega
  have d3:decide (3<r.length)=false:=Ap (by omega);refine Yi ?_ ?_
  ·intro h3;have h3:(1:Int)<((rB.size:Nat):Int):=h3;have tC:rB.data[(0:Int).toNat]?=some r[0]:=by
    show rB.data[0]?=_;rw[←A1,js];exact Ge CE
   refine Xi r[0] (Yi ⟨AX _,tC⟩ ?_);have hh:=Sz r CE;refine Yi ?_ ?_
   ·intro h4;have h4:(r[0].toNat:Int)=48:=h4
    have:r[0]=48:=UInt8.toNat_inj.1 (by show r[0].toNat=48;omega)
    exact .of_eq (Ac Wu (show(none:Option Int)=Lw s.data.toList by rw[hv,hh,this,AA (by omega:1<r.length)];simp))
   intro h4;have h4:¬(r[0].toNat:Int)=48:=h4;have eo:(decide (1<r.length)&&decide (r.headD 0=48))=false:=by rw[hh,Ap (show ¬r[0]=48 from fun e=>h4 (by rw[e];rfl)),DE]
   have qt:Lw s.data.toList=if(!r.all EM)=true then none else some (Gr r):=by rw[hv,T3,d3,eo];rfl
   refine BV (Bt (r.all EM)) (fun e3=>?_) (fun e3=>?_)
   rotate_left
   ·rw[e3]at hw;refine Xi .pure (Xi _ (Yi (hw) ?_));exact .of_eq (Ac Wu (show(none:Option Int)=Lw s.data.toList by rw[qt,e3];rfl))
   rw[e3]at hw;refine Xi .pure (Xi _ (Yi (hw) ?_));have uB:Lw s.data.toList=some (Gr r):=by rw[qt,e3];rfl
   refine Xi ⟨[(0,vs rB)],[],Ab⟩ (Yi ⟨Z1,Tv,Fh,Tv⟩ ?_)
   have z0:Gr (r.take 0)=0:=rfl;refine Xi {i:Nat // i≤r.length∧0≤Gr (r.take i)∧(i=0→Gr (r.take i)≤0)∧(i≤1→Gr (r.take i)≤9)∧(i≤2→Gr (r.take i)≤99)∧Gr (r.take i)≤999} (Xi (fun i=>⟨[(0,vs rB),(5,vi (Gr (r.take i.1))),(39,vi rB.size),(40,vi i.1)],[],Ab⟩) (Xi (fun i=>r.length-i.1) (Yi (Xi ⟨0,AN _,by omega,fun _=>by omega,fun _=>by omega,fun _=>by omega,by omega⟩ ?_) ?_)))
   ·exact⟨Z4,Tv,Fh,Tv⟩
   intro⟨i,i1,i2,i3,i4,i5,i6⟩;refine Yi ?_ ?_
   ·intro h;have h:(i:Int)<(rB.size:Nat):=h;have h:i<r.length:=by omega
    have tQ:EM r[i]=true:=Bp.1 e3 _ (Aq h);have oe:=UE tQ;have ud:=Vb r i h;have jI:IntKind.u8.wrap ((r[i].toNat:Int)-48)=(r[i].toNat:Int)-48:=aS (by omega) (by omega);have kZ:rB.data[((i:Nat):Int).toNat]?=some r[i]:=by rw[Ch,←A1,js];exact Ge h
    refine Yi (by show B1 (10*Gr (r.take i));unfold B1;omega) ?_;refine Xi r[i] (Yi ⟨by show(0:Int)≤i;omega,kZ⟩ ?_);refine Yi (by show B1 (IntKind.u8.wrap ((r[i].toNat:Int)-48));rw[jI];unfold B1;omega) ?_;refine Yi (by show B1 (10*Gr (r.take i)+IntKind.u8.wrap ((r[i].toNat:Int)-48));rw[jI];unfold B1;omega) ?_;refine Yi (Ii i (by omega)) ?_;have e5:vi (10*Gr (r.take i)+IntKind.u8.wrap ((r[i].toNat:Int)-48))=vi (Gr (r.take (i+1))):=by rw[jI,ud]
    refine Xi ⟨i+1,by omega,by omega,fun _=>by omega,fun _=>by omega,fun _=>by omega,by omega⟩ ?_;exact⟨Dl r.length i (by omega),⟨Zr,⟨e5,rfl⟩,Zr,Zr,Tv⟩,Tv,Fh,Tv⟩
   ·intro h;have h:¬(i:Int)<(rB.size:Nat):=h;have e6:AV.tup [vi (Gr (r.take i)),vb true]=Wu (Lw s.data.toList):=by rw[uB,AT (by omega)]
    exact .of_eq e6
  ·intro h3;have h3:¬(1:Int)<((rB.size:Nat):Int):=h3;have eo:(decide (1<r.length)&&decide (r.headD 0=48))=false:=by rw[Ap (by omega:¬1<r.length)];rfl
   have qt:Lw s.data.toList=if(!r.all EM)=true then none else some (Gr r):=by rw[hv,T3,d3,eo];rfl
   refine BV (Bt (r.all EM)) (fun e3=>?_) (fun e3=>?_)
   rotate_left
   ·rw[e3]at hw;refine Xi .pure (Xi _ (Yi (hw) ?_));exact .of_eq (Ac Wu (show(none:Option Int)=Lw s.data.toList by rw[qt,e3];rfl))
   rw[e3]at hw;refine Xi .pure (Xi _ (Yi (hw) ?_));have uB:Lw s.data.toList=some (Gr r):=by rw[qt,e3];rfl
   refine Xi ⟨[(0,vs rB)],[],Ab⟩ (Yi ⟨Z1,Tv,Fh,Tv⟩ ?_)
   have z0:Gr (r.take 0)=0:=rfl;refine Xi {i:Nat // i≤r.length∧0≤Gr (r.take i)∧(i=0→Gr (r.take i)≤0)∧(i≤1→Gr (r.take i)≤9)∧(i≤2→Gr (r.take i)≤99)∧Gr (r.take i)≤999} (Xi (fun i=>⟨[(0,vs rB),(5,vi (Gr (r.take i.1))),(39,vi rB.size),(40,vi i.1)],[],Ab⟩) (Xi (fun i=>r.length-i.1) (Yi (Xi ⟨0,AN _,by omega,fun _=>by omega,fun _=>by omega,fun _=>by omega,by omega⟩ ?_) ?_)))
   ·exact⟨Z4,Tv,Fh,Tv⟩
   intro⟨i,i1,i2,i3,i4,i5,i6⟩;refine Yi ?_ ?_
   ·intro h;have h:(i:Int)<(rB.size:Nat):=h;have h:i<r.length:=by omega
    have tQ:EM r[i]=true:=Bp.1 e3 _ (Aq h);have oe:=UE tQ;have ud:=Vb r i h;have jI:IntKind.u8.wrap ((r[i].toNat:Int)-48)=(r[i].toNat:Int)-48:=aS (by omega) (by omega);have kZ:rB.data[((i:Nat):Int).toNat]?=some r[i]:=by rw[Ch,←A1,js];exact Ge h
    refine Yi (by show B1 (10*Gr (r.take i));unfold B1;omega) ?_;refine Xi r[i] (Yi ⟨by show(0:Int)≤i;omega,kZ⟩ ?_);refine Yi (by show B1 (IntKind.u8.wrap ((r[i].toNat:Int)-48));rw[jI];unfold B1;omega) ?_;refine Yi (by show B1 (10*Gr (r.take i)+IntKind.u8.wrap ((r[i].toNat:Int)-48));rw[jI];unfold B1;omega) ?_;refine Yi (Ii i (by omega)) ?_;have e5:vi (10*Gr (r.take i)+IntKind.u8.wrap ((r[i].toNat:Int)-48))=vi (Gr (r.take (i+1))):=by rw[jI,ud]
    refine Xi ⟨i+1,by omega,by omega,fun _=>by omega,fun _=>by omega,fun _=>by omega,by omega⟩ ?_;exact⟨Dl r.length i (by omega),⟨Zr,⟨e5,rfl⟩,Zr,Zr,Tv⟩,Tv,Fh,Tv⟩
   ·intro h;have h:¬(i:Int)<(rB.size:Nat):=h;have e6:AV.tup [vi (Gr (r.take i)),vb true]=Wu (Lw s.data.toList):=by rw[uB,AT (by omega)]
    exact .of_eq e6
 ·have e1:Go.Lib.hasPrefix s.data.toList (⟨#[118]⟩:ByteArray).data.toList=false:=by
   cases hl:s.data.toList with
   |nil=>rfl
   |cons a l =>
    have:a≠118:=fun e=>hp ⟨l,by rw[hl,e]⟩
    show(List.isPrefixOf [118] (a::l))=false;rw[List.isPrefixOf_cons_cons]
    have:((118:UInt8) == a)=false:=by rw[beq_eq_false_iff_ne];exact fun e=>this e.symm
    rw[this];rfl
  have hv:Lw s.data.toList=none:=by
   cases hl:s.data.toList with
   |nil=>rfl
   |cons a l =>
    have:a≠118:=fun e=>hp ⟨l,by rw[hl,e]⟩
    show(if a=118 then _ else none)=none;rw[Ak this]
  rw[e1]at hc;refine Ps Gc Tryz.func139 rfl (Nz rfl) ?_;refine Xi .pure (Xi _ (Yi (hc) ?_));exact .of_eq (Ac Wu hv.symm)
abbrev Y8:Option Int→AV
 |some n=>.tup [vi n,vi 0]
 |none=>.tup [vi 0,vi 4]
theorem TC(c:UInt8):∀(s x:List UInt8),x∈Fc c s→x.length≤s.length
 | [],x,h=>by
  rw[Fc]at h;rw[Al.1 h];exact Aj _
 |b::r,x,h=>by
  have ih:=TC c r;rw[Fc]at h;split at h
  ·rcases Au.1 h with rfl | h
   ·exact AN _
   ·have:=ih x h;rw[At];omega
  ·split at h
   ·rw[Al.1 h];rw[At];simp
   ·rename_i y l e;rcases Au.1 h with rfl | h
    ·have:=ih y (by rw[e];exact Aa ..);rw[At,At];omega
    ·have:=ih x (by rw[e];exact Af _ h);rw[At];omega
theorem gz{p x:ByteArray}(hp:Gg p)(hx:x∈BC p):Gg x:=by
 have h:x.data.toList∈Fc 47 p.data.toList:=by rw[←OR];exact Am.2 ⟨x,hx,rfl⟩
 have:=TC 47 _ _ h
 unfold Gg at *
 have e1:x.size=x.data.toList.length:=by simp
 have e2:p.size=p.data.toList.length:=by simp
 omega
theorem cI(p:ByteArray):(BC p).length=(Fc 47 p.data.toList).length:=by rw[←OR,Lm]
theorem cJ(p:ByteArray):0<(BC p).length:=by
 rw[show(BC p).length=Go.Lib.countB p Yx+1 from Go.Lib.splitB_all Yx (by decide) 0 _ p rfl];omega
theorem cH(p:ByteArray):(BC p).length≤p.size+1:=by
 rw[show(BC p).length=Go.Lib.countB p Yx+1 from Go.Lib.splitB_all Yx (by decide) 0 _ p rfl]
 have:=Go.Lib.countB_le Yx (by decide) p.size p (Aj _);omega
theorem Zk(p:ByteArray)(h:(BC p).length-1<(BC p).length):(Fc 47 p.data.toList).getLastD []=((BC p)[(BC p).length-1]).data.toList:=by
 rw[←OR,List.getLastD_eq_getLast?,List.getLast?_eq_getElem?,Lm,AG,Ge h];rfl
theorem cG(p:ByteArray):(Fc 47 p.data.toList).all Mb=(BC p).all fun x=>Mb x.data.toList:=by
 rw[←OR,List.all_map];rfl
theorem oZ(p:ByteArray)(hp:Gg p):PC 113 [vs p] (Y8 (Cr p)):=by
 have um:=cH p;have Y2:=cJ p;have uj:(BC p).length-1<(BC p).length:=by omega
 have EB:p.size=p.data.toList.length:=by simp
 have wX:∀{x},x∈BC p→Gg x:=fun h=>gz hp h;unfold Gg at hp;have T4:((BC p).map Jt)[((((BC p).map Jt).length:Int)-1).toNat]?=some (Jt (BC p)[(BC p).length-1]):=by
  rw[Lm,show(((BC p).length:Int)-1).toNat=(BC p).length-1 by omega];exact Cf (Ge uj)
 have hv:=sX (BC p)[(BC p).length-1] (wX (Aq uj));have em:Cr p=match Lw ((BC p)[(BC p).length-1]).data.toList with
  |none=>none
  |some n=>if(decide (64<p.data.toList.length)||decide ((BC p).length<2))=true then none else if((BC p).all fun x=>Mb x.data.toList)=true then some n else none:=by
  unfold Cr Y9;rw[Zk p uj,cG,←cI];cases Lw ((BC p)[(BC p).length-1]).data.toList with
  |none=>rfl
  |some n=>rfl
 cases hve:Lw ((BC p)[(BC p).length-1]).data.toList with
 |none =>
  rw[hve]at hv em;refine Ps (Kz [2,3]) Tryz.func113 rfl (Nz rfl) ?_;refine Xi .pure (Xi _ (Yi (o6 p hp) ?_));refine Xi ⟨[(0,vs p),(4,sl Jt (BC p))],[],Ab⟩ (Yi ⟨Z2,Tv,Fh,Tv⟩ ?_)
  refine Yi (by show B1 ((((BC p).map Jt).length:Int)-1);unfold B1;rw[Lm];omega) ?_;refine Xi (Jt (BC p)[(BC p).length-1]) (Yi (Yi (by show(0:Int)≤(((BC p).map Jt).length:Int)-1;rw[Lm];omega) T4) (Yi rfl ?_));refine Xi .pure (Xi _ (Yi (hv) ?_));refine Xi ⟨[(0,vs p),(4,sl Jt (BC p)),(5,vi 0),(6,vb false)],[],Ab⟩ (Yi ⟨Z4,Tv,Fh,Tv⟩ ?_)
  exact .of_eq (Ac Y8 em.symm)
 |some n =>
  rw[hve]at hv em;have em:Cr p=if(decide (64<p.data.toList.length)||decide ((BC p).length<2))=true then none else if((BC p).all fun x=>Mb x.data.toList)=true then some n else none:=em
  refine Ps (Kz [2,3,5]) Tryz.func113 rfl (Nz rfl) ?_;refine Xi .pure (Xi _ (Yi (o6 p hp) ?_));refine Xi ⟨[(0,vs p),(4,sl Jt (BC p))],[],Ab⟩ (Yi ⟨Z2,Tv,Fh,Tv⟩ ?_)
  refine Yi (by show B1 ((((BC p).map Jt).length:Int)-1);unfold B1;rw[Lm];omega) ?_;refine Xi (Jt (BC p)[(BC p).length-1]) (Yi (Yi (by show(0:Int)≤(((BC p).map Jt).length:Int)-1;rw[Lm];omega) T4) (Yi rfl ?_));refine Xi .pure (Xi _ (Yi (hv) ?_));refine Xi ⟨[(0,vs p),(4,sl Jt (BC p)),(5,vi n),(6,vb true)],[],Ab⟩ (Yi ⟨Z4,Tv,Fh,Tv⟩ ?_)
  refine Yi ?_ ?_
  ·intro h;have h:(64:Int)<((p.size:Nat):Int):=h;exact .of_eq (Ac Y8 (show(none:Option Int)=Cr p by rw[em,AA (by omega:64<p.data.toList.length)];rfl))
  intro h;have h:¬(64:Int)<((p.size:Nat):Int):=h;have d1:decide (64<p.data.toList.length)=false:=Ap (by omega);refine Yi ?_ ?_
  ·intro h2;have h2:(((BC p).map Jt).length:Int)<2:=h2;rw[Lm]at h2;exact .of_eq (Ac Y8 (show(none:Option Int)=Cr p by rw[em,d1,AA (by omega:(BC p).length<2)];rfl))
  intro h2;have h2:¬(((BC p).map Jt).length:Int)<2:=h2;have d2:decide ((BC p).length<2)=false:=Ap (by rw[Lm]at h2;omega);have wA:Cr p=if((BC p).all fun x=>Mb x.data.toList)=true then some n else none:=by rw[em,d1,d2];rfl
  refine Xi ⟨[(4,sl Jt (BC p)),(5,vi n)],[],Ab⟩ (Yi ⟨Z2,Tv,Fh,Tv⟩ ?_)
  refine Xi {i:Nat // i≤(BC p).length∧∀j (hj:j<(BC p).length),j<i→Mb ((BC p)[j]).data.toList=true} (Xi (fun i=>⟨[(5,vi n),(33,sl Jt (BC p)),(34,vi ((BC p).map Jt).length),(35,vi i.1)],[],Ab⟩) (Xi (fun i=>(BC p).length-i.1) (Yi (Xi ⟨0,AN _,fun j _ h=>by omega⟩ ?_) ?_)))
  ·exact⟨Z4,Tv,Fh,Tv⟩
  intro⟨i,i1,i2⟩;refine Yi ?_ ?_
  ·intro h;have h:(i:Int)<((BC p).map Jt).length:=h;have h:i<(BC p).length:=by simpa using h
   have hg:(BC p)[i]?=some (BC p)[i]:=Ge h;refine Xi (Jt (BC p)[i]) (Yi (Yi (Nn i) (by simp[hg])) (Yi rfl ?_));have wV:=wX (Aq h);have hn:=sY (BC p)[i] wV;have ha:=mg (BC p)[i] 142 Zy sZ (by unfold Gg at wV;have e1:(BC p)[i].size=(BC p)[i].data.toList.length:=(by simp);omega);have no:Mb ((BC p)[i]).data.toList=false→(none:Option Int)=Cr p:=fun e=>by
    rw[wA,Ak];intro FM
    have:=Bp.1 FM _ (Aq h)
    rw[e]at this;cases this
   refine BV (Bt (H6 ((BC p)[i]).data.toList)) (fun e1=>?_) (fun e1=>?_)
   rotate_left
   ·rw[e1]at hn;refine Xi .pure (Xi _ (Yi (hn) ?_));exact .of_eq (Ac Y8 (no (by unfold Mb;rw[e1];rfl)))
   rw[e1]at hn;refine Xi .pure (Xi _ (Yi (hn) ?_));refine BV (Bt (((BC p)[i]).data.toList.all Zy)) (fun e2=>?_) (fun e2=>?_)
   rotate_left
   ·rw[e2]at ha;refine Xi .pure (Xi _ (Yi (ha) ?_));exact .of_eq (Ac Y8 (no (by unfold Mb;rw[e1];exact e2)))
   rw[e2]at ha;refine Xi .pure (Xi _ (Yi (ha) ?_));refine Yi (Ii i (by omega)) ?_;refine Xi ⟨i+1,by omega,fun j hj HT=>?_⟩ ?_
   ·rcases Ez j i with z | z
    ·exact i2 j hj z
    ·have:j=i:=by omega
     subst this;unfold Mb;rw[e1];exact e2
   ·exact⟨by show(BC p).length-(i+1)<(BC p).length-i;omega,Z4,Tv,Fh,Tv⟩
  ·intro h;have h:¬(i:Int)<((BC p).map Jt).length:=h;have h:¬i<(BC p).length:=by simpa using h
   have e:some n=Cr p:=by
    rw[wA,Aw];exact Bp.2 fun x hx=>by
     obtain⟨j,hj,rfl⟩:=Fu hx;exact i2 j hj (by omega)
   exact .of_eq (Ac Y8 e)
theorem sQ(p:ByteArray)(hp:Gg p):PC 114 [vs p] (vb (Cr p).isSome):=by
 have hc:=oZ p hp;cases h:Cr p with
 |none =>
  rw[h]at hc;refine Ps Gc Tryz.func114 rfl (Nz rfl) ?_;refine Xi .pure (Xi _ (Yi (hc) ?_));refine Yi ?_ ?_
  ·intro h;exact absurd (show(4:Int)=0 from h) (by decide)
  ·intro _;exact .refl _
 |some n =>
  rw[h]at hc;refine Ps Gc Tryz.func114 rfl (Nz rfl) ?_;refine Xi .pure (Xi _ (Yi (hc) ?_));refine Yi ?_ ?_
  ·intro _;exact .refl _
  ·intro h;exact absurd rfl h
theorem TE(c:UInt8):∀s:List UInt8,2≤(Fc c s).length→c∈s
 | [],h=>by rw[Fc]at h;simp at h
 |b::r,h=>by
  rw[Fc]at h
  by_cases e:b=c
  ·exact e▸Aa ..
  ·rw[Ak e]at h;refine Af _ (TE c r ?_);cases hs:Fc c r with
   |nil=>rw[hs]at h;simp at h
   |cons x l=>rw[hs]at h;simpa using h
theorem fO{p:ByteArray}{m:Int}(h:Cr p=some m):0≤Go.Lib.lastIndex p.data.toList [47]∧Go.Lib.lastIndex p.data.toList [47]≤p.size:=by
 have h2:2≤(Fc 47 p.data.toList).length:=by
  unfold Cr Y9 at h;split at h
  ·cases h
  ·split at h
   ·cases h
   ·rename_i hn;simp only[CB,Az]at hn;omega
 have hm:=TE 47 _ h2;obtain⟨i,hi,e⟩:=Fu hm;have EB:p.size=p.data.toList.length:=by simp
 unfold Go.Lib.lastIndex;rw[Aw (by simp only[AD];omega)];have uf:Go.Lib.occAt p.data.toList [47] i=true:=by
  unfold Go.Lib.occAt;rw[Br hi,e];simp
 rcases Go.Lib.lastOcc_spec p.data.toList [47] (p.data.toList.length - [(47:UInt8)].length+1)with ⟨_,h3⟩ | ⟨j,h3,h4,_⟩
 ·have:=h3 i (by simp only[AD];omega)
  rw[uf]at this;cases this
 ·rw[h4];simp only[AD]at h3;omega
abbrev fR(p:ByteArray):ByteArray:=p.extract 0 (Go.Lib.lastIndex p.data.toList [47]).toNat
theorem YA:TP fR:=by
 intro p hp;have hc:=oZ p hp;have hi:=sQ p hp;unfold U2;cases h:Cr p with
 |none =>
  rw[h]at hc hi;refine Ps Gc Tryz.func91 rfl (Nz rfl) ?_;refine Xi .pure (Xi _ (Yi (hc) ?_));refine Xi .pure (Xi _ (Yi (hi) ?_));exact .refl _
 |some n =>
  rw[h]at hc hi;obtain⟨l1,l2⟩:=fO h;have hl:PC 115 [vs p,vs Yx] (vi (Go.Lib.lastIndex p.data.toList [47])):=sR p Yx hp;refine Ps Gc Tryz.func91 rfl (Nz rfl) ?_;refine Xi .pure (Xi _ (Yi (hc) ?_));refine Xi .pure (Xi _ (Yi (hi) ?_));refine Yi ?_ ?_
  ·intro h;exact absurd rfl h
  intro _;refine Xi .pure (Xi _ (Yi (hl) ?_));refine Yi ⟨AX _,l1,l2⟩ ?_;exact .refl _
theorem OU{l:List Rq}(h:BR l=0):l.length≤16:=by
 unfold BR at h;split at h
 ·cases h
 ·omega
theorem PG{x:List Rl}(h:Bb x=0):x.length≤256∧∀r∈x,r.reqs.length≤16:=by
 have h1:x.length≤256:=by
  unfold Bb at h;split at h
  ·cases h
  ·omega
 exact⟨h1,fun r hr=>OU ((CI h).1 r hr).reqs⟩
theorem ee{x:List Rl}(h:∀r∈x,r.reqs.length≤16):((x.map (·.reqs)).flatten).length≤x.length*16:=by
 induction x with
 |nil=>simp
 |cons r x ih =>
  rw[AP,By,Ad,At]
  have:=h r (Aa ..)
  have:=ih fun s hs=>h s (Af _ hs)
  omega
theorem Zn{x:List Rl}{roots:List Rq}{l:List Nf}(h1:Bb x=0)(h2:BR roots=0)(h3:l.length≤65536):(JY x roots l).length≤100000:=by
 obtain⟨a,b⟩:=PG h1
 have:=ee b
 have:=OU h2
 unfold JY;simp only[Ad,Lm];omega
theorem Ui.fewI{U:List ByteArray}{t:List Tm}(h:Ui U t)(hu:U.length≤100000):lN t :=
 ⟨by have:=h.len;omega,fun u hu=>Oj (h.1.canon u hu)⟩
abbrev Rd(x:List Rl)(ifs:List (List AV)):AV:=.agg (Ic x ifs)
abbrev WD:EA:=⟨true,[.str,.int .i64,.int .i64,.int .i64]⟩
abbrev SQ(y:Sl):Value:=.agg #[.string y.path,.int .i64 y.ver.a,.int .i64 y.ver.b,.int .i64 y.ver.c]
abbrev UY(r:Rl):Value×AV:=(SQ (GJ r),.agg (Ai r))
def AQ:List Rl→List ByteArray→List ByteArray
 | [],acc=>acc
 |r::x,acc=>AQ x (if acc.any (fun p=>decide (p=r.path))then acc else acc++[r.path])
abbrev lA(x:List Rl)(p:ByteArray):Value×AV:=(.string p,sl Ai (x.filter fun r=>decide (r.path=p)))
abbrev ZB(x:List Rl):AV:=if Bb x=0 then .tup [.agg [.cmap WD (x.map UY),.cmap C3 ((AQ x []).map (lA x))],vi 0]else .tup [.agg [.cmap WD [],.cmap C3 []],vi (Bb x)]
abbrev kP(x:List Rl)(ifs:List (List AV)):Prop:=PC 73 [Rd x ifs] (ZB x)
theorem jN{y z:Sl}(h:SQ y=SQ z):y=z:=by
 obtain⟨p,⟨a,b,c⟩⟩:=y;obtain⟨q,⟨d,e,f⟩⟩:=z;simp only[SQ,Value.agg.injEq,Array.mk.injEq,Fk,Value.string.injEq,Value.int.injEq,true_and,and_true]at h;obtain⟨rfl,rfl,rfl,rfl⟩:=h
 rfl
theorem jS{x:List Rl}{y:Sl}{a:AV}(h:(SQ y,a)∈x.map UY):∃r∈x,GJ r=y∧a=.agg (Ai r):=by
 obtain⟨r,h1,h2⟩:=Am.1 h;simp only[UY,FD]at h2;exact⟨r,h1,jN h2.1,h2.2.symm⟩
abbrev DM(l:List Rl):Bl:=(l.filter fun r=>!r.yanked).map fun r=>(plc r.ver,plc r.ver+1)
theorem ZA(l:List Rl):(DM l).length≤l.length:=by
 unfold DM;rw[Lm];exact BD _ _
theorem jR{x:List Rl}{ps:List ByteArray}{p:ByteArray}{a:AV}(h:(Value.string p,a)∈ps.map (lA x)):a=sl Ai (x.filter fun r=>decide (r.path=p)):=by
 obtain⟨q,_,h2⟩:=Am.1 h;simp only[lA,FD,Value.string.injEq]at h2;rw[←h2.2,h2.1]
theorem N3{acc:List ByteArray}{p:ByteArray}:(acc.any fun q=>decide (q=p))=true↔p∈acc:=by
 rw[Ba];constructor
 ·rintro⟨q,h1,h2⟩;rw[←BJ h2];exact h1
 ·intro h;exact⟨p,h,by simp⟩
theorem G6:∀(x:List Rl) (acc:List ByteArray) (p:ByteArray),p∈AQ x acc↔p∈acc∨∃r∈x,r.path=p
 | [],acc,p=>by simp[AQ]
 |r::x,acc,p=>by
  rw[AQ,G6 x];constructor
  ·rintro(h | ⟨s,h1,h2⟩)
   ·split at h
    ·exact .inl h
    ·rcases A6.1 h with h | h
     ·exact .inl h
     ·exact .inr ⟨r,Aa ..,(Al.1 h).symm⟩
   ·exact .inr ⟨s,Af _ h1,h2⟩
  ·rintro(h | ⟨s,h1,h2⟩)
   ·left
    split
    ·exact h
    ·exact Bn _ h
   ·rcases Au.1 h1 with rfl | h1
    ·left
     split
     ·rename_i hh;rw[←h2];exact N3.1 hh
     ·rw[←h2];exact Bj _ (Al.2 rfl)
    ·exact .inr ⟨s,h1,h2⟩
abbrev lE:TK:=⟨[],[(7,2)],[],[],[],[],[],[],[],[],[2,3,6,7,9]⟩
theorem Uu(L:List Rl)(i:Nat)(h:i<L.length):DM (L.take (i+1))=DM (L.take i)++(if L[i].yanked then []else [(plc L[i].ver,plc L[i].ver+1)]):=by
 unfold DM;rw[Bs,Ge h,Eg,AH]
 congr 1
 cases hy:L[i].yanked<;>simp[hy]
theorem sV(x:List Rl)(ifs:List (List AV))(p:ByteArray)(nW:kP x ifs):PC 118 [Rd x ifs,vs p] (sl Ao (B7 x p)):=by
 by_cases h0:Bb x=0
 ·have nW:PC 73 [Rd x ifs] (.tup [.agg [.cmap WD (x.map UY),.cmap C3 ((AQ x []).map (lA x))],vi 0]):=by
   have:=nW;unfold kP ZB at this;rw[Aw h0]at this;exact this
  have lw:=(PG h0).1;obtain⟨L,rC⟩:∃L,L=x.filter fun r=>decide (r.path=p):=⟨_,rfl⟩;have hL:JW x p=L:=by unfold JW;rw[Ak (by omega),rC]
  have wI:L.length≤256:=by have:=BD (fun r:Rl=>decide (r.path=p)) x;rw[rC];omega
  refine Ps lE Tryz.func118 rfl (Nz rfl) ?_;refine Yi (Nz rfl) ?_;refine Xi .pure (Xi _ (Yi (nW) ?_));refine Yi (Nz rfl) ?_;refine Xi ⟨[(1,vs p),(5,.ref 5 0)],[(5,.cells [.cmap WD (x.map UY),.cmap C3 ((AQ x []).map (lA x))])],Ab⟩ (Yi ⟨Z2,Z1,Fh,Tv⟩ ?_)
  refine Xi ⟨[(1,vs p),(5,.ref 5 0),(7,.slice (.id 7 2) [])],[(5,.cells [.cmap WD (x.map UY),.cmap C3 ((AQ x []).map (lA x))]),(7,.tok 2 0)],Ab⟩ (Yi ⟨Z3,Z2,Fh,Tv⟩ ?_)
  refine Yi ?_ ?_
  ·intro a ha;have ea:a=sl Ai L:=by rw[rC];exact jR ha
   subst ea;refine Xi {i:Nat // i≤L.length} (Xi (fun i=>⟨[(7,.slice (.id 7 2) ((DM (L.take i.1)).map Ao)),(18,sl Ai L),(19,vi (L.map Ai).length),(20,vi i.1)],[(7,.tok 2 ((DM (L.take i.1)).map Ao).length)],Ab⟩) (Xi (fun i=>L.length-i.1) (Yi (Xi ⟨0,AN _⟩ ?_) ?_)))
   ·exact⟨Z4,Z1,Fh,Tv⟩
   intro⟨i,i1⟩;have WB:=ZA (L.take i);rw[AJ]at WB;refine Yi ?_ ?_
   ·intro h;have h:(i:Int)<(L.map Ai).length:=h;have h:i<L.length:=by simpa using h
    have hg:L[i]?=some L[i]:=Ge h;refine Xi (Ai L[i]) (Yi (Yi (Nn i) (by simp[hg])) (Yi rfl ?_));refine Yi (Nz rfl) (Yi (Nz rfl) ?_);refine Xi ⟨[(7,.slice (.id 7 2) ((DM (L.take i)).map Ao)),(9,.ref 9 0),(18,sl Ai L),(19,vi (L.map Ai).length),(20,vi i)],[(7,.tok 2 ((DM (L.take i)).map Ao).length),(9,.cells (Ai L[i]))],Ab⟩ (Yi ⟨Z5,Z2,Fh,Tv⟩ ?_)
    refine Yi ?_ ?_
    ·intro hy;have hy:L[i].yanked=true:=hy;refine Yi (Ii i (by omega)) ?_;have es:DM (L.take (i+1))=DM (L.take i):=by rw[Uu L i h,hy];simp
     have e1:AV.slice (.id 7 2) ((DM (L.take i)).map Ao)=.slice (.id 7 2) ((DM (L.take (i+1))).map Ao):=by rw[es]
     have e2:HO.tok 2 ((DM (L.take i)).map Ao).length=.tok 2 ((DM (L.take (i+1))).map Ao).length:=by rw[es]
     refine Xi ⟨i+1,by omega⟩ ?_;exact⟨Dl L.length i (by omega),⟨⟨e1,rfl⟩,Zr,Zr,Zr,Tv⟩,⟨⟨e2,rfl⟩,Tv⟩,Fh,Tv⟩
    ·intro hy;have hy:L[i].yanked=false:=hy;have ul:=ko L[i].ver;refine Xi ⟨[(7,.slice (.id 7 2) ((DM (L.take i)).map Ao)),(9,.ref 9 0),(18,sl Ai L),(19,vi (L.map Ai).length),(20,vi i)],[(7,.tok 2 ((DM (L.take i)).map Ao).length),(9,.cells (Ai L[i]))],Ab⟩ (Yi ⟨Z5,Z2,Fh,Tv⟩ ?_)
     refine Yi (Nz rfl) ?_;refine Xi _ (Yi (ww L[i]) ?_);refine Yi (Nz rfl) ?_;refine Xi _ (Yi (ww L[i]) ?_);refine Yi (by show B1 (plc L[i].ver+1);unfold B1;omega) ?_;have Gl:Do 2 [[vi (plc L[i].ver),vi (plc L[i].ver+1)]]∧((DM (L.take i)).map Ao).length=((DM (L.take i)).map Ao).length∧(((DM (L.take i)).map Ao).length+[[vi (plc L[i].ver),vi (plc L[i].ver+1)]].length)*16≤140737488355328∧((DM (L.take i)).map Ao).length+[[vi (plc L[i].ver),vi (plc L[i].ver+1)]].length≤9223372036854775807 :=
      ⟨⟨rfl,trivial⟩,rfl,by rw[Lm,AD];omega,by rw[Lm,AD];omega⟩
     refine Yi Gl ?_;refine Yi (by kernel_rfl) ?_;refine Yi (Ii i (by omega)) ?_;have es:DM (L.take (i+1))=DM (L.take i)++[(plc L[i].ver,plc L[i].ver+1)]:=by rw[Uu L i h,hy];simp
     have e1:AV.slice (.id 7 2) ((DM (L.take i)).map Ao++[[vi (plc L[i].ver),vi (plc L[i].ver+1)]])=.slice (.id 7 2) ((DM (L.take (i+1))).map Ao):=by rw[es,AH];rfl
     have e2:HO.tok 2 (((DM (L.take i)).map Ao).length+[[vi (plc L[i].ver),vi (plc L[i].ver+1)]].length)=.tok 2 ((DM (L.take (i+1))).map Ao).length:=by rw[es,AH,Ad];rfl
     refine Xi ⟨i+1,by omega⟩ ?_;exact⟨Dl L.length i (by omega),⟨⟨e1,rfl⟩,Zr,Zr,Zr,Tv⟩,⟨⟨e2,rfl⟩,Tv⟩,Fh,Tv⟩
   ·intro h;have h:¬(i:Int)<(L.map Ai).length:=h;have h:¬i<L.length:=by simpa using h
    have et:L.take i=L:=AT (by omega);refine Xi ⟨[(7,.slice (.id 7 2) ((DM (L.take i)).map Ao))],[(7,.tok 2 ((DM (L.take i)).map Ao).length)],Ab⟩ (Yi ⟨Z1,Z1,Fh,Tv⟩ ?_)
    have hc:PC 148 [sl Ao (DM (L.take i))] (sl Ao (canon (DM (L.take i)))):=WR _ (by unfold Cp;omega);refine Xi .pure (Xi _ (Yi (hc) ?_));exact .of_eq (show sl Ao (canon (DM (L.take i)))=sl Ao (B7 x p) by rw[et];unfold B7;rw[hL])
  ·intro hn;have hL:JW x p=[]:=by
    rw[hL,rC,G9];intro r hr he;have he:=BJ he;exact hn _ (Am.2 ⟨p,(G6 x [] p).2 (.inr ⟨r,hr,he⟩),rfl⟩)
   refine Xi Unit (Xi (fun _=>⟨[(7,.slice (.id 7 2) []),(19,vi 0),(20,vi 0)],[(7,.tok 2 0)],Ab⟩) (Xi (fun _=>0) (Yi (Xi () ?_) ?_)))
   ·exact⟨Z3,Z1,Fh,Tv⟩
   intro _;refine Yi ?_ ?_
   ·intro h;exact absurd (show(0:Int)<0 from h) (by decide)
   intro _;refine Xi ⟨[(7,.slice (.id 7 2) [])],[(7,.tok 2 0)],Ab⟩ (Yi ⟨Z1,Z1,Fh,Tv⟩ ?_)
   have hc:PC 148 [sl Ao []] (sl Ao (canon [])):=WR [] (by unfold Cp;simp);refine Xi .pure (Xi _ (Yi (hc) ?_));exact .of_eq (show sl Ao (canon [])=sl Ao (B7 x p) by unfold B7;rw[hL];rfl)
 ·have nW:PC 73 [Rd x ifs] (.tup [.agg [.cmap WD [],.cmap C3 []],vi (Bb x)]):=by
   have:=nW;unfold kP ZB at this;rw[Ak h0]at this;exact this
  have hL:JW x p=[]:=by unfold JW;rw[Aw h0]
  refine Ps lE Tryz.func118 rfl (Nz rfl) ?_;refine Yi (Nz rfl) ?_;refine Xi .pure (Xi _ (Yi (nW) ?_));refine Yi (Nz rfl) ?_;refine Xi ⟨[(1,vs p),(5,.ref 5 0)],[(5,.cells [.cmap WD [],.cmap C3 []])],Ab⟩ (Yi ⟨Z2,Z1,Fh,Tv⟩ ?_)
  refine Xi ⟨[(1,vs p),(5,.ref 5 0),(7,.slice (.id 7 2) [])],[(5,.cells [.cmap WD [],.cmap C3 []]),(7,.tok 2 0)],Ab⟩ (Yi ⟨Z3,Z2,Fh,Tv⟩ ?_)
  refine Yi ?_ ?_
  ·intro a ha;cases ha
  ·intro _;refine Xi Unit (Xi (fun _=>⟨[(7,.slice (.id 7 2) []),(19,vi 0),(20,vi 0)],[(7,.tok 2 0)],Ab⟩) (Xi (fun _=>0) (Yi (Xi () ?_) ?_)))
   ·exact⟨Z3,Z1,Fh,Tv⟩
   intro _;refine Yi ?_ ?_
   ·intro h;exact absurd (show(0:Int)<0 from h) (by decide)
   intro _;refine Xi ⟨[(7,.slice (.id 7 2) [])],[(7,.tok 2 0)],Ab⟩ (Yi ⟨Z1,Z1,Fh,Tv⟩ ?_)
   have hc:PC 148 [sl Ao []] (sl Ao (canon [])):=WR [] (by unfold Cp;simp);refine Xi .pure (Xi _ (Yi (hc) ?_));exact .of_eq (show sl Ao (canon [])=sl Ao (B7 x p) by unfold B7;rw[hL];rfl)
theorem RL(x:List Rl)(p:ByteArray):Cp (B7 x p):=by
 unfold B7 Cp
 have:=HQ (Cn (((JW x p).filter fun r=>!r.yanked).map fun r=>(plc r.ver,plc r.ver+1)));omega
end Go.Eng
