/- Lemmas for the claims of this seat, without a condition: part 20 (C39, LayStr, C40, C41, C42, C43, C44, C45, C46, C47, C48, C49, C50, C51, C52, C53, C54, C55). -/
import Derived.Test.YtmcbkdbfaneofaaGreatDoorEA19
import Derived.Shelf.Strings.SplitShaped
import Derived.Shelf.Strings.LastIndexAll
import Derived.Shelf.Strings.Search3
import Derived.Shelf.Small.Wraps
import Derived.Ground.NamesProg
import Derived.Lib.LastIndexLaws
namespace Go.Eng
open Go.Proofs
abbrev vc(c:UInt8):AV:=.v (.int .u8 c.toNat)
theorem iT(a:UInt8)(n:Nat)(h:n<256):decide (UInt8.ofNat n≤a)=decide ((n:Int)≤(a.toNat:Int)):=by
 rw[BW,AA,AA,Ls,show(UInt8.ofNat n).toNat=n by simp;omega];omega
theorem iR(a:UInt8)(n:Nat)(h:n<256):decide (a≤UInt8.ofNat n)=decide ((a.toNat:Int)≤(n:Int)):=by
 rw[BW,AA,AA,Ls,show(UInt8.ofNat n).toNat=n by simp;omega];omega
theorem mR(c:UInt8):PC 143 [vc c] (vb (G0 c)):=by
 refine Ps F3 Tryz.func143 rfl (Nz rfl) ?_;have e1:decide ((97:UInt8)≤c)=decide ((97:Int)≤(c.toNat:Int)):=iT c 97 (by decide);have e2:decide (c≤(122:UInt8))=decide ((c.toNat:Int)≤(122:Int)):=iR c 122 (by decide);have es:G0 c=(decide ((97:Int)≤(c.toNat:Int))&&decide ((c.toNat:Int)≤(122:Int))):=by unfold G0;rw[e1,e2]
 refine Yi ?_ ?_
 ·intro h;have h:(97:Int)≤(c.toNat:Int):=h;refine Yi ?_ ?_
  ·intro h2;have h2:(c.toNat:Int)≤122:=h2;exact .of_eq (Ac vb (show true=G0 c by rw[es,Ax h,Ax h2];rfl))
  ·intro h2;have h2:¬(c.toNat:Int)≤122:=h2;exact .of_eq (Ac vb (show false=G0 c by rw[es,Ar h2,DH]))
 ·intro h;have h:¬(97:Int)≤(c.toNat:Int):=h;exact .of_eq (Ac vb (show false=G0 c by rw[es,Ar h];rfl))
theorem mS(c:UInt8):PC 144 [vc c] (vb (ER c)):=by
 refine Ps F3 Tryz.func144 rfl (Nz rfl) ?_;have e1:decide ((48:UInt8)≤c)=decide ((48:Int)≤(c.toNat:Int)):=iT c 48 (by decide);have e2:decide (c≤(57:UInt8))=decide ((c.toNat:Int)≤(57:Int)):=iR c 57 (by decide);have es:ER c=(decide ((48:Int)≤(c.toNat:Int))&&decide ((c.toNat:Int)≤(57:Int))):=by unfold ER;rw[e1,e2]
 refine Yi ?_ ?_
 ·intro h;have h:(48:Int)≤(c.toNat:Int):=h;refine Yi ?_ ?_
  ·intro h2;have h2:(c.toNat:Int)≤57:=h2;exact .of_eq (Ac vb (show true=ER c by rw[es,Ax h,Ax h2];rfl))
  ·intro h2;have h2:¬(c.toNat:Int)≤57:=h2;exact .of_eq (Ac vb (show false=ER c by rw[es,Ar h2,DH]))
 ·intro h;have h:¬(48:Int)≤(c.toNat:Int):=h;exact .of_eq (Ac vb (show false=ER c by rw[es,Ar h];rfl))
theorem tY(c:UInt8):PC 221 [vc c] (vb (VU c)):=by
 refine Ps F3 Tryz.func221 rfl (Nz rfl) ?_;have e1:decide ((65:UInt8)≤c)=decide ((65:Int)≤(c.toNat:Int)):=iT c 65 (by decide);have e2:decide (c≤(90:UInt8))=decide ((c.toNat:Int)≤(90:Int)):=iR c 90 (by decide);have es:VU c=(decide ((65:Int)≤(c.toNat:Int))&&decide ((c.toNat:Int)≤(90:Int))):=by unfold VU;rw[e1,e2]
 refine Yi ?_ ?_
 ·intro h;have h:(65:Int)≤(c.toNat:Int):=h;refine Yi ?_ ?_
  ·intro h2;have h2:(c.toNat:Int)≤90:=h2;exact .of_eq (Ac vb (show true=VU c by rw[es,Ax h,Ax h2];rfl))
  ·intro h2;have h2:¬(c.toNat:Int)≤90:=h2;exact .of_eq (Ac vb (show false=VU c by rw[es,Ar h2,DH]))
 ·intro h;have h:¬(65:Int)≤(c.toNat:Int):=h;exact .of_eq (Ac vb (show false=VU c by rw[es,Ar h];rfl))
abbrev ZR(c:UInt8):Bool:=G0 c||ER c
theorem tQ(c:UInt8):PC 142 [vc c] (vb (ZR c)):=by
 have h1:=mR c;have h2:=mS c;rcases Bt (G0 c)with e | e
 ·rw[e]at h1;refine Ps F3 Tryz.func142 rfl (Nz rfl) ?_;refine Xi .pure (Xi _ (Yi (h1) ?_));exact .of_eq (Ac vb (show true=ZR c by unfold ZR;rw[e];rfl))
 ·rw[e]at h1;refine Ps F3 Tryz.func142 rfl (Nz rfl) ?_;refine Xi .pure (Xi _ (Yi (h1) ?_));refine Xi .pure (Xi _ (Yi (h2) ?_));exact .of_eq (Ac vb (show ER c=ZR c by unfold ZR;rw[e];rfl))
theorem tU(c:UInt8):PC 187 [vc c] (vb (My c)):=by
 have h1:=mR c;have h2:=tY c;have h3:=mS c;have ew:My c=(G0 c||VU c||ER c||decide (c=95)):=rfl;rcases Bt (G0 c)with e | e
 ·rw[e]at h1;refine Ps F3 Tryz.func187 rfl (Nz rfl) ?_;refine Xi .pure (Xi _ (Yi (h1) ?_));exact .of_eq (Ac vb (show true=My c by rw[ew,e];rfl))
 rw[e]at h1;rcases Bt (VU c)with e2 | e2
 ·rw[e2]at h2;refine Ps F3 Tryz.func187 rfl (Nz rfl) ?_;refine Xi .pure (Xi _ (Yi (h1) ?_));refine Xi .pure (Xi _ (Yi (h2) ?_));exact .of_eq (Ac vb (show true=My c by rw[ew,e,e2];rfl))
 rw[e2]at h2;rcases Bt (ER c)with e3 | e3
 ·rw[e3]at h3;refine Ps F3 Tryz.func187 rfl (Nz rfl) ?_;refine Xi .pure (Xi _ (Yi (h1) ?_));refine Xi .pure (Xi _ (Yi (h2) ?_));refine Xi .pure (Xi _ (Yi (h3) ?_));exact .of_eq (Ac vb (show true=My c by rw[ew,e,e2,e3];rfl))
 rw[e3]at h3;refine Ps F3 Tryz.func187 rfl (Nz rfl) ?_;refine Xi .pure (Xi _ (Yi (h1) ?_));refine Xi .pure (Xi _ (Yi (h2) ?_));refine Xi .pure (Xi _ (Yi (h3) ?_));have eb:decide (c=95)=decide ((c.toNat:Int)=95):=by
  rw[BW,AA,AA];constructor
  ·intro h;subst h;rfl
  ·intro h;exact UInt8.toNat_inj.1 (by show c.toNat=95;omega)
 refine Yi ?_ ?_
 ·intro h;have h:(c.toNat:Int)=95:=h;exact .of_eq (Ac vb (show true=My c by rw[ew,e,e2,e3,eb,Ax h];rfl))
 ·intro h;have h:¬(c.toNat:Int)=95:=h;exact .of_eq (Ac vb (show false=My c by rw[ew,e,e2,e3,eb,Ar h];rfl))
theorem Z0(s:ByteArray)(i:Nat)(h:i<s.data.toList.length):s.data[i]?=some s.data.toList[i]:=by
 rw[←A3];exact Ge h
theorem mQ(s:ByteArray)(f:Nat)(q:UInt8→Bool)(hf:∀c,PC f [vc c] (vb (q c)))(hs:s.data.toList.length<4611686018427387904):PC 141 [vs s,.v (Uf f)] (vb (s.data.toList.all q)):=by
 have EF:s.size=s.data.toList.length:=by simp
 refine Ps F3 Tryz.func141 rfl (Nz rfl) ?_;refine Xi {i:Nat // i≤s.data.toList.length∧∀j (hj:j<s.data.toList.length),j<i→q s.data.toList[j]=true} (Xi (fun i=>⟨[(0,vs s),(1,.v (Uf f)),(7,vi s.size),(8,vi i.1)],[],Ab⟩) (Xi (fun i=>s.data.toList.length-i.1) (Yi (Xi ⟨0,AO _,fun j _ h=>by omega⟩ ?_) ?_)))
 ·exact⟨Z4,Tv,Fh,Tv⟩
 intro⟨i,h1,h2⟩;refine Yi ?_ ?_
 ·intro h;have h:(i:Int)<(s.size:Nat):=h;have h:i<s.data.toList.length:=by omega
  refine Xi s.data.toList[i] (Yi ⟨by show(0:Int)≤i;omega,by show s.data[((i:Nat):Int).toNat]?=_;rw[Ci];exact Z0 s i h⟩ ?_);have hc:=hf s.data.toList[i];refine BU (Bt (q s.data.toList[i])) (fun e=>?_) (fun e=>?_)
  ·rw[e]at hc;refine Xi .pure (Xi _ (Yi (hc) ?_));refine Yi (Ii i (by omega)) ?_;refine Xi ⟨i+1,by omega,fun j hj HZ=>?_⟩ ?_
   ·rcases ED j i with z | z
    ·exact h2 j hj z
    ·have:j=i:=by omega
     subst this;exact e
   ·exact⟨Dl s.data.toList.length i (by omega),Z4,Tv,Fh,Tv⟩
  ·rw[e]at hc;refine Xi .pure (Xi _ (Yi (hc) ?_));have er:s.data.toList.all q=false:=by
    rw[AI];intro ha
    have:=Br.1 ha _ (Ap h)
    rw[e]at this;cases this
   exact .of_eq (Ac vb er.symm)
 ·intro h;have h:¬(i:Int)<(s.size:Nat):=h;have er:s.data.toList.all q=true:=Br.2 fun c hc=>by
   obtain⟨j,hj,rfl⟩:=FA hc;exact h2 j hj (by omega)
  exact .of_eq (Ac vb er.symm)
end Go.Eng
namespace Go.Proofs
open Go.Shelf
def Tryz.laySplit_ren:Go.Shelf.Ren:=⟨fun | 146=>138 | 221=>185 | 268=>217 | 138=>218 | 143=>219 | 195=>241 | 197=>242 | 218=>243 | 219=>244 | 260=>260 | 217=>261 | 225=>262 | 224=>263 | 267=>264 | 266=>278 | 314=>279 | n=>n,fun | 9=>9 | 31=>129 | 3=>3 | 4=>4 | 0=>0 | 105=>274 | 21=>21 | 5=>5 | 46=>185 | 119=>295 | 139=>298 | 138=>297 | 146=>233 | 51=>220 | n=>n,fun | 1=>0 | 3=>1 | 4=>2 | n=>n⟩
theorem Tryz.laySplit:Go.Proofs.Lays.n146 Tryz.prog Tryz.laySplit_ren:={
 mixed:=by kernel_rfl
 f138:=Tryz.func218.trans (congrArg some (by kernel_rfl))
 f143:=Tryz.func219.trans (congrArg some (by kernel_rfl))
 f146:=Tryz.func138.trans (congrArg some (by kernel_rfl))
 f195:=Tryz.func241.trans (congrArg some (by kernel_rfl))
 f197:=Tryz.func242.trans (congrArg some (by kernel_rfl))
 f217:=Tryz.func261.trans (congrArg some (by kernel_rfl))
 f218:=Tryz.func243.trans (congrArg some (by kernel_rfl))
 f219:=Tryz.func244.trans (congrArg some (by kernel_rfl))
 f221:=Tryz.func185.trans (congrArg some (by kernel_rfl))
 f224:=Tryz.func263.trans (congrArg some (by kernel_rfl))
 f225:=Tryz.func262.trans (congrArg some (by kernel_rfl))
 f260:=Tryz.func260.trans (congrArg some (by kernel_rfl))
 f266:=Tryz.func278.trans (congrArg some (by kernel_rfl))
 f267:=Tryz.func264.trans (congrArg some (by kernel_rfl))
 f268:=Tryz.func217.trans (congrArg some (by kernel_rfl))
 f314:=Tryz.func279.trans (congrArg some (by kernel_rfl))
 t0:=Tryz.underlying0
 a0:=Tryz.isAgg0
 z0:=Tryz.sizeOf0
 v0:=Tryz.zeroValue0
 t3:=Tryz.underlying3
 a3:=Tryz.isAgg3
 z3:=Tryz.sizeOf3
 v3:=Tryz.zeroValue3
 t4:=Tryz.underlying4
 a4:=Tryz.isAgg4
 z4:=Tryz.sizeOf4
 v4:=Tryz.zeroValue4
 t5:=Tryz.underlying5
 a5:=Tryz.isAgg5
 z5:=Tryz.sizeOf5
 v5:=Tryz.zeroValue5
 t9:=Tryz.underlying9
 a9:=Tryz.isAgg9
 z9:=Tryz.sizeOf9
 v9:=Tryz.zeroValue9
 t21:=Tryz.underlying21
 a21:=Tryz.isAgg21
 z21:=Tryz.sizeOf21
 v21:=Tryz.zeroValue21
 t31:=Tryz.underlying129
 a31:=Tryz.isAgg129
 z31:=Tryz.sizeOf129
 v31:=Tryz.zeroValue129
 t46:=Tryz.underlying185
 a46:=Tryz.isAgg185
 z46:=Tryz.sizeOf185
 v46:=Tryz.zeroValue185
 t51:=Tryz.underlying220
 a51:=Tryz.isAgg220
 z51:=Tryz.sizeOf220
 v51:=Tryz.zeroValue220
 t105:=Tryz.underlying274
 a105:=Tryz.isAgg274
 z105:=Tryz.sizeOf274
 v105:=Tryz.zeroValue274
 t119:=Tryz.underlying295
 a119:=Tryz.isAgg295
 z119:=Tryz.sizeOf295
 t138:=Tryz.underlying297
 a138:=Tryz.isAgg297
 z138:=Tryz.sizeOf297
 v138:=Tryz.zeroValue297
 t139:=Tryz.underlying298
 a139:=Tryz.isAgg298
 z139:=Tryz.sizeOf298
 v139:=Tryz.zeroValue298
 t146:=Tryz.underlying233
 a146:=Tryz.isAgg233
 z146:=Tryz.sizeOf233
 v146:=Tryz.zeroValue233
 g1:=by kernel_rfl
 g3:=by kernel_rfl
 g4:=by kernel_rfl }
def Tryz.layLast_ren:Go.Shelf.Ren:=⟨fun | 148=>115 | 222=>145 | 223=>146 | 269=>189 | n=>n,fun | 9=>9 | 3=>3 | 4=>4 | 5=>5 | 146=>233 | 51=>220 | 46=>185 | n=>n,fun | n=>n⟩
theorem Tryz.layLast:Go.Proofs.Lays.n148 Tryz.prog Tryz.layLast_ren:={
 mixed:=by kernel_rfl
 f148:=Tryz.func115.trans (congrArg some (by kernel_rfl))
 f222:=Tryz.func145.trans (congrArg some (by kernel_rfl))
 f223:=Tryz.func146.trans (congrArg some (by kernel_rfl))
 f269:=Tryz.func189.trans (congrArg some (by kernel_rfl))
 t3:=Tryz.underlying3
 a3:=Tryz.isAgg3
 z3:=Tryz.sizeOf3
 v3:=Tryz.zeroValue3
 t4:=Tryz.underlying4
 a4:=Tryz.isAgg4
 z4:=Tryz.sizeOf4
 v4:=Tryz.zeroValue4
 t5:=Tryz.underlying5
 a5:=Tryz.isAgg5
 z5:=Tryz.sizeOf5
 v5:=Tryz.zeroValue5
 t9:=Tryz.underlying9
 a9:=Tryz.isAgg9
 z9:=Tryz.sizeOf9
 v9:=Tryz.zeroValue9
 t46:=Tryz.underlying185
 a46:=Tryz.isAgg185
 z46:=Tryz.sizeOf185
 v46:=Tryz.zeroValue185
 t51:=Tryz.underlying220
 a51:=Tryz.isAgg220
 z51:=Tryz.sizeOf220
 v51:=Tryz.zeroValue220
 t146:=Tryz.underlying233
 a146:=Tryz.isAgg233
 z146:=Tryz.sizeOf233
 v146:=Tryz.zeroValue233 }
def Tryz.layCut_ren:Go.Shelf.Ren:=⟨fun | 103=>186 | 210=>220 | 206=>245 | n=>n,fun | 9=>9 | 4=>4 | 24=>231 | 3=>3 | n=>n,fun | n=>n⟩
theorem Tryz.layCut:Go.Proofs.Lays.n103 Tryz.prog Tryz.layCut_ren:={
 mixed:=by kernel_rfl
 f103:=Tryz.func186.trans (congrArg some (by kernel_rfl))
 f206:=Tryz.func245.trans (congrArg some (by kernel_rfl))
 f210:=Tryz.func220.trans (congrArg some (by kernel_rfl))
 t3:=Tryz.underlying3
 a3:=Tryz.isAgg3
 z3:=Tryz.sizeOf3
 v3:=Tryz.zeroValue3
 t4:=Tryz.underlying4
 a4:=Tryz.isAgg4
 z4:=Tryz.sizeOf4
 v4:=Tryz.zeroValue4
 t9:=Tryz.underlying9
 a9:=Tryz.isAgg9
 z9:=Tryz.sizeOf9
 v9:=Tryz.zeroValue9
 t24:=Tryz.underlying231
 a24:=Tryz.isAgg231
 z24:=Tryz.sizeOf231
 v24:=Tryz.zeroValue231 }
def Tryz.layCont_ren:Go.Shelf.Ren:=⟨fun | 144=>222 | 143=>219 | 219=>244 | 217=>261 | 225=>262 | 224=>263 | 267=>264 | 266=>278 | 314=>279 | n=>n,fun | 9=>9 | 4=>4 | 3=>3 | 5=>5 | 46=>185 | 146=>233 | 51=>220 | n=>n,fun | 1=>0 | n=>n⟩
theorem Tryz.layCont:Go.Proofs.Lays.n144 Tryz.prog Tryz.layCont_ren:={
 mixed:=by kernel_rfl
 f143:=Tryz.func219.trans (congrArg some (by kernel_rfl))
 f144:=Tryz.func222.trans (congrArg some (by kernel_rfl))
 f217:=Tryz.func261.trans (congrArg some (by kernel_rfl))
 f219:=Tryz.func244.trans (congrArg some (by kernel_rfl))
 f224:=Tryz.func263.trans (congrArg some (by kernel_rfl))
 f225:=Tryz.func262.trans (congrArg some (by kernel_rfl))
 f266:=Tryz.func278.trans (congrArg some (by kernel_rfl))
 f267:=Tryz.func264.trans (congrArg some (by kernel_rfl))
 f314:=Tryz.func279.trans (congrArg some (by kernel_rfl))
 t3:=Tryz.underlying3
 a3:=Tryz.isAgg3
 z3:=Tryz.sizeOf3
 v3:=Tryz.zeroValue3
 t4:=Tryz.underlying4
 a4:=Tryz.isAgg4
 z4:=Tryz.sizeOf4
 v4:=Tryz.zeroValue4
 t5:=Tryz.underlying5
 a5:=Tryz.isAgg5
 z5:=Tryz.sizeOf5
 v5:=Tryz.zeroValue5
 t9:=Tryz.underlying9
 a9:=Tryz.isAgg9
 z9:=Tryz.sizeOf9
 v9:=Tryz.zeroValue9
 t46:=Tryz.underlying185
 a46:=Tryz.isAgg185
 z46:=Tryz.sizeOf185
 v46:=Tryz.zeroValue185
 t51:=Tryz.underlying220
 a51:=Tryz.isAgg220
 z51:=Tryz.sizeOf220
 v51:=Tryz.zeroValue220
 t146:=Tryz.underlying233
 a146:=Tryz.isAgg233
 z146:=Tryz.sizeOf233
 v146:=Tryz.zeroValue233
 g1:=by kernel_rfl }
end Go.Proofs
namespace Go.Eng
open Go.Proofs
abbrev YO:ByteArray:=⟨#[47]⟩
abbrev BC(s:ByteArray):List ByteArray:=Go.Lib.splitB YO 0 (Go.Lib.countB s YO) s
theorem Pa(s:ByteArray):(BC s).map (·.data.toList)=Fj 47 s.data.toList:=dz s 47
abbrev JA(s:ByteArray):List AV:=[vs s]
theorem pJ(s:ByteArray)(hs:Gk s):PC 138 [vs s,vs YO] (sl JA (BC s)):=by
 unfold Gk at hs;have h:=dg (P:=Tryz.prog) (f:=138) (args:=[vs s,vs YO]) [.string s,.string YO] ((BC s).map Value.string) 9 (dK 138 Tryz.func138 (by kernel_rfl) rfl) rfl (fun x hx=>by
  obtain⟨y,_,rfl⟩:=Ak.1 hx;rfl) (fun w hm=>by
  obtain⟨m,hm⟩:=hm;have hl:(BC s).length=Go.Lib.countB s YO+1:=Go.Lib.splitB_all YO (by decide) 0 _ s rfl;refine(Any.strings_Split Tryz.laySplit (by kernel_rfl) s YO m w (by omega) hm (by decide)).mono ?_
  rintro e w' ⟨rfl,rfl⟩
  exact⟨by rw[Lm,hl],rfl⟩)
 rw[BO]at h;exact h
theorem tH(s p:ByteArray)(hs:Gk s):PC 115 [vs s,vs p] (vi (Go.Lib.lastIndex s.data.toList p.data.toList)):=by
 unfold Gk at hs;exact Lk [.string s,.string p] (.int .i64 (Go.Lib.lastIndex s.data.toList p.data.toList)) (dK 115 Tryz.func115 (by kernel_rfl) rfl) rfl (fun g w=>.v _ _) fun w _=>Any.strings_LastIndex Tryz.layLast s p (by omega) w
theorem tT(s p:ByteArray):PC 186 [vs s,vs p] (.tup [vs ⟨(Go.Lib.trimPrefix s.data.toList p.data.toList).toArray⟩,vb (Go.Lib.hasPrefix s.data.toList p.data.toList)]):=by
 exact Lk [.string s,.string p] _ (dK 186 Tryz.func186 (by kernel_rfl) rfl) rfl (fun g w=>ir [.string ⟨(Go.Lib.trimPrefix s.data.toList p.data.toList).toArray⟩,.bool (Go.Lib.hasPrefix s.data.toList p.data.toList)]) fun w _=>Any.strings_CutPrefix Tryz.layCut s p w
theorem tZ(s p:ByteArray)(hs:Gk s):PC 222 [vs s,vs p] (vb (Go.Lib.contains s.data.toList p.data.toList)):=by
 unfold Gk at hs;exact Lk [.string s,.string p] (.bool (Go.Lib.contains s.data.toList p.data.toList)) (dK 222 Tryz.func222 (by kernel_rfl) rfl) rfl (fun g w=>.v _ _) fun w hm=>by
  obtain⟨m,hm⟩:=hm;exact Any.strings_Contains Tryz.layCont s p m w (by omega) hm
theorem aV:∀x y:List UInt8,dq x y=x.isPrefixOf y
 | [],_=>by simp[dq]
 |_::_,[]=>rfl
 |a::x,b::y=>by
  rw[dq,List.isPrefixOf_cons_cons,aV x y]
  rfl
theorem gc(x:List UInt8):∀y:List UInt8,sK x y=Go.Lib.contains y x
 | []=>by
  unfold Go.Lib.contains Go.Lib.index;cases x<;>rfl
 |b::y=>by
  rw[sK,aV,gc x y];unfold Go.Lib.contains;have hg:=Go.Lib.index_ge y x
  conv=>rhs;unfold Go.Lib.index
  cases h:x.isPrefixOf (b::y)with
  |true=>simp
  |false =>
   simp only[LL,Cw,Fc]
   by_cases h0:Go.Lib.index y x=-1
   ·rw[h0];rfl
   ·have h1:(Go.Lib.index y x == -1)=false:=by simpa using h0
    rw[h1];simp only[Cw,Fc];rw[Ax (by omega),Ax (by omega)]
theorem SN:∀(l:List UInt8) (h:0<l.length),l.headD 0=l[0]
 | [],h=>by simp at h
 |_::_,_=>rfl
abbrev l8:ByteArray:=⟨⟨gn⟩⟩
theorem tV(s:ByteArray)(hs:Gk s):PC 188 [vs s] (vb (Zp s.data.toList)):=by
 unfold Gk at hs;have hc:=tZ l8 ((⟨#[32]⟩++s)++⟨#[32]⟩) (HN (by kernel_rfl));have e:Go.Lib.contains l8.data.toList ((⟨#[32]⟩++s:ByteArray)++⟨#[32]⟩).data.toList=Zp s.data.toList:=by
  unfold Zp;rw[gc]
  congr 1
 rw[e]at hc;refine Ps F3 Tryz.func188 rfl (Nz rfl) ?_;refine Yi (by show(((1+s.size:Nat)):Int)≤_;omega) ?_;refine Yi (by show(((⟨#[32]⟩++s:ByteArray).size+1:Nat):Int)≤_;rw[ByteArray.size_append];show(((1+s.size)+1:Nat):Int)≤_;omega) ?_;refine Xi .pure (Xi _ (Yi (hc) ?_));exact .refl _
theorem tO(s:ByteArray)(hs:Gk s):PC 140 [vs s] (vb (Ie s.data.toList)):=by
 have hk:=tV s hs;have hw:=mQ s 187 My tU (by unfold Gk at hs;simp;omega);have EF:s.size=s.data.toList.length:=by simp
 have en:Ie s.data.toList=(!s.data.toList.isEmpty&&decide (s.data.toList.length≤32)&&G0 (s.data.toList.headD 0)&&s.data.toList.all My&&!Zp s.data.toList):=rfl
 by_cases h0:s=⟨#[]⟩
 ·subst h0;refine Ps F3 Tryz.func140 rfl (Nz rfl) ?_;refine Yi ?_ ?_
  ·intro h;exact absurd rfl (show(⟨#[]⟩:ByteArray)≠⟨#[]⟩from h)
  ·intro _;exact .refl _
 have xi : s.data.toList≠[]:=fun e=>h0 (by
  have:s.data=#[]:=by rw[←Iy];exact e
  cases s;simp_all)
 have CI:0<s.data.toList.length:=M5.2 xi;have Uj:s.data.toList.isEmpty=false:=by
  cases hl:s.data.toList with
  |nil=>exact absurd hl xi
  |cons a l=>rfl
 have xI:s.data.toList.headD 0=s.data.toList[0]:=SN _ CI;have jj:=mR s.data.toList[0];refine Ps F3 Tryz.func140 rfl (Nz rfl) ?_;refine Yi ?_ ?_
 rotate_left
 ·intro h;exact absurd h0 h
 intro _;refine Yi ?_ ?_
 rotate_left
 ·intro h;have h:¬((s.size:Nat):Int)≤32:=h;exact .of_eq (Ac vb (show false=Ie s.data.toList by rw[en,Ar (by omega:¬s.data.toList.length≤32)];simp))
 intro h;have h:((s.size:Nat):Int)≤32:=h;refine Xi s.data.toList[0] (Yi ⟨AZ _,Z0 s 0 CI⟩ ?_);refine BU (Bt (G0 s.data.toList[0])) (fun e1=>?_) (fun e1=>?_)
 rotate_left
 ·rw[e1]at jj;refine Xi .pure (Xi _ (Yi (jj) ?_));exact .of_eq (Ac vb (show false=Ie s.data.toList by rw[en,xI,e1];simp))
 rw[e1]at jj;refine Xi .pure (Xi _ (Yi (jj) ?_));refine BU (Bt (s.data.toList.all My)) (fun e2=>?_) (fun e2=>?_)
 rotate_left
 ·rw[e2]at hw;refine Xi .pure (Xi _ (Yi (hw) ?_));exact .of_eq (Ac vb (show false=Ie s.data.toList by rw[en,e2];simp))
 rw[e2]at hw;refine Xi .pure (Xi _ (Yi (hw) ?_));have ef:Ie s.data.toList=!Zp s.data.toList:=by rw[en,Uj,xI,e1,e2,Ax (by omega:s.data.toList.length≤32)];rfl
 refine BU (Bt (Zp s.data.toList)) (fun e3=>?_) (fun e3=>?_)
 ·rw[e3]at hk;refine Xi .pure (Xi _ (Yi (hk) ?_));exact .of_eq (Ac vb (show false=Ie s.data.toList by rw[ef,e3];rfl))
 ·rw[e3]at hk;refine Xi .pure (Xi _ (Yi (hk) ?_));exact .of_eq (Ac vb (show true=Ie s.data.toList by rw[ef,e3];rfl))
abbrev WH:Option Int→AV
 |some n=>.tup [vi n,vb true]
 |none=>.tup [vi 0,vb false]
theorem br{z:Int}(h0:0≤z)(h1:z<256):IntKind.u8.wrap z=z:=by
 show z % 256=z;omega
theorem UT{c:UInt8}(h:ER c=true):48≤c.toNat∧c.toNat≤57:=by
 unfold ER at h;simp only[Ag,AA]at h;exact⟨Ls.1 h.1,Ls.1 h.2⟩
theorem Vm(r:List UInt8)(i:Nat)(h:i<r.length):Gv (r.take (i+1))=10*Gv (r.take i)+((r[i].toNat:Int)-48):=by
 unfold Gv;rw[Bu,Ge h,Ke];rfl
theorem tN(s:ByteArray)(hs:Gk s):PC 139 [vs s] (WH (LK s.data.toList)):=by
 unfold Gk at hs;have hc:=tT s ⟨#[118]⟩
 by_cases hp:∃r,s.data.toList=118::r
 ·obtain⟨r,hr⟩:=hp;have e1:Go.Lib.hasPrefix s.data.toList (⟨#[118]⟩:ByteArray).data.toList=true:=by rw[hr];rfl
  have e2:Go.Lib.trimPrefix s.data.toList (⟨#[118]⟩:ByteArray).data.toList=r:=by unfold Go.Lib.trimPrefix;rw[e1,Aw rfl,hr];rfl
  rw[e1,e2]at hc;have hv:LK s.data.toList=if(r.isEmpty||decide (3<r.length)||(decide (1<r.length)&&decide (r.headD 0=48))||!r.all ER)=true then none else some (Gv r):=by rw[hr];rfl
  have WO:r.length<s.size:=by
   have:s.size=s.data.toList.length:=by simp
   rw[this,hr];simp
  generalize hB:(⟨r.toArray⟩:ByteArray)=rB at hc;have jV:rB.data.toList=r:=by rw[←hB]
  have p6:rB.size=r.length:=by rw[←hB];rfl
  have hw:=mQ rB 144 ER mS (by rw[jV];omega);rw[jV]at hw;have no:∀{b:Bool},b=true→(if b=true then none else some (Gv r))=(none:Option Int):=fun h=>Aw h;refine Ps (KI [2,4]) Tryz.func139 rfl (Nz rfl) ?_;refine Xi .pure (Xi _ (Yi (hc) ?_));refine Xi ⟨[(0,vs rB),(4,vb true)],[],Ab⟩ (Yi ⟨Z2,Tv,Fh,Tv⟩ ?_)
  refine Yi ?_ ?_
  ·intro h;have h:rB=⟨#[]⟩:=h
   have:r=[]:=by rw[←jV,h]
   exact .of_eq (Ac WH (show(none:Option Int)=LK s.data.toList by rw[hv,this];rfl))
  intro h;have h:¬rB=⟨#[]⟩:=h;have DC:r≠[]:=fun e=>h (by rw[←hB,e]);have CI:0<r.length:=M5.2 DC;have Uj:r.isEmpty=false:=by
   cases hl:r with
   |nil=>exact absurd hl DC
   |cons a l=>rfl
  refine Yi ?_ ?_
  ·intro h2;have h2:(3:Int)<((rB.size:Nat):Int):=h2;exact .of_eq (Ac WH (show(none:Option Int)=LK s.data.toList by rw[hv,no];rw[Ax (by omega:3<r.length)];simp))
  intro h2;have h2:¬(3:Int)<((rB.size:Nat):Int):=h2;have sx:r.length≤3:=by omega
  have d3:decide (3<r.length)=false:=Ar (by omega);refine Yi ?_ ?_
  ·intro h3;have h3:(1:Int)<((rB.size:Nat):Int):=h3;have uo:rB.data[(0:Int).toNat]?=some r[0]:=by
    show rB.data[0]?=_;rw[←A3,jV];exact Ge CI
   refine Xi r[0] (Yi ⟨AZ _,uo⟩ ?_);have hh:=SN r CI;refine Yi ?_ ?_
   ·intro h4;have h4:(r[0].toNat:Int)=48:=h4
    have:r[0]=48:=UInt8.toNat_inj.1 (by show r[0].toNat=48;omega)
    exact .of_eq (Ac WH (show(none:Option Int)=LK s.data.toList by rw[hv,hh,this,Ax (by omega:1<r.length)];simp))
   intro h4;have h4:¬(r[0].toNat:Int)=48:=h4;have eo:(decide (1<r.length)&&decide (r.headD 0=48))=false:=by rw[hh,Ar (show ¬r[0]=48 from fun e=>h4 (by rw[e];rfl)),DH]
   have qV:LK s.data.toList=if(!r.all ER)=true then none else some (Gv r):=by rw[hv,Uj,d3,eo];rfl
   refine BU (Bt (r.all ER)) (fun e3=>?_) (fun e3=>?_)
   rotate_left
   ·rw[e3]at hw;refine Xi .pure (Xi _ (Yi (hw) ?_));exact .of_eq (Ac WH (show(none:Option Int)=LK s.data.toList by rw[qV,e3];rfl))
   rw[e3]at hw;refine Xi .pure (Xi _ (Yi (hw) ?_));have vr:LK s.data.toList=some (Gv r):=by rw[qV,e3];rfl
   refine Xi ⟨[(0,vs rB)],[],Ab⟩ (Yi ⟨Z1,Tv,Fh,Tv⟩ ?_)
   have z0:Gv (r.take 0)=0:=rfl;refine Xi {i:Nat // i≤r.length∧0≤Gv (r.take i)∧(i=0→Gv (r.take i)≤0)∧(i≤1→Gv (r.take i)≤9)∧(i≤2→Gv (r.take i)≤99)∧Gv (r.take i)≤999} (Xi (fun i=>⟨[(0,vs rB),(5,vi (Gv (r.take i.1))),(39,vi rB.size),(40,vi i.1)],[],Ab⟩) (Xi (fun i=>r.length-i.1) (Yi (Xi ⟨0,AO _,by omega,fun _=>by omega,fun _=>by omega,fun _=>by omega,by omega⟩ ?_) ?_)))
   ·exact⟨Z4,Tv,Fh,Tv⟩
   intro⟨i,i1,i2,i3,i4,i5,i6⟩;refine Yi ?_ ?_
   ·intro h;have h:(i:Int)<(rB.size:Nat):=h;have h:i<r.length:=by omega
    have uB:ER r[i]=true:=Br.1 e3 _ (Ap h);have oY:=UT uB;have uQ:=Vm r i h;have kk:IntKind.u8.wrap ((r[i].toNat:Int)-48)=(r[i].toNat:Int)-48:=br (by omega) (by omega);have lJ:rB.data[((i:Nat):Int).toNat]?=some r[i]:=by rw[Ci,←A3,jV];exact Ge h
    refine Yi (by show B2 (10*Gv (r.take i));unfold B2;omega) ?_;refine Xi r[i] (Yi ⟨by show(0:Int)≤i;omega,lJ⟩ ?_);refine Yi (by show B2 (IntKind.u8.wrap ((r[i].toNat:Int)-48));rw[kk];unfold B2;omega) ?_;refine Yi (by show B2 (10*Gv (r.take i)+IntKind.u8.wrap ((r[i].toNat:Int)-48));rw[kk];unfold B2;omega) ?_;refine Yi (Ii i (by omega)) ?_;have e5:vi (10*Gv (r.take i)+IntKind.u8.wrap ((r[i].toNat:Int)-48))=vi (Gv (r.take (i+1))):=by rw[kk,uQ]
    refine Xi ⟨i+1,by omega,by omega,fun _=>by omega,fun _=>by omega,fun _=>by omega,by omega⟩ ?_;exact⟨Dl r.length i (by omega),⟨Zr,⟨e5,rfl⟩,Zr,Zr,Tv⟩,Tv,Fh,Tv⟩
   ·intro h;have h:¬(i:Int)<(rB.size:Nat):=h;have e6:AV.tup [vi (Gv (r.take i)),vb true]=WH (LK s.data.toList):=by rw[vr,AT (by omega)]
    exact .of_eq e6
  ·intro h3;have h3:¬(1:Int)<((rB.size:Nat):Int):=h3;have eo:(decide (1<r.length)&&decide (r.headD 0=48))=false:=by rw[Ar (by omega:¬1<r.length)];rfl
   have qV:LK s.data.toList=if(!r.all ER)=true then none else some (Gv r):=by rw[hv,Uj,d3,eo];rfl
   refine BU (Bt (r.all ER)) (fun e3=>?_) (fun e3=>?_)
   rotate_left
   ·rw[e3]at hw;refine Xi .pure (Xi _ (Yi (hw) ?_));exact .of_eq (Ac WH (show(none:Option Int)=LK s.data.toList by rw[qV,e3];rfl))
   rw[e3]at hw;refine Xi .pure (Xi _ (Yi (hw) ?_));have vr:LK s.data.toList=some (Gv r):=by rw[qV,e3];rfl
   refine Xi ⟨[(0,vs rB)],[],Ab⟩ (Yi ⟨Z1,Tv,Fh,Tv⟩ ?_)
   have z0:Gv (r.take 0)=0:=rfl;refine Xi {i:Nat // i≤r.length∧0≤Gv (r.take i)∧(i=0→Gv (r.take i)≤0)∧(i≤1→Gv (r.take i)≤9)∧(i≤2→Gv (r.take i)≤99)∧Gv (r.take i)≤999} (Xi (fun i=>⟨[(0,vs rB),(5,vi (Gv (r.take i.1))),(39,vi rB.size),(40,vi i.1)],[],Ab⟩) (Xi (fun i=>r.length-i.1) (Yi (Xi ⟨0,AO _,by omega,fun _=>by omega,fun _=>by omega,fun _=>by omega,by omega⟩ ?_) ?_)))
   ·exact⟨Z4,Tv,Fh,Tv⟩
   intro⟨i,i1,i2,i3,i4,i5,i6⟩;refine Yi ?_ ?_
   ·intro h;have h:(i:Int)<(rB.size:Nat):=h;have h:i<r.length:=by omega
    have uB:ER r[i]=true:=Br.1 e3 _ (Ap h);have oY:=UT uB;have uQ:=Vm r i h;have kk:IntKind.u8.wrap ((r[i].toNat:Int)-48)=(r[i].toNat:Int)-48:=br (by omega) (by omega);have lJ:rB.data[((i:Nat):Int).toNat]?=some r[i]:=by rw[Ci,←A3,jV];exact Ge h
    refine Yi (by show B2 (10*Gv (r.take i));unfold B2;omega) ?_;refine Xi r[i] (Yi ⟨by show(0:Int)≤i;omega,lJ⟩ ?_);refine Yi (by show B2 (IntKind.u8.wrap ((r[i].toNat:Int)-48));rw[kk];unfold B2;omega) ?_;refine Yi (by show B2 (10*Gv (r.take i)+IntKind.u8.wrap ((r[i].toNat:Int)-48));rw[kk];unfold B2;omega) ?_;refine Yi (Ii i (by omega)) ?_;have e5:vi (10*Gv (r.take i)+IntKind.u8.wrap ((r[i].toNat:Int)-48))=vi (Gv (r.take (i+1))):=by rw[kk,uQ]
    refine Xi ⟨i+1,by omega,by omega,fun _=>by omega,fun _=>by omega,fun _=>by omega,by omega⟩ ?_;exact⟨Dl r.length i (by omega),⟨Zr,⟨e5,rfl⟩,Zr,Zr,Tv⟩,Tv,Fh,Tv⟩
   ·intro h;have h:¬(i:Int)<(rB.size:Nat):=h;have e6:AV.tup [vi (Gv (r.take i)),vb true]=WH (LK s.data.toList):=by rw[vr,AT (by omega)]
    exact .of_eq e6
 ·have e1:Go.Lib.hasPrefix s.data.toList (⟨#[118]⟩:ByteArray).data.toList=false:=by
   cases hl:s.data.toList with
   |nil=>rfl
   |cons a l =>
    have:a≠118:=fun e=>hp ⟨l,by rw[hl,e]⟩
    show(List.isPrefixOf [118] (a::l))=false;rw[List.isPrefixOf_cons_cons]
    have:((118:UInt8) == a)=false:=by rw[beq_eq_false_iff_ne];exact fun e=>this e.symm
    rw[this];rfl
  have hv:LK s.data.toList=none:=by
   cases hl:s.data.toList with
   |nil=>rfl
   |cons a l =>
    have:a≠118:=fun e=>hp ⟨l,by rw[hl,e]⟩
    show(if a=118 then _ else none)=none;rw[Ah this]
  rw[e1]at hc;refine Ps F3 Tryz.func139 rfl (Nz rfl) ?_;refine Xi .pure (Xi _ (Yi (hc) ?_));exact .of_eq (Ac WH hv.symm)
abbrev Zt:Option Int→AV
 |some n=>.tup [vi n,vi 0]
 |none=>.tup [vi 0,vi 4]
theorem TW(c:UInt8):∀(s x:List UInt8),x∈Fj c s→x.length≤s.length
 | [],x,h=>by
  rw[Fj]at h;rw[Am.1 h];exact Aj _
 |b::r,x,h=>by
  have ih:=TW c r;rw[Fj]at h;split at h
  ·rcases Aq.1 h with rfl | h
   ·exact AO _
   ·have:=ih x h;rw[Au];omega
  ·split at h
   ·rw[Am.1 h];rw[Au];simp
   ·rename_i y l e;rcases Aq.1 h with rfl | h
    ·have:=ih y (by rw[e];exact Aa ..);rw[Au,Au];omega
    ·have:=ih x (by rw[e];exact Ae _ h);rw[Au];omega
theorem gW{p x:ByteArray}(hp:Gk p)(hx:x∈BC p):Gk x:=by
 have h:x.data.toList∈Fj 47 p.data.toList:=by rw[←Pa];exact Ak.2 ⟨x,hx,rfl⟩
 have:=TW 47 _ _ h
 unfold Gk at *
 have e1:x.size=x.data.toList.length:=by simp
 have e2:p.size=p.data.toList.length:=by simp
 omega
theorem de(p:ByteArray):(BC p).length=(Fj 47 p.data.toList).length:=by rw[←Pa,Lm]
theorem df(p:ByteArray):0<(BC p).length:=by
 rw[show(BC p).length=Go.Lib.countB p YO+1 from Go.Lib.splitB_all YO (by decide) 0 _ p rfl];omega
theorem db(p:ByteArray):(BC p).length≤p.size+1:=by
 rw[show(BC p).length=Go.Lib.countB p YO+1 from Go.Lib.splitB_all YO (by decide) 0 _ p rfl]
 have:=Go.Lib.countB_le YO (by decide) p.size p (Aj _);omega
theorem ZD(p:ByteArray)(h:(BC p).length-1<(BC p).length):(Fj 47 p.data.toList).getLastD []=((BC p)[(BC p).length-1]).data.toList:=by
 rw[←Pa,List.getLastD_eq_getLast?,List.getLast?_eq_getElem?,Lm,AG,Ge h];rfl
theorem da(p:ByteArray):(Fj 47 p.data.toList).all Mr=(BC p).all fun x=>Mr x.data.toList:=by
 rw[←Pa,List.all_map];rfl
theorem pG(p:ByteArray)(hp:Gk p):PC 113 [vs p] (Zt (Cs p)):=by
 have uZ:=db p;have Zl:=df p;have uW:(BC p).length-1<(BC p).length:=by omega
 have EF:p.size=p.data.toList.length:=by simp
 have xF:∀{x},x∈BC p→Gk x:=fun h=>gW hp h;unfold Gk at hp;have SP:((BC p).map JA)[((((BC p).map JA).length:Int)-1).toNat]?=some (JA (BC p)[(BC p).length-1]):=by
  rw[Lm,show(((BC p).length:Int)-1).toNat=(BC p).length-1 by omega];exact Ch (Ge uW)
 have hv:=tN (BC p)[(BC p).length-1] (xF (Ap uW));have em:Cs p=match LK ((BC p)[(BC p).length-1]).data.toList with
  |none=>none
  |some n=>if(decide (64<p.data.toList.length)||decide ((BC p).length<2))=true then none else if((BC p).all fun x=>Mr x.data.toList)=true then some n else none:=by
  unfold Cs Zu;rw[ZD p uW,da,←de];cases LK ((BC p)[(BC p).length-1]).data.toList with
  |none=>rfl
  |some n=>rfl
 cases hve:LK ((BC p)[(BC p).length-1]).data.toList with
 |none =>
  rw[hve]at hv em;refine Ps (KI [2,3]) Tryz.func113 rfl (Nz rfl) ?_;refine Xi .pure (Xi _ (Yi (pJ p hp) ?_));refine Xi ⟨[(0,vs p),(4,sl JA (BC p))],[],Ab⟩ (Yi ⟨Z2,Tv,Fh,Tv⟩ ?_)
  refine Yi (by show B2 ((((BC p).map JA).length:Int)-1);unfold B2;rw[Lm];omega) ?_;refine Xi (JA (BC p)[(BC p).length-1]) (Yi (Yi (by show(0:Int)≤(((BC p).map JA).length:Int)-1;rw[Lm];omega) SP) (Yi rfl ?_));refine Xi .pure (Xi _ (Yi (hv) ?_));refine Xi ⟨[(0,vs p),(4,sl JA (BC p)),(5,vi 0),(6,vb false)],[],Ab⟩ (Yi ⟨Z4,Tv,Fh,Tv⟩ ?_)
  exact .of_eq (Ac Zt em.symm)
 |some n =>
  rw[hve]at hv em;have em:Cs p=if(decide (64<p.data.toList.length)||decide ((BC p).length<2))=true then none else if((BC p).all fun x=>Mr x.data.toList)=true then some n else none:=em
  refine Ps (KI [2,3,5]) Tryz.func113 rfl (Nz rfl) ?_;refine Xi .pure (Xi _ (Yi (pJ p hp) ?_));refine Xi ⟨[(0,vs p),(4,sl JA (BC p))],[],Ab⟩ (Yi ⟨Z2,Tv,Fh,Tv⟩ ?_)
  refine Yi (by show B2 ((((BC p).map JA).length:Int)-1);unfold B2;rw[Lm];omega) ?_;refine Xi (JA (BC p)[(BC p).length-1]) (Yi (Yi (by show(0:Int)≤(((BC p).map JA).length:Int)-1;rw[Lm];omega) SP) (Yi rfl ?_));refine Xi .pure (Xi _ (Yi (hv) ?_));refine Xi ⟨[(0,vs p),(4,sl JA (BC p)),(5,vi n),(6,vb true)],[],Ab⟩ (Yi ⟨Z4,Tv,Fh,Tv⟩ ?_)
  refine Yi ?_ ?_
  ·intro h;have h:(64:Int)<((p.size:Nat):Int):=h;exact .of_eq (Ac Zt (show(none:Option Int)=Cs p by rw[em,Ax (by omega:64<p.data.toList.length)];rfl))
  intro h;have h:¬(64:Int)<((p.size:Nat):Int):=h;have d1:decide (64<p.data.toList.length)=false:=Ar (by omega);refine Yi ?_ ?_
  ·intro h2;have h2:(((BC p).map JA).length:Int)<2:=h2;rw[Lm]at h2;exact .of_eq (Ac Zt (show(none:Option Int)=Cs p by rw[em,d1,Ax (by omega:(BC p).length<2)];rfl))
  intro h2;have h2:¬(((BC p).map JA).length:Int)<2:=h2;have d2:decide ((BC p).length<2)=false:=Ar (by rw[Lm]at h2;omega);have xg:Cs p=if((BC p).all fun x=>Mr x.data.toList)=true then some n else none:=by rw[em,d1,d2];rfl
  refine Xi ⟨[(4,sl JA (BC p)),(5,vi n)],[],Ab⟩ (Yi ⟨Z2,Tv,Fh,Tv⟩ ?_)
  refine Xi {i:Nat // i≤(BC p).length∧∀j (hj:j<(BC p).length),j<i→Mr ((BC p)[j]).data.toList=true} (Xi (fun i=>⟨[(5,vi n),(33,sl JA (BC p)),(34,vi ((BC p).map JA).length),(35,vi i.1)],[],Ab⟩) (Xi (fun i=>(BC p).length-i.1) (Yi (Xi ⟨0,AO _,fun j _ h=>by omega⟩ ?_) ?_)))
  ·exact⟨Z4,Tv,Fh,Tv⟩
  intro⟨i,i1,i2⟩;refine Yi ?_ ?_
  ·intro h;have h:(i:Int)<((BC p).map JA).length:=h;have h:i<(BC p).length:=by simpa using h
   have hg:(BC p)[i]?=some (BC p)[i]:=Ge h;refine Xi (JA (BC p)[i]) (Yi (Yi (Nn i) (by simp[hg])) (Yi rfl ?_));have xD:=xF (Ap h);have hn:=tO (BC p)[i] xD;have ha:=mQ (BC p)[i] 142 ZR tQ (by unfold Gk at xD;have e1:(BC p)[i].size=(BC p)[i].data.toList.length:=(by simp);omega);have no:Mr ((BC p)[i]).data.toList=false→(none:Option Int)=Cs p:=fun e=>by
    rw[xg,Ah];intro FR
    have:=Br.1 FR _ (Ap h)
    rw[e]at this;cases this
   refine BU (Bt (Ie ((BC p)[i]).data.toList)) (fun e1=>?_) (fun e1=>?_)
   rotate_left
   ·rw[e1]at hn;refine Xi .pure (Xi _ (Yi (hn) ?_));exact .of_eq (Ac Zt (no (by unfold Mr;rw[e1];rfl)))
   rw[e1]at hn;refine Xi .pure (Xi _ (Yi (hn) ?_));refine BU (Bt (((BC p)[i]).data.toList.all ZR)) (fun e2=>?_) (fun e2=>?_)
   rotate_left
   ·rw[e2]at ha;refine Xi .pure (Xi _ (Yi (ha) ?_));exact .of_eq (Ac Zt (no (by unfold Mr;rw[e1];exact e2)))
   rw[e2]at ha;refine Xi .pure (Xi _ (Yi (ha) ?_));refine Yi (Ii i (by omega)) ?_;refine Xi ⟨i+1,by omega,fun j hj HZ=>?_⟩ ?_
   ·rcases ED j i with z | z
    ·exact i2 j hj z
    ·have:j=i:=by omega
     subst this;unfold Mr;rw[e1];exact e2
   ·exact⟨by show(BC p).length-(i+1)<(BC p).length-i;omega,Z4,Tv,Fh,Tv⟩
  ·intro h;have h:¬(i:Int)<((BC p).map JA).length:=h;have h:¬i<(BC p).length:=by simpa using h
   have e:some n=Cs p:=by
    rw[xg,Aw];exact Br.2 fun x hx=>by
     obtain⟨j,hj,rfl⟩:=FA hx;exact i2 j hj (by omega)
   exact .of_eq (Ac Zt e)
theorem tG(p:ByteArray)(hp:Gk p):PC 114 [vs p] (vb (Cs p).isSome):=by
 have hc:=pG p hp;cases h:Cs p with
 |none =>
  rw[h]at hc;refine Ps F3 Tryz.func114 rfl (Nz rfl) ?_;refine Xi .pure (Xi _ (Yi (hc) ?_));refine Yi ?_ ?_
  ·intro h;exact absurd (show(4:Int)=0 from h) (by decide)
  ·intro _;exact .refl _
 |some n =>
  rw[h]at hc;refine Ps F3 Tryz.func114 rfl (Nz rfl) ?_;refine Xi .pure (Xi _ (Yi (hc) ?_));refine Yi ?_ ?_
  ·intro _;exact .refl _
  ·intro h;exact absurd rfl h
theorem TX(c:UInt8):∀s:List UInt8,2≤(Fj c s).length→c∈s
 | [],h=>by rw[Fj]at h;simp at h
 |b::r,h=>by
  rw[Fj]at h
  by_cases e:b=c
  ·exact e▸Aa ..
  ·rw[Ah e]at h;refine Ae _ (TX c r ?_);cases hs:Fj c r with
   |nil=>rw[hs]at h;simp at h
   |cons x l=>rw[hs]at h;simpa using h
theorem gp{p:ByteArray}{m:Int}(h:Cs p=some m):0≤Go.Lib.lastIndex p.data.toList [47]∧Go.Lib.lastIndex p.data.toList [47]≤p.size:=by
 have h2:2≤(Fj 47 p.data.toList).length:=by
  unfold Cs Zu at h;split at h
  ·cases h
  ·split at h
   ·cases h
   ·rename_i hn;simp only[CE,AA]at hn;omega
 have hm:=TX 47 _ h2;obtain⟨i,hi,e⟩:=FA hm;have EF:p.size=p.data.toList.length:=by simp
 unfold Go.Lib.lastIndex;rw[Aw (by simp only[AD];omega)];have uS:Go.Lib.occAt p.data.toList [47] i=true:=by
  unfold Go.Lib.occAt;rw[Bs hi,e];simp
 rcases Go.Lib.lastOcc_spec p.data.toList [47] (p.data.toList.length - [(47:UInt8)].length+1)with ⟨_,h3⟩ | ⟨j,h3,h4,_⟩
 ·have:=h3 i (by simp only[AD];omega)
  rw[uS]at this;cases this
 ·rw[h4];simp only[AD]at h3;omega
abbrev gv(p:ByteArray):ByteArray:=p.extract 0 (Go.Lib.lastIndex p.data.toList [47]).toNat
theorem Se:T7 gv:=by
 intro p hp;have hc:=pG p hp;have hi:=tG p hp;unfold Vf;cases h:Cs p with
 |none =>
  rw[h]at hc hi;refine Ps F3 Tryz.func91 rfl (Nz rfl) ?_;refine Xi .pure (Xi _ (Yi (hc) ?_));refine Xi .pure (Xi _ (Yi (hi) ?_));exact .refl _
 |some n =>
  rw[h]at hc hi;obtain⟨l1,l2⟩:=gp h;have hl:PC 115 [vs p,vs YO] (vi (Go.Lib.lastIndex p.data.toList [47])):=tH p YO hp;refine Ps F3 Tryz.func91 rfl (Nz rfl) ?_;refine Xi .pure (Xi _ (Yi (hc) ?_));refine Xi .pure (Xi _ (Yi (hi) ?_));refine Yi ?_ ?_
  ·intro h;exact absurd rfl h
  intro _;refine Xi .pure (Xi _ (Yi (hl) ?_));refine Yi ⟨AZ _,l1,l2⟩ ?_;exact .refl _
theorem Pd{l:List Rq}(h:BS l=0):l.length≤16:=by
 unfold BS at h;split at h
 ·cases h
 ·omega
theorem PR{x:List Rl}(h:A4 x=0):x.length≤256∧∀r∈x,r.reqs.length≤16:=by
 have h1:x.length≤256:=by
  unfold A4 at h;split at h
  ·cases h
  ·omega
 exact⟨h1,fun r hr=>Pd ((Cg h).1 r hr).reqs⟩
theorem fh{x:List Rl}(h:∀r∈x,r.reqs.length≤16):((x.map (·.reqs)).flatten).length≤x.length*16:=by
 induction x with
 |nil=>simp
 |cons r x ih =>
  rw[AN,By,Ad,Au]
  have:=h r (Aa ..)
  have:=ih fun s hs=>h s (Ae _ hs)
  omega
theorem ZG{x:List Rl}{roots:List Rq}{l:List Nf}(h1:A4 x=0)(h2:BS roots=0)(h3:l.length≤65536):(Ka x roots l).length≤100000:=by
 obtain⟨a,b⟩:=PR h1
 have:=fh b
 have:=Pd h2
 unfold Ka;simp only[Ad,Lm];omega
theorem Uw.fewI{U:List ByteArray}{t:List Tm}(h:Uw U t)(hu:U.length≤100000):mr t :=
 ⟨by have:=h.len;omega,fun u hu=>Ow (h.1.canon u hu)⟩
abbrev I2(x:List Rl)(ifs:List (List AV)):AV:=.agg (Ic x ifs)
abbrev WR:EE:=⟨true,[.str,.int .i64,.int .i64,.int .i64]⟩
abbrev Tg(y:Sl):Value:=.agg #[.string y.path,.int .i64 y.ver.a,.int .i64 y.ver.b,.int .i64 y.ver.c]
abbrev Vd(r:Rl):Value×AV:=(Tg (GO r),.agg (Al r))
def AQ:List Rl→List ByteArray→List ByteArray
 | [],acc=>acc
 |r::x,acc=>AQ x (if acc.any (fun p=>decide (p=r.path))then acc else acc++[r.path])
abbrev mc(x:List Rl)(p:ByteArray):Value×AV:=(.string p,sl Al (x.filter fun r=>decide (r.path=p)))
abbrev ZU(x:List Rl):AV:=if A4 x=0 then .tup [.agg [.cmap WR (x.map Vd),.cmap C3 ((AQ x []).map (mc x))],vi 0]else .tup [.agg [.cmap WR [],.cmap C3 []],vi (A4 x)]
abbrev lx(x:List Rl)(ifs:List (List AV)):Prop:=PC 73 [I2 x ifs] (ZU x)
theorem kq{y z:Sl}(h:Tg y=Tg z):y=z:=by
 obtain⟨p,⟨a,b,c⟩⟩:=y;obtain⟨q,⟨d,e,f⟩⟩:=z;simp only[Tg,Value.agg.injEq,Array.mk.injEq,Fr,Value.string.injEq,Value.int.injEq,true_and,and_true]at h;obtain⟨rfl,rfl,rfl,rfl⟩:=h
 rfl
theorem ky{x:List Rl}{y:Sl}{a:AV}(h:(Tg y,a)∈x.map Vd):∃r∈x,GO r=y∧a=.agg (Al r):=by
 obtain⟨r,h1,h2⟩:=Ak.1 h;simp only[Vd,FJ]at h2;exact⟨r,h1,kq h2.1,h2.2.symm⟩
abbrev DR(l:List Rl):Bj:=(l.filter fun r=>!r.yanked).map fun r=>(plc r.ver,plc r.ver+1)
theorem ZT(l:List Rl):(DR l).length≤l.length:=by
 unfold DR;rw[Lm];exact BD _ _
theorem kw{x:List Rl}{ps:List ByteArray}{p:ByteArray}{a:AV}(h:(Value.string p,a)∈ps.map (mc x)):a=sl Al (x.filter fun r=>decide (r.path=p)):=by
 obtain⟨q,_,h2⟩:=Ak.1 h;simp only[mc,FJ,Value.string.injEq]at h2;rw[←h2.2,h2.1]
theorem Od{acc:List ByteArray}{p:ByteArray}:(acc.any fun q=>decide (q=p))=true↔p∈acc:=by
 rw[Bb];constructor
 ·rintro⟨q,h1,h2⟩;rw[←BF h2];exact h1
 ·intro h;exact⟨p,h,by simp⟩
theorem Hc:∀(x:List Rl) (acc:List ByteArray) (p:ByteArray),p∈AQ x acc↔p∈acc∨∃r∈x,r.path=p
 | [],acc,p=>by simp[AQ]
 |r::x,acc,p=>by
  rw[AQ,Hc x];constructor
  ·rintro(h | ⟨s,h1,h2⟩)
   ·split at h
    ·exact .inl h
    ·rcases A7.1 h with h | h
     ·exact .inl h
     ·exact .inr ⟨r,Aa ..,(Am.1 h).symm⟩
   ·exact .inr ⟨s,Ae _ h1,h2⟩
  ·rintro(h | ⟨s,h1,h2⟩)
   ·left
    split
    ·exact h
    ·exact Bp _ h
   ·rcases Aq.1 h1 with rfl | h1
    ·left
     split
     ·rename_i hh;rw[←h2];exact Od.1 hh
     ·rw[←h2];exact Bk _ (Am.2 rfl)
    ·exact .inr ⟨s,h1,h2⟩
abbrev mg:T2:=⟨[],[(7,2)],[],[],[],[],[],[],[],[],[2,3,6,7,9]⟩
theorem UJ(L:List Rl)(i:Nat)(h:i<L.length):DR (L.take (i+1))=DR (L.take i)++(if L[i].yanked then []else [(plc L[i].ver,plc L[i].ver+1)]):=by
 unfold DR;rw[Bu,Ge h,El,AH]
 congr 1
 cases hy:L[i].yanked<;>simp[hy]
theorem tL(x:List Rl)(ifs:List (List AV))(p:ByteArray)(oP:lx x ifs):PC 118 [I2 x ifs,vs p] (sl Ao (B8 x p)):=by
 by_cases h0:A4 x=0
 ·have oP:PC 73 [I2 x ifs] (.tup [.agg [.cmap WR (x.map Vd),.cmap C3 ((AQ x []).map (mc x))],vi 0]):=by
   have:=oP;unfold lx ZU at this;rw[Aw h0]at this;exact this
  have Zm:=(PR h0).1;obtain⟨L,si⟩:∃L,L=x.filter fun r=>decide (r.path=p):=⟨_,rfl⟩;have hL:J8 x p=L:=by unfold J8;rw[Ah (by omega),si]
  have xp:L.length≤256:=by have:=BD (fun r:Rl=>decide (r.path=p)) x;rw[si];omega
  refine Ps mg Tryz.func118 rfl (Nz rfl) ?_;refine Yi (Nz rfl) ?_;refine Xi .pure (Xi _ (Yi (oP) ?_));refine Yi (Nz rfl) ?_;refine Xi ⟨[(1,vs p),(5,.ref 5 0)],[(5,.cells [.cmap WR (x.map Vd),.cmap C3 ((AQ x []).map (mc x))])],Ab⟩ (Yi ⟨Z2,Z1,Fh,Tv⟩ ?_)
  refine Xi ⟨[(1,vs p),(5,.ref 5 0),(7,.slice (.id 7 2) [])],[(5,.cells [.cmap WR (x.map Vd),.cmap C3 ((AQ x []).map (mc x))]),(7,.tok 2 0)],Ab⟩ (Yi ⟨Z3,Z2,Fh,Tv⟩ ?_)
  refine Yi ?_ ?_
  ·intro a ha;have ea:a=sl Al L:=by rw[si];exact kw ha
   subst ea;refine Xi {i:Nat // i≤L.length} (Xi (fun i=>⟨[(7,.slice (.id 7 2) ((DR (L.take i.1)).map Ao)),(18,sl Al L),(19,vi (L.map Al).length),(20,vi i.1)],[(7,.tok 2 ((DR (L.take i.1)).map Ao).length)],Ab⟩) (Xi (fun i=>L.length-i.1) (Yi (Xi ⟨0,AO _⟩ ?_) ?_)))
   ·exact⟨Z4,Z1,Fh,Tv⟩
   intro⟨i,i1⟩;have WP:=ZT (L.take i);rw[AJ]at WP;refine Yi ?_ ?_
   ·intro h;have h:(i:Int)<(L.map Al).length:=h;have h:i<L.length:=by simpa using h
    have hg:L[i]?=some L[i]:=Ge h;refine Xi (Al L[i]) (Yi (Yi (Nn i) (by simp[hg])) (Yi rfl ?_));refine Yi (Nz rfl) (Yi (Nz rfl) ?_);refine Xi ⟨[(7,.slice (.id 7 2) ((DR (L.take i)).map Ao)),(9,.ref 9 0),(18,sl Al L),(19,vi (L.map Al).length),(20,vi i)],[(7,.tok 2 ((DR (L.take i)).map Ao).length),(9,.cells (Al L[i]))],Ab⟩ (Yi ⟨Z5,Z2,Fh,Tv⟩ ?_)
    refine Yi ?_ ?_
    ·intro hy;have hy:L[i].yanked=true:=hy;refine Yi (Ii i (by omega)) ?_;have es:DR (L.take (i+1))=DR (L.take i):=by rw[UJ L i h,hy];simp
     have e1:AV.slice (.id 7 2) ((DR (L.take i)).map Ao)=.slice (.id 7 2) ((DR (L.take (i+1))).map Ao):=by rw[es]
     have e2:HO.tok 2 ((DR (L.take i)).map Ao).length=.tok 2 ((DR (L.take (i+1))).map Ao).length:=by rw[es]
     refine Xi ⟨i+1,by omega⟩ ?_;exact⟨Dl L.length i (by omega),⟨⟨e1,rfl⟩,Zr,Zr,Zr,Tv⟩,⟨⟨e2,rfl⟩,Tv⟩,Fh,Tv⟩
    ·intro hy;have hy:L[i].yanked=false:=hy;have uY:=kX L[i].ver;refine Xi ⟨[(7,.slice (.id 7 2) ((DR (L.take i)).map Ao)),(9,.ref 9 0),(18,sl Al L),(19,vi (L.map Al).length),(20,vi i)],[(7,.tok 2 ((DR (L.take i)).map Ao).length),(9,.cells (Al L[i]))],Ab⟩ (Yi ⟨Z5,Z2,Fh,Tv⟩ ?_)
     refine Yi (Nz rfl) ?_;refine Xi _ (Yi (xc L[i]) ?_);refine Yi (Nz rfl) ?_;refine Xi _ (Yi (xc L[i]) ?_);refine Yi (by show B2 (plc L[i].ver+1);unfold B2;omega) ?_;have Gp:Do 2 [[vi (plc L[i].ver),vi (plc L[i].ver+1)]]∧((DR (L.take i)).map Ao).length=((DR (L.take i)).map Ao).length∧(((DR (L.take i)).map Ao).length+[[vi (plc L[i].ver),vi (plc L[i].ver+1)]].length)*16≤140737488355328∧((DR (L.take i)).map Ao).length+[[vi (plc L[i].ver),vi (plc L[i].ver+1)]].length≤9223372036854775807 :=
      ⟨⟨rfl,trivial⟩,rfl,by rw[Lm,AD];omega,by rw[Lm,AD];omega⟩
     refine Yi Gp ?_;refine Yi (by kernel_rfl) ?_;refine Yi (Ii i (by omega)) ?_;have es:DR (L.take (i+1))=DR (L.take i)++[(plc L[i].ver,plc L[i].ver+1)]:=by rw[UJ L i h,hy];simp
     have e1:AV.slice (.id 7 2) ((DR (L.take i)).map Ao++[[vi (plc L[i].ver),vi (plc L[i].ver+1)]])=.slice (.id 7 2) ((DR (L.take (i+1))).map Ao):=by rw[es,AH];rfl
     have e2:HO.tok 2 (((DR (L.take i)).map Ao).length+[[vi (plc L[i].ver),vi (plc L[i].ver+1)]].length)=.tok 2 ((DR (L.take (i+1))).map Ao).length:=by rw[es,AH,Ad];rfl
     refine Xi ⟨i+1,by omega⟩ ?_;exact⟨Dl L.length i (by omega),⟨⟨e1,rfl⟩,Zr,Zr,Zr,Tv⟩,⟨⟨e2,rfl⟩,Tv⟩,Fh,Tv⟩
   ·intro h;have h:¬(i:Int)<(L.map Al).length:=h;have h:¬i<L.length:=by simpa using h
    have et:L.take i=L:=AT (by omega);refine Xi ⟨[(7,.slice (.id 7 2) ((DR (L.take i)).map Ao))],[(7,.tok 2 ((DR (L.take i)).map Ao).length)],Ab⟩ (Yi ⟨Z1,Z1,Fh,Tv⟩ ?_)
    have hc:PC 148 [sl Ao (DR (L.take i))] (sl Ao (canon (DR (L.take i)))):=W8 _ (by unfold Cm;omega);refine Xi .pure (Xi _ (Yi (hc) ?_));exact .of_eq (show sl Ao (canon (DR (L.take i)))=sl Ao (B8 x p) by rw[et];unfold B8;rw[hL])
  ·intro hn;have hL:J8 x p=[]:=by
    rw[hL,si,Hf];intro r hr he;have he:=BF he;exact hn _ (Ak.2 ⟨p,(Hc x [] p).2 (.inr ⟨r,hr,he⟩),rfl⟩)
   refine Xi Unit (Xi (fun _=>⟨[(7,.slice (.id 7 2) []),(19,vi 0),(20,vi 0)],[(7,.tok 2 0)],Ab⟩) (Xi (fun _=>0) (Yi (Xi () ?_) ?_)))
   ·exact⟨Z3,Z1,Fh,Tv⟩
   intro _;refine Yi ?_ ?_
   ·intro h;exact absurd (show(0:Int)<0 from h) (by decide)
   intro _;refine Xi ⟨[(7,.slice (.id 7 2) [])],[(7,.tok 2 0)],Ab⟩ (Yi ⟨Z1,Z1,Fh,Tv⟩ ?_)
   have hc:PC 148 [sl Ao []] (sl Ao (canon [])):=W8 [] (by unfold Cm;simp);refine Xi .pure (Xi _ (Yi (hc) ?_));exact .of_eq (show sl Ao (canon [])=sl Ao (B8 x p) by unfold B8;rw[hL];rfl)
 ·have oP:PC 73 [I2 x ifs] (.tup [.agg [.cmap WR [],.cmap C3 []],vi (A4 x)]):=by
   have:=oP;unfold lx ZU at this;rw[Ah h0]at this;exact this
  have hL:J8 x p=[]:=by unfold J8;rw[Aw h0]
  refine Ps mg Tryz.func118 rfl (Nz rfl) ?_;refine Yi (Nz rfl) ?_;refine Xi .pure (Xi _ (Yi (oP) ?_));refine Yi (Nz rfl) ?_;refine Xi ⟨[(1,vs p),(5,.ref 5 0)],[(5,.cells [.cmap WR [],.cmap C3 []])],Ab⟩ (Yi ⟨Z2,Z1,Fh,Tv⟩ ?_)
  refine Xi ⟨[(1,vs p),(5,.ref 5 0),(7,.slice (.id 7 2) [])],[(5,.cells [.cmap WR [],.cmap C3 []]),(7,.tok 2 0)],Ab⟩ (Yi ⟨Z3,Z2,Fh,Tv⟩ ?_)
  refine Yi ?_ ?_
  ·intro a ha;cases ha
  ·intro _;refine Xi Unit (Xi (fun _=>⟨[(7,.slice (.id 7 2) []),(19,vi 0),(20,vi 0)],[(7,.tok 2 0)],Ab⟩) (Xi (fun _=>0) (Yi (Xi () ?_) ?_)))
   ·exact⟨Z3,Z1,Fh,Tv⟩
   intro _;refine Yi ?_ ?_
   ·intro h;exact absurd (show(0:Int)<0 from h) (by decide)
   intro _;refine Xi ⟨[(7,.slice (.id 7 2) [])],[(7,.tok 2 0)],Ab⟩ (Yi ⟨Z1,Z1,Fh,Tv⟩ ?_)
   have hc:PC 148 [sl Ao []] (sl Ao (canon [])):=W8 [] (by unfold Cm;simp);refine Xi .pure (Xi _ (Yi (hc) ?_));exact .of_eq (show sl Ao (canon [])=sl Ao (B8 x p) by unfold B8;rw[hL];rfl)
theorem RZ(x:List Rl)(p:ByteArray):Cm (B8 x p):=by
 unfold B8 Cm
 have:=HW (Cp (((J8 x p).filter fun r=>!r.yanked).map fun r=>(plc r.ver,plc r.ver+1)));omega
end Go.Eng
