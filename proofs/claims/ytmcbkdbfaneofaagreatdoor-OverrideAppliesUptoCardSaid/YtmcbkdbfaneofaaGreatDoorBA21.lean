/- Lemmas for the claims of this seat, without a condition: part 21 (C39, LayStr, C40, C41, C42, C43, C44, C45, C46, C47, C48, C49, C50, C51, C52, C53, C54, C55). -/
import Derived.Test.YtmcbkdbfaneofaaGreatDoorBA20
import Derived.Shelf.Strings.SplitShaped
import Derived.Shelf.Strings.LastIndexAll
import Derived.Shelf.Strings.Search3
import Derived.Shelf.Small.Wraps
import Derived.Ground.NamesProg
import Derived.Lib.LastIndexLaws
namespace Go.Eng
open Go.Proofs
abbrev vc(c:UInt8):AV:=.v (.int .u8 c.toNat)
theorem V9(a:UInt8)(n:Nat)(h:n<256):decide (UInt8.ofNat n≤a)=decide ((n:Int)≤(a.toNat:Int)):=by
 rw[BZ,Ay,Ay,LO,show(UInt8.ofNat n).toNat=n by simp;omega];omega
theorem V8(a:UInt8)(n:Nat)(h:n<256):decide (a≤UInt8.ofNat n)=decide ((a.toNat:Int)≤(n:Int)):=by
 rw[BZ,Ay,Ay,LO,show(UInt8.ofNat n).toNat=n by simp;omega];omega
theorem ot(c:UInt8):PC 143 [vc c] (vb (EH c)):=by
 refine Ps EY Tryz.func143 rfl (Nz rfl) ?_;have e1:decide ((97:UInt8)≤c)=decide ((97:Int)≤(c.toNat:Int)):=V9 c 97 (by decide);have e2:decide (c≤(122:UInt8))=decide ((c.toNat:Int)≤(122:Int)):=V8 c 122 (by decide);have es:EH c=(decide ((97:Int)≤(c.toNat:Int))&&decide ((c.toNat:Int)≤(122:Int))):=by unfold EH;rw[e1,e2]
 refine Yi ?_ ?_
 ·intro h;have h:(97:Int)≤(c.toNat:Int):=h;refine Yi ?_ ?_
  ·intro h2;have h2:(c.toNat:Int)≤122:=h2;exact .of_eq (Aa vb (show true=EH c by rw[es,At h,At h2];rfl))
  ·intro h2;have h2:¬(c.toNat:Int)≤122:=h2;exact .of_eq (Aa vb (show false=EH c by rw[es,Aj h2,Cz]))
 ·intro h;have h:¬(97:Int)≤(c.toNat:Int):=h;exact .of_eq (Aa vb (show false=EH c by rw[es,Aj h];rfl))
theorem ov(c:UInt8):PC 144 [vc c] (vb (CK c)):=by
 refine Ps EY Tryz.func144 rfl (Nz rfl) ?_;have e1:decide ((48:UInt8)≤c)=decide ((48:Int)≤(c.toNat:Int)):=V9 c 48 (by decide);have e2:decide (c≤(57:UInt8))=decide ((c.toNat:Int)≤(57:Int)):=V8 c 57 (by decide);have es:CK c=(decide ((48:Int)≤(c.toNat:Int))&&decide ((c.toNat:Int)≤(57:Int))):=by unfold CK;rw[e1,e2]
 refine Yi ?_ ?_
 ·intro h;have h:(48:Int)≤(c.toNat:Int):=h;refine Yi ?_ ?_
  ·intro h2;have h2:(c.toNat:Int)≤57:=h2;exact .of_eq (Aa vb (show true=CK c by rw[es,At h,At h2];rfl))
  ·intro h2;have h2:¬(c.toNat:Int)≤57:=h2;exact .of_eq (Aa vb (show false=CK c by rw[es,Aj h2,Cz]))
 ·intro h;have h:¬(48:Int)≤(c.toNat:Int):=h;exact .of_eq (Aa vb (show false=CK c by rw[es,Aj h];rfl))
theorem vS(c:UInt8):PC 221 [vc c] (vb (Mh c)):=by
 refine Ps EY Tryz.func221 rfl (Nz rfl) ?_;have e1:decide ((65:UInt8)≤c)=decide ((65:Int)≤(c.toNat:Int)):=V9 c 65 (by decide);have e2:decide (c≤(90:UInt8))=decide ((c.toNat:Int)≤(90:Int)):=V8 c 90 (by decide);have es:Mh c=(decide ((65:Int)≤(c.toNat:Int))&&decide ((c.toNat:Int)≤(90:Int))):=by unfold Mh;rw[e1,e2]
 refine Yi ?_ ?_
 ·intro h;have h:(65:Int)≤(c.toNat:Int):=h;refine Yi ?_ ?_
  ·intro h2;have h2:(c.toNat:Int)≤90:=h2;exact .of_eq (Aa vb (show true=Mh c by rw[es,At h,At h2];rfl))
  ·intro h2;have h2:¬(c.toNat:Int)≤90:=h2;exact .of_eq (Aa vb (show false=Mh c by rw[es,Aj h2,Cz]))
 ·intro h;have h:¬(65:Int)≤(c.toNat:Int):=h;exact .of_eq (Aa vb (show false=Mh c by rw[es,Aj h];rfl))
abbrev NC(c:UInt8):Bool:=EH c||CK c
theorem vH(c:UInt8):PC 142 [vc c] (vb (NC c)):=by
 have h1:=ot c;have h2:=ov c;rcases Bt (EH c)with e | e
 ·rw[e]at h1;refine Ps EY Tryz.func142 rfl (Nz rfl) ?_;refine Xi .pure (Xi _ (Yi (h1) ?_));exact .of_eq (Aa vb (show true=NC c by unfold NC;rw[e];rfl))
 ·rw[e]at h1;refine Ps EY Tryz.func142 rfl (Nz rfl) ?_;refine Xi .pure (Xi _ (Yi (h1) ?_));refine Xi .pure (Xi _ (Yi (h2) ?_));exact .of_eq (Aa vb (show CK c=NC c by unfold NC;rw[e];rfl))
theorem vN(c:UInt8):PC 187 [vc c] (vb (F2 c)):=by
 have h1:=ot c;have h2:=vS c;have h3:=ov c;have ew:F2 c=(EH c||Mh c||CK c||decide (c=95)):=rfl;rcases Bt (EH c)with e | e
 ·rw[e]at h1;refine Ps EY Tryz.func187 rfl (Nz rfl) ?_;refine Xi .pure (Xi _ (Yi (h1) ?_));exact .of_eq (Aa vb (show true=F2 c by rw[ew,e];rfl))
 rw[e]at h1;rcases Bt (Mh c)with e2 | e2
 ·rw[e2]at h2;refine Ps EY Tryz.func187 rfl (Nz rfl) ?_;refine Xi .pure (Xi _ (Yi (h1) ?_));refine Xi .pure (Xi _ (Yi (h2) ?_));exact .of_eq (Aa vb (show true=F2 c by rw[ew,e,e2];rfl))
 rw[e2]at h2;rcases Bt (CK c)with e3 | e3
 ·rw[e3]at h3;refine Ps EY Tryz.func187 rfl (Nz rfl) ?_;refine Xi .pure (Xi _ (Yi (h1) ?_));refine Xi .pure (Xi _ (Yi (h2) ?_));refine Xi .pure (Xi _ (Yi (h3) ?_));exact .of_eq (Aa vb (show true=F2 c by rw[ew,e,e2,e3];rfl))
 rw[e3]at h3;refine Ps EY Tryz.func187 rfl (Nz rfl) ?_;refine Xi .pure (Xi _ (Yi (h1) ?_));refine Xi .pure (Xi _ (Yi (h2) ?_));refine Xi .pure (Xi _ (Yi (h3) ?_));have eb:decide (c=95)=decide ((c.toNat:Int)=95):=by
  rw[BZ,Ay,Ay];constructor
  ·intro h;subst h;rfl
  ·intro h;exact Gv.1 (by show c.toNat=95;omega)
 refine Yi ?_ ?_
 ·intro h;have h:(c.toNat:Int)=95:=h;exact .of_eq (Aa vb (show true=F2 c by rw[ew,e,e2,e3,eb,At h];rfl))
 ·intro h;have h:¬(c.toNat:Int)=95:=h;exact .of_eq (Aa vb (show false=F2 c by rw[ew,e,e2,e3,eb,Aj h];rfl))
theorem MZ(s:ByteArray)(i:Nat)(h:i<s.data.toList.length):s.data[i]?=some s.data.toList[i]:=by
 rw[←AR];exact Ge h
theorem oq(s:ByteArray)(f:Nat)(q:UInt8→Bool)(hf:∀c,PC f [vc c] (vb (q c)))(hs:s.data.toList.length<4611686018427387904):PC 141 [vs s,.v (UP f)] (vb (s.data.toList.all q)):=by
 have El:s.size=s.data.toList.length:=by simp
 refine Ps EY Tryz.func141 rfl (Nz rfl) ?_;refine Xi {i:Nat // i≤s.data.toList.length∧∀j (hj:j<s.data.toList.length),j<i→q s.data.toList[j]=true} (Xi (fun i=>⟨[(0,vs s),(1,.v (UP f)),(7,vi s.size),(8,vi i.1)],[],Ab⟩) (Xi (fun i=>s.data.toList.length-i.1) (Yi (Xi ⟨0,AF _,fun j _ h=>by omega⟩ ?_) ?_)))
 ·exact⟨Z4,Tv,Fh,Tv⟩
 intro⟨i,h1,h2⟩;refine Yi ?_ ?_
 ·intro h;have h:(i:Int)<(s.size:Nat):=h;have h:i<s.data.toList.length:=by omega
  refine Xi s.data.toList[i] (Yi ⟨by show(0:Int)≤i;omega,by show s.data[((i:Nat):Int).toNat]?=_;rw[Bl];exact MZ s i h⟩ ?_);have hc:=hf s.data.toList[i];refine Bp (Bt (q s.data.toList[i])) (fun e=>?_) (fun e=>?_)
  ·rw[e]at hc;refine Xi .pure (Xi _ (Yi (hc) ?_));refine Yi (Ii i (by omega)) ?_;refine Xi ⟨i+1,by omega,fun j hj GF=>?_⟩ ?_
   ·rcases Cv j i with z | z
    ·exact h2 j hj z
    ·have:j=i:=by omega
     subst this;exact e
   ·exact⟨Dl s.data.toList.length i (by omega),Z4,Tv,Fh,Tv⟩
  ·rw[e]at hc;refine Xi .pure (Xi _ (Yi (hc) ?_));have er:s.data.toList.all q=false:=by
    rw[AD];intro ha
    have:=AS.1 ha _ (Ak h)
    rw[e]at this;cases this
   exact .of_eq (Aa vb er.symm)
 ·intro h;have h:¬(i:Int)<(s.size:Nat):=h;have er:s.data.toList.all q=true:=AS.2 fun c hc=>by
   obtain⟨j,hj,rfl⟩:=B9 hc;exact h2 j hj (by omega)
  exact .of_eq (Aa vb er.symm)
end Go.Eng
namespace Go.Proofs
open Go.Shelf
def Tryz.laySplit_ren:Go.Shelf.Ren:=⟨fun | 146=>138 | 221=>185 | 268=>217 | 138=>218 | 143=>219 | 195=>241 | 197=>242 | 218=>243 | 219=>244 | 260=>260 | 217=>261 | 225=>262 | 224=>263 | 267=>264 | 266=>278 | 314=>279 | n=>n,fun | 9=>9 | 31=>129 | 3=>3 | 4=>4 | 0=>0 | 105=>274 | 21=>21 | 5=>5 | 46=>185 | 119=>295 | 139=>298 | 138=>297 | 146=>233 | 51=>220 | n=>n,fun | 1=>0 | 3=>1 | 4=>2 | n=>n⟩
theorem Tryz.laySplit:Go.Proofs.Lays.n146 Tryz.prog Tryz.laySplit_ren:={
 mixed:=by kernel_rfl
 f138:=Tryz.func218.trans (congrArg some (by kernel_rfl))
 f143:=Tryz.func219.trans (congrArg some (by kernel_rfl))
 f146:=Tryz.func138.trans (congrArg some (by kernel_rfl))
 f195:=Tryz.func241.trans (congrArg some (by kernel_rfl))
 f197:=Tryz.func242.trans (congrArg some (by kernel_rfl))
 f217:=Tryz.func261.trans (congrArg some (by kernel_rfl))
 f218:=Tryz.func243.trans (congrArg some (by kernel_rfl))
 f219:=Tryz.func244.trans (congrArg some (by kernel_rfl))
 f221:=Tryz.func185.trans (congrArg some (by kernel_rfl))
 f224:=Tryz.func263.trans (congrArg some (by kernel_rfl))
 f225:=Tryz.func262.trans (congrArg some (by kernel_rfl))
 f260:=Tryz.func260.trans (congrArg some (by kernel_rfl))
 f266:=Tryz.func278.trans (congrArg some (by kernel_rfl))
 f267:=Tryz.func264.trans (congrArg some (by kernel_rfl))
 f268:=Tryz.func217.trans (congrArg some (by kernel_rfl))
 f314:=Tryz.func279.trans (congrArg some (by kernel_rfl))
 t0:=Tryz.underlying0
 a0:=Tryz.isAgg0
 z0:=Tryz.sizeOf0
 v0:=Tryz.zeroValue0
 t3:=Tryz.underlying3
 a3:=Tryz.isAgg3
 z3:=Tryz.sizeOf3
 v3:=Tryz.zeroValue3
 t4:=Tryz.underlying4
 a4:=Tryz.isAgg4
 z4:=Tryz.sizeOf4
 v4:=Tryz.zeroValue4
 t5:=Tryz.underlying5
 a5:=Tryz.isAgg5
 z5:=Tryz.sizeOf5
 v5:=Tryz.zeroValue5
 t9:=Tryz.underlying9
 a9:=Tryz.isAgg9
 z9:=Tryz.sizeOf9
 v9:=Tryz.zeroValue9
 t21:=Tryz.underlying21
 a21:=Tryz.isAgg21
 z21:=Tryz.sizeOf21
 v21:=Tryz.zeroValue21
 t31:=Tryz.underlying129
 a31:=Tryz.isAgg129
 z31:=Tryz.sizeOf129
 v31:=Tryz.zeroValue129
 t46:=Tryz.underlying185
 a46:=Tryz.isAgg185
 z46:=Tryz.sizeOf185
 v46:=Tryz.zeroValue185
 t51:=Tryz.underlying220
 a51:=Tryz.isAgg220
 z51:=Tryz.sizeOf220
 v51:=Tryz.zeroValue220
 t105:=Tryz.underlying274
 a105:=Tryz.isAgg274
 z105:=Tryz.sizeOf274
 v105:=Tryz.zeroValue274
 t119:=Tryz.underlying295
 a119:=Tryz.isAgg295
 z119:=Tryz.sizeOf295
 t138:=Tryz.underlying297
 a138:=Tryz.isAgg297
 z138:=Tryz.sizeOf297
 v138:=Tryz.zeroValue297
 t139:=Tryz.underlying298
 a139:=Tryz.isAgg298
 z139:=Tryz.sizeOf298
 v139:=Tryz.zeroValue298
 t146:=Tryz.underlying233
 a146:=Tryz.isAgg233
 z146:=Tryz.sizeOf233
 v146:=Tryz.zeroValue233
 g1:=by kernel_rfl
 g3:=by kernel_rfl
 g4:=by kernel_rfl }
def Tryz.layLast_ren:Go.Shelf.Ren:=⟨fun | 148=>115 | 222=>145 | 223=>146 | 269=>189 | n=>n,fun | 9=>9 | 3=>3 | 4=>4 | 5=>5 | 146=>233 | 51=>220 | 46=>185 | n=>n,fun | n=>n⟩
theorem Tryz.layLast:Go.Proofs.Lays.n148 Tryz.prog Tryz.layLast_ren:={
 mixed:=by kernel_rfl
 f148:=Tryz.func115.trans (congrArg some (by kernel_rfl))
 f222:=Tryz.func145.trans (congrArg some (by kernel_rfl))
 f223:=Tryz.func146.trans (congrArg some (by kernel_rfl))
 f269:=Tryz.func189.trans (congrArg some (by kernel_rfl))
 t3:=Tryz.underlying3
 a3:=Tryz.isAgg3
 z3:=Tryz.sizeOf3
 v3:=Tryz.zeroValue3
 t4:=Tryz.underlying4
 a4:=Tryz.isAgg4
 z4:=Tryz.sizeOf4
 v4:=Tryz.zeroValue4
 t5:=Tryz.underlying5
 a5:=Tryz.isAgg5
 z5:=Tryz.sizeOf5
 v5:=Tryz.zeroValue5
 t9:=Tryz.underlying9
 a9:=Tryz.isAgg9
 z9:=Tryz.sizeOf9
 v9:=Tryz.zeroValue9
 t46:=Tryz.underlying185
 a46:=Tryz.isAgg185
 z46:=Tryz.sizeOf185
 v46:=Tryz.zeroValue185
 t51:=Tryz.underlying220
 a51:=Tryz.isAgg220
 z51:=Tryz.sizeOf220
 v51:=Tryz.zeroValue220
 t146:=Tryz.underlying233
 a146:=Tryz.isAgg233
 z146:=Tryz.sizeOf233
 v146:=Tryz.zeroValue233 }
def Tryz.layCut_ren:Go.Shelf.Ren:=⟨fun | 103=>186 | 210=>220 | 206=>245 | n=>n,fun | 9=>9 | 4=>4 | 24=>231 | 3=>3 | n=>n,fun | n=>n⟩
theorem Tryz.layCut:Go.Proofs.Lays.n103 Tryz.prog Tryz.layCut_ren:={
 mixed:=by kernel_rfl
 f103:=Tryz.func186.trans (congrArg some (by kernel_rfl))
 f206:=Tryz.func245.trans (congrArg some (by kernel_rfl))
 f210:=Tryz.func220.trans (congrArg some (by kernel_rfl))
 t3:=Tryz.underlying3
 a3:=Tryz.isAgg3
 z3:=Tryz.sizeOf3
 v3:=Tryz.zeroValue3
 t4:=Tryz.underlying4
 a4:=Tryz.isAgg4
 z4:=Tryz.sizeOf4
 v4:=Tryz.zeroValue4
 t9:=Tryz.underlying9
 a9:=Tryz.isAgg9
 z9:=Tryz.sizeOf9
 v9:=Tryz.zeroValue9
 t24:=Tryz.underlying231
 a24:=Tryz.isAgg231
 z24:=Tryz.sizeOf231
 v24:=Tryz.zeroValue231 }
def Tryz.layCont_ren:Go.Shelf.Ren:=⟨fun | 144=>222 | 143=>219 | 219=>244 | 217=>261 | 225=>262 | 224=>263 | 267=>264 | 266=>278 | 314=>279 | n=>n,fun | 9=>9 | 4=>4 | 3=>3 | 5=>5 | 46=>185 | 146=>233 | 51=>220 | n=>n,fun | 1=>0 | n=>n⟩
theorem Tryz.layCont:Go.Proofs.Lays.n144 Tryz.prog Tryz.layCont_ren:={
 mixed:=by kernel_rfl
 f143:=Tryz.func219.trans (congrArg some (by kernel_rfl))
 f144:=Tryz.func222.trans (congrArg some (by kernel_rfl))
 f217:=Tryz.func261.trans (congrArg some (by kernel_rfl))
 f219:=Tryz.func244.trans (congrArg some (by kernel_rfl))
 f224:=Tryz.func263.trans (congrArg some (by kernel_rfl))
 f225:=Tryz.func262.trans (congrArg some (by kernel_rfl))
 f266:=Tryz.func278.trans (congrArg some (by kernel_rfl))
 f267:=Tryz.func264.trans (congrArg some (by kernel_rfl))
 f314:=Tryz.func279.trans (congrArg some (by kernel_rfl))
 t3:=Tryz.underlying3
 a3:=Tryz.isAgg3
 z3:=Tryz.sizeOf3
 v3:=Tryz.zeroValue3
 t4:=Tryz.underlying4
 a4:=Tryz.isAgg4
 z4:=Tryz.sizeOf4
 v4:=Tryz.zeroValue4
 t5:=Tryz.underlying5
 a5:=Tryz.isAgg5
 z5:=Tryz.sizeOf5
 v5:=Tryz.zeroValue5
 t9:=Tryz.underlying9
 a9:=Tryz.isAgg9
 z9:=Tryz.sizeOf9
 v9:=Tryz.zeroValue9
 t46:=Tryz.underlying185
 a46:=Tryz.isAgg185
 z46:=Tryz.sizeOf185
 v46:=Tryz.zeroValue185
 t51:=Tryz.underlying220
 a51:=Tryz.isAgg220
 z51:=Tryz.sizeOf220
 v51:=Tryz.zeroValue220
 t146:=Tryz.underlying233
 a146:=Tryz.isAgg233
 z146:=Tryz.sizeOf233
 v146:=Tryz.zeroValue233
 g1:=by kernel_rfl }
end Go.Proofs
namespace Go.Eng
open Go.Proofs
abbrev Zt:ByteArray:=⟨#[47]⟩
abbrev BL(s:ByteArray):List ByteArray:=Go.Lib.splitB Zt 0 (Go.Lib.countB s Zt) s
theorem PL(s:ByteArray):(BL s).map (·.data.toList)=CQ 47 s.data.toList:=eI s 47
abbrev EI(s:ByteArray):List AV:=[vs s]
theorem rg(s:ByteArray)(hs:E7 s):PC 138 [vs s,vs Zt] (sl EI (BL s)):=by
 unfold E7 at hs;have h:=dW (P:=Tryz.prog) (f:=138) (args:=[vs s,vs Zt]) [.string s,.string Zt] ((BL s).map Value.string) 9 (ff 138 Tryz.func138 (by kernel_rfl) rfl) rfl (fun x hx=>by
  obtain⟨y,_,rfl⟩:=Ao.1 hx;rfl) (fun w hm=>by
  obtain⟨m,hm⟩:=hm;have hl:(BL s).length=Go.Lib.countB s Zt+1:=Go.Lib.splitB_all Zt (by decide) 0 _ s rfl;refine(Any.strings_Split Tryz.laySplit (by kernel_rfl) s Zt m w (by omega) hm (by decide)).mono ?_
  rintro e w' ⟨rfl,rfl⟩
  exact⟨by rw[Lm,hl],rfl⟩)
 rw[BU]at h;exact h
theorem vz(s p:ByteArray)(hs:E7 s):PC 115 [vs s,vs p] (vi (Go.Lib.lastIndex s.data.toList p.data.toList)):=by
 unfold E7 at hs;exact LG [.string s,.string p] (.int .i64 (Go.Lib.lastIndex s.data.toList p.data.toList)) (ff 115 Tryz.func115 (by kernel_rfl) rfl) rfl (fun g w=>.v _ _) fun w _=>Any.strings_LastIndex Tryz.layLast s p (by omega) w
theorem vM(s p:ByteArray):PC 186 [vs s,vs p] (.tup [vs ⟨(Go.Lib.trimPrefix s.data.toList p.data.toList).toArray⟩,vb (Go.Lib.hasPrefix s.data.toList p.data.toList)]):=by
 exact LG [.string s,.string p] _ (ff 186 Tryz.func186 (by kernel_rfl) rfl) rfl (fun g w=>jC [.string ⟨(Go.Lib.trimPrefix s.data.toList p.data.toList).toArray⟩,.bool (Go.Lib.hasPrefix s.data.toList p.data.toList)]) fun w _=>Any.strings_CutPrefix Tryz.layCut s p w
theorem vT(s p:ByteArray)(hs:E7 s):PC 222 [vs s,vs p] (vb (Go.Lib.contains s.data.toList p.data.toList)):=by
 unfold E7 at hs;exact LG [.string s,.string p] (.bool (Go.Lib.contains s.data.toList p.data.toList)) (ff 222 Tryz.func222 (by kernel_rfl) rfl) rfl (fun g w=>.v _ _) fun w hm=>by
  obtain⟨m,hm⟩:=hm;exact Any.strings_Contains Tryz.layCont s p m w (by omega) hm
theorem bO:∀x y:List UInt8,Ny x y=x.isPrefixOf y
 | [],_=>by simp[Ny]
 |_::_,[]=>rfl
 |a::x,b::y=>by
  rw[Ny,List.isPrefixOf_cons_cons,bO x y]
  rfl
theorem ir(x:List UInt8):∀y:List UInt8,iq x y=Go.Lib.contains y x
 | []=>by
  unfold Go.Lib.contains Go.Lib.index;cases x<;>rfl
 |b::y=>by
  rw[iq,bO,ir x y];unfold Go.Lib.contains;have hg:=Go.Lib.index_ge y x
  conv=>rhs;unfold Go.Lib.index
  cases h:x.isPrefixOf (b::y)with
  |true=>simp
  |false =>
   simp only[Jz,Df,Gd]
   by_cases h0:Go.Lib.index y x=-1
   ·rw[h0];rfl
   ·have h1:(Go.Lib.index y x == -1)=false:=by simpa using h0
    rw[h1];simp only[Df,Gd];rw[At (by omega),At (by omega)]
theorem Oc:∀(l:List UInt8) (h:0<l.length),l.headD 0=l[0]
 | [],h=>by simp at h
 |_::_,_=>rfl
abbrev nw:ByteArray:=⟨⟨aa⟩⟩
theorem vO(s:ByteArray)(hs:E7 s):PC 188 [vs s] (vb (UY s.data.toList)):=by
 unfold E7 at hs;have hc:=vT nw ((⟨#[32]⟩++s)++⟨#[32]⟩) (Ig (by kernel_rfl));have e:Go.Lib.contains nw.data.toList ((⟨#[32]⟩++s:ByteArray)++⟨#[32]⟩).data.toList=UY s.data.toList:=by
  unfold UY;rw[ir]
  congr 1
 rw[e]at hc;refine Ps EY Tryz.func188 rfl (Nz rfl) ?_;refine Yi (by show(((1+s.size:Nat)):Int)≤_;omega) ?_;refine Yi (by show(((⟨#[32]⟩++s:ByteArray).size+1:Nat):Int)≤_;rw[ByteArray.size_append];show(((1+s.size)+1:Nat):Int)≤_;omega) ?_;refine Xi .pure (Xi _ (Yi (hc) ?_));exact .refl _
theorem vG(s:ByteArray)(hs:E7 s):PC 140 [vs s] (vb (Gq s.data.toList)):=by
 have hk:=vO s hs;have hw:=oq s 187 F2 vN (by unfold E7 at hs;simp;omega);have El:s.size=s.data.toList.length:=by simp
 have en:Gq s.data.toList=(!s.data.toList.isEmpty&&decide (s.data.toList.length≤32)&&EH (s.data.toList.headD 0)&&s.data.toList.all F2&&!UY s.data.toList):=rfl
 by_cases h0:s=⟨#[]⟩
 ·subst h0;refine Ps EY Tryz.func140 rfl (Nz rfl) ?_;refine Yi ?_ ?_
  ·intro h;exact absurd rfl (show(⟨#[]⟩:ByteArray)≠⟨#[]⟩from h)
  ·intro _;exact .refl _
 have zh : s.data.toList≠[]:=fun e=>h0 (by
  have:s.data=#[]:=by rw[←I0];exact e
  cases s;simp_all)
 have CF:0<s.data.toList.length:=G2.2 zh;have Qx:s.data.toList.isEmpty=false:=by
  cases hl:s.data.toList with
  |nil=>exact absurd hl zh
  |cons a l=>rfl
 have zG:s.data.toList.headD 0=s.data.toList[0]:=Oc _ CF;have fm:=ot s.data.toList[0];refine Ps EY Tryz.func140 rfl (Nz rfl) ?_;refine Yi ?_ ?_
 rotate_left
 ·intro h;exact absurd h0 h
 intro _;refine Yi ?_ ?_
 rotate_left
 ·intro h;have h:¬((s.size:Nat):Int)≤32:=h;exact .of_eq (Aa vb (show false=Gq s.data.toList by rw[en,Aj (by omega:¬s.data.toList.length≤32)];simp))
 intro h;have h:((s.size:Nat):Int)≤32:=h;refine Xi s.data.toList[0] (Yi ⟨AZ _,MZ s 0 CF⟩ ?_);refine Bp (Bt (EH s.data.toList[0])) (fun e1=>?_) (fun e1=>?_)
 rotate_left
 ·rw[e1]at fm;refine Xi .pure (Xi _ (Yi (fm) ?_));exact .of_eq (Aa vb (show false=Gq s.data.toList by rw[en,zG,e1];simp))
 rw[e1]at fm;refine Xi .pure (Xi _ (Yi (fm) ?_));refine Bp (Bt (s.data.toList.all F2)) (fun e2=>?_) (fun e2=>?_)
 rotate_left
 ·rw[e2]at hw;refine Xi .pure (Xi _ (Yi (hw) ?_));exact .of_eq (Aa vb (show false=Gq s.data.toList by rw[en,e2];simp))
 rw[e2]at hw;refine Xi .pure (Xi _ (Yi (hw) ?_));have ef:Gq s.data.toList=!UY s.data.toList:=by rw[en,Qx,zG,e1,e2,At (by omega:s.data.toList.length≤32)];rfl
 refine Bp (Bt (UY s.data.toList)) (fun e3=>?_) (fun e3=>?_)
 ·rw[e3]at hk;refine Xi .pure (Xi _ (Yi (hk) ?_));exact .of_eq (Aa vb (show false=Gq s.data.toList by rw[ef,e3];rfl))
 ·rw[e3]at hk;refine Xi .pure (Xi _ (Yi (hk) ?_));exact .of_eq (Aa vb (show true=Gq s.data.toList by rw[ef,e3];rfl))
abbrev Xh:Option Int→AV
 |some n=>.tup [vi n,vb true]
 |none=>.tup [vi 0,vb false]
theorem SC{z:Int}(h0:0≤z)(h1:z<256):IntKind.u8.wrap z=z:=by
 show z % 256=z;omega
theorem Jr{c:UInt8}(h:CK c=true):48≤c.toNat∧c.toNat≤57:=by
 unfold CK at h;simp only[Ai,Ay]at h;exact⟨LO.1 h.1,LO.1 h.2⟩
theorem K6(r:List UInt8)(i:Nat)(h:i<r.length):D3 (r.take (i+1))=10*D3 (r.take i)+((r[i].toNat:Int)-48):=by
 unfold D3;rw[BA,Ge h,KD];rfl
theorem vF(s:ByteArray)(hs:E7 s):PC 139 [vs s] (Xh (Gp s.data.toList)):=by
 unfold E7 at hs;have hc:=vM s ⟨#[118]⟩
 by_cases hp:∃r,s.data.toList=118::r
 ·obtain⟨r,hr⟩:=hp;have e1:Go.Lib.hasPrefix s.data.toList (⟨#[118]⟩:ByteArray).data.toList=true:=by rw[hr];rfl
  have e2:Go.Lib.trimPrefix s.data.toList (⟨#[118]⟩:ByteArray).data.toList=r:=by unfold Go.Lib.trimPrefix;rw[e1,Au rfl,hr];rfl
  rw[e1,e2]at hc;have hv:Gp s.data.toList=if(r.isEmpty||decide (3<r.length)||(decide (1<r.length)&&decide (r.headD 0=48))||!r.all CK)=true then none else some (D3 r):=by rw[hr];rfl
  have WU:r.length<s.size:=by
   have:s.size=s.data.toList.length:=by simp
   rw[this,hr];simp
  generalize hB:(⟨r.toArray⟩:ByteArray)=rB at hc;have gH:rB.data.toList=r:=by rw[←hB]
  have rF:rB.size=r.length:=by rw[←hB];rfl
  have hw:=oq rB 144 CK ov (by rw[gH];omega);rw[gH]at hw;have no:∀{b:Bool},b=true→(if b=true then none else some (D3 r))=(none:Option Int):=fun h=>Au h;refine Ps (Ip [2,4]) Tryz.func139 rfl (Nz rfl) ?_;refine Xi .pure (Xi _ (Yi (hc) ?_));refine Xi ⟨[(0,vs rB),(4,vb true)],[],Ab⟩ (Yi ⟨Z2,Tv,Fh,Tv⟩ ?_)
  refine Yi ?_ ?_
  ·intro h;have h:rB=⟨#[]⟩:=h
   have:r=[]:=by rw[←gH,h]
   exact .of_eq (Aa Xh (show(none:Option Int)=Gp s.data.toList by rw[hv,this];rfl))
  intro h;have h:¬rB=⟨#[]⟩:=h;have DM:r≠[]:=fun e=>h (by rw[←hB,e]);have CF:0<r.length:=G2.2 DM;have Qx:r.isEmpty=false:=by
   cases hl:r with
   |nil=>exact absurd hl DM
   |cons a l=>rfl
  refine Yi ?_ ?_
  ·intro h2;have h2:(3:Int)<((rB.size:Nat):Int):=h2;exact .of_eq (Aa Xh (show(none:Option Int)=Gp s.data.toList by rw[hv,no];rw[At (by omega:3<r.length)];simp))
  intro h2;have h2:¬(3:Int)<((rB.size:Nat):Int):=h2;have si:r.length≤3:=by omega
  have d3:decide (3<r.length)=false:=Aj (by omega);refine Yi ?_ ?_
  ·intro h3;have h3:(1:Int)<((rB.size:Nat):Int):=h3;have wz:rB.data[(0:Int).toNat]?=some r[0]:=by
    show rB.data[0]?=_;rw[←AR,gH];exact Ge CF
   refine Xi r[0] (Yi ⟨AZ _,wz⟩ ?_);have hh:=Oc r CF;refine Yi ?_ ?_
   ·intro h4;have h4:(r[0].toNat:Int)=48:=h4
    have:r[0]=48:=Gv.1 (by show r[0].toNat=48;omega)
    exact .of_eq (Aa Xh (show(none:Option Int)=Gp s.data.toList by rw[hv,hh,this,At (by omega:1<r.length)];simp))
   intro h4;have h4:¬(r[0].toNat:Int)=48:=h4;have eo:(decide (1<r.length)&&decide (r.headD 0=48))=false:=by rw[hh,Aj (show ¬r[0]=48 from fun e=>h4 (by rw[e];rfl)),Cz]
   have sL:Gp s.data.toList=if(!r.all CK)=true then none else some (D3 r):=by rw[hv,Qx,d3,eo];rfl
   refine Bp (Bt (r.all CK)) (fun e3=>?_) (fun e3=>?_)
   rotate_left
   ·rw[e3]at hw;refine Xi .pure (Xi _ (Yi (hw) ?_));exact .of_eq (Aa Xh (show(none:Option Int)=Gp s.data.toList by rw[sL,e3];rfl))
   rw[e3]at hw;refine Xi .pure (Xi _ (Yi (hw) ?_));have xu:Gp s.data.toList=some (D3 r):=by rw[sL,e3];rfl
   refine Xi ⟨[(0,vs rB)],[],Ab⟩ (Yi ⟨Z1,Tv,Fh,Tv⟩ ?_)
   have z0:D3 (r.take 0)=0:=rfl;refine Xi {i:Nat // i≤r.length∧0≤D3 (r.take i)∧(i=0→D3 (r.take i)≤0)∧(i≤1→D3 (r.take i)≤9)∧(i≤2→D3 (r.take i)≤99)∧D3 (r.take i)≤999} (Xi (fun i=>⟨[(0,vs rB),(5,vi (D3 (r.take i.1))),(39,vi rB.size),(40,vi i.1)],[],Ab⟩) (Xi (fun i=>r.length-i.1) (Yi (Xi ⟨0,AF _,by omega,fun _=>by omega,fun _=>by omega,fun _=>by omega,by omega⟩ ?_) ?_)))
   ·exact⟨Z4,Tv,Fh,Tv⟩
   intro⟨i,i1,i2,i3,i4,i5,i6⟩;refine Yi ?_ ?_
   ·intro h;have h:(i:Int)<(rB.size:Nat):=h;have h:i<r.length:=by omega
    have wL:CK r[i]=true:=AS.1 e3 _ (Ak h);have m7:=Jr wL;have kl:=K6 r i h;have Yn:IntKind.u8.wrap ((r[i].toNat:Int)-48)=(r[i].toNat:Int)-48:=SC (by omega) (by omega);have RZ:rB.data[((i:Nat):Int).toNat]?=some r[i]:=by rw[Bl,←AR,gH];exact Ge h
    refine Yi (by show Bs (10*D3 (r.take i));unfold Bs;omega) ?_;refine Xi r[i] (Yi ⟨by show(0:Int)≤i;omega,RZ⟩ ?_);refine Yi (by show Bs (IntKind.u8.wrap ((r[i].toNat:Int)-48));rw[Yn];unfold Bs;omega) ?_;refine Yi (by show Bs (10*D3 (r.take i)+IntKind.u8.wrap ((r[i].toNat:Int)-48));rw[Yn];unfold Bs;omega) ?_;refine Yi (Ii i (by omega)) ?_;have e5:vi (10*D3 (r.take i)+IntKind.u8.wrap ((r[i].toNat:Int)-48))=vi (D3 (r.take (i+1))):=by rw[Yn,kl]
    refine Xi ⟨i+1,by omega,by omega,fun _=>by omega,fun _=>by omega,fun _=>by omega,by omega⟩ ?_;exact⟨Dl r.length i (by omega),⟨Zr,⟨e5,rfl⟩,Zr,Zr,Tv⟩,Tv,Fh,Tv⟩
   ·intro h;have h:¬(i:Int)<(rB.size:Nat):=h;have e6:AV.tup [vi (D3 (r.take i)),vb true]=Xh (Gp s.data.toList):=by rw[xu,AL (by omega)]
    exact .of_eq e6
  ·intro h3;have h3:¬(1:Int)<((rB.size:Nat):Int):=h3;have eo:(decide (1<r.length)&&decide (r.headD 0=48))=false:=by rw[Aj (by omega:¬1<r.length)];rfl
   have sL:Gp s.data.toList=if(!r.all CK)=true then none else some (D3 r):=by rw[hv,Qx,d3,eo];rfl
   refine Bp (Bt (r.all CK)) (fun e3=>?_) (fun e3=>?_)
   rotate_left
   ·rw[e3]at hw;refine Xi .pure (Xi _ (Yi (hw) ?_));exact .of_eq (Aa Xh (show(none:Option Int)=Gp s.data.toList by rw[sL,e3];rfl))
   rw[e3]at hw;refine Xi .pure (Xi _ (Yi (hw) ?_));have xu:Gp s.data.toList=some (D3 r):=by rw[sL,e3];rfl
   refine Xi ⟨[(0,vs rB)],[],Ab⟩ (Yi ⟨Z1,Tv,Fh,Tv⟩ ?_)
   have z0:D3 (r.take 0)=0:=rfl;refine Xi {i:Nat // i≤r.length∧0≤D3 (r.take i)∧(i=0→D3 (r.take i)≤0)∧(i≤1→D3 (r.take i)≤9)∧(i≤2→D3 (r.take i)≤99)∧D3 (r.take i)≤999} (Xi (fun i=>⟨[(0,vs rB),(5,vi (D3 (r.take i.1))),(39,vi rB.size),(40,vi i.1)],[],Ab⟩) (Xi (fun i=>r.length-i.1) (Yi (Xi ⟨0,AF _,by omega,fun _=>by omega,fun _=>by omega,fun _=>by omega,by omega⟩ ?_) ?_)))
   ·exact⟨Z4,Tv,Fh,Tv⟩
   intro⟨i,i1,i2,i3,i4,i5,i6⟩;refine Yi ?_ ?_
   ·intro h;have h:(i:Int)<(rB.size:Nat):=h;have h:i<r.length:=by omega
    have wL:CK r[i]=true:=AS.1 e3 _ (Ak h);have m7:=Jr wL;have kl:=K6 r i h;have Yn:IntKind.u8.wrap ((r[i].toNat:Int)-48)=(r[i].toNat:Int)-48:=SC (by omega) (by omega);have RZ:rB.data[((i:Nat):Int).toNat]?=some r[i]:=by rw[Bl,←AR,gH];exact Ge h
    refine Yi (by show Bs (10*D3 (r.take i));unfold Bs;omega) ?_;refine Xi r[i] (Yi ⟨by show(0:Int)≤i;omega,RZ⟩ ?_);refine Yi (by show Bs (IntKind.u8.wrap ((r[i].toNat:Int)-48));rw[Yn];unfold Bs;omega) ?_;refine Yi (by show Bs (10*D3 (r.take i)+IntKind.u8.wrap ((r[i].toNat:Int)-48));rw[Yn];unfold Bs;omega) ?_;refine Yi (Ii i (by omega)) ?_;have e5:vi (10*D3 (r.take i)+IntKind.u8.wrap ((r[i].toNat:Int)-48))=vi (D3 (r.take (i+1))):=by rw[Yn,kl]
    refine Xi ⟨i+1,by omega,by omega,fun _=>by omega,fun _=>by omega,fun _=>by omega,by omega⟩ ?_;exact⟨Dl r.length i (by omega),⟨Zr,⟨e5,rfl⟩,Zr,Zr,Tv⟩,Tv,Fh,Tv⟩
   ·intro h;have h:¬(i:Int)<(rB.size:Nat):=h;have e6:AV.tup [vi (D3 (r.take i)),vb true]=Xh (Gp s.data.toList):=by rw[xu,AL (by omega)]
    exact .of_eq e6
 ·have e1:Go.Lib.hasPrefix s.data.toList (⟨#[118]⟩:ByteArray).data.toList=false:=by
   cases hl:s.data.toList with
   |nil=>rfl
   |cons a l =>
    have:a≠118:=fun e=>hp ⟨l,by rw[hl,e]⟩
    show(List.isPrefixOf [118] (a::l))=false;rw[List.isPrefixOf_cons_cons]
    have:((118:UInt8) == a)=false:=by rw[beq_eq_false_iff_ne];exact fun e=>this e.symm
    rw[this];rfl
  have hv:Gp s.data.toList=none:=by
   cases hl:s.data.toList with
   |nil=>rfl
   |cons a l =>
    have:a≠118:=fun e=>hp ⟨l,by rw[hl,e]⟩
    show(if a=118 then _ else none)=none;rw[Al this]
  rw[e1]at hc;refine Ps EY Tryz.func139 rfl (Nz rfl) ?_;refine Xi .pure (Xi _ (Yi (hc) ?_));exact .of_eq (Aa Xh hv.symm)
abbrev QH:Option Int→AV
 |some n=>.tup [vi n,vi 0]
 |none=>.tup [vi 0,vi 4]
theorem LK(c:UInt8):∀(s x:List UInt8),x∈CQ c s→x.length≤s.length
 | [],x,h=>by
  rw[CQ]at h;rw[As.1 h];exact Am _
 |b::r,x,h=>by
  have ih:=LK c r;rw[CQ]at h;split at h
  ·rcases AC.1 h with rfl | h
   ·exact AF _
   ·have:=ih x h;rw[Av];omega
  ·split at h
   ·rw[As.1 h];rw[Av];simp
   ·rename_i y l e;rcases AC.1 h with rfl | h
    ·have:=ih y (by rw[e];exact Ac ..);rw[Av,Av];omega
    ·have:=ih x (by rw[e];exact Ah _ h);rw[Av];omega
theorem jj{p x:ByteArray}(hp:E7 p)(hx:x∈BL p):E7 x:=by
 have h:x.data.toList∈CQ 47 p.data.toList:=by rw[←PL];exact Ao.2 ⟨x,hx,rfl⟩
 have:=LK 47 _ _ h
 unfold E7 at *
 have e1:x.size=x.data.toList.length:=by simp
 have e2:p.size=p.data.toList.length:=by simp
 omega
theorem dU(p:ByteArray):(BL p).length=(CQ 47 p.data.toList).length:=by rw[←PL,Lm]
theorem dV(p:ByteArray):0<(BL p).length:=by
 rw[show(BL p).length=Go.Lib.countB p Zt+1 from Go.Lib.splitB_all Zt (by decide) 0 _ p rfl];omega
theorem dT(p:ByteArray):(BL p).length≤p.size+1:=by
 rw[show(BL p).length=Go.Lib.countB p Zt+1 from Go.Lib.splitB_all Zt (by decide) 0 _ p rfl]
 have:=Go.Lib.countB_le Zt (by decide) p.size p (Am _);omega
theorem ax(p:ByteArray)(h:(BL p).length-1<(BL p).length):(CQ 47 p.data.toList).getLastD []=((BL p)[(BL p).length-1]).data.toList:=by
 rw[←PL,List.getLastD_eq_getLast?,List.getLast?_eq_getElem?,Lm,AJ,Ge h];rfl
theorem dS(p:ByteArray):(CQ 47 p.data.toList).all Hc=(BL p).all fun x=>Hc x.data.toList:=by
 rw[←PL,List.all_map];rfl
theorem rc(p:ByteArray)(hp:E7 p):PC 113 [vs p] (QH (Bh p)):=by
 have xg:=dT p;have ZX:=dV p;have xd:(BL p).length-1<(BL p).length:=by omega
 have El:p.size=p.data.toList.length:=by simp
 have zD:∀{x},x∈BL p→E7 x:=fun h=>jj hp h;unfold E7 at hp;have Sp:((BL p).map EI)[((((BL p).map EI).length:Int)-1).toNat]?=some (EI (BL p)[(BL p).length-1]):=by
  rw[Lm,show(((BL p).length:Int)-1).toNat=(BL p).length-1 by omega];exact B3 (Ge xd)
 have hv:=vF (BL p)[(BL p).length-1] (zD (Ak xd));have em:Bh p=match Gp ((BL p)[(BL p).length-1]).data.toList with
  |none=>none
  |some n=>if(decide (64<p.data.toList.length)||decide ((BL p).length<2))=true then none else if((BL p).all fun x=>Hc x.data.toList)=true then some n else none:=by
  unfold Bh QI;rw[ax p xd,dS,←dU];cases Gp ((BL p)[(BL p).length-1]).data.toList with
  |none=>rfl
  |some n=>rfl
 cases hve:Gp ((BL p)[(BL p).length-1]).data.toList with
 |none =>
  rw[hve]at hv em;refine Ps (Ip [2,3]) Tryz.func113 rfl (Nz rfl) ?_;refine Xi .pure (Xi _ (Yi (rg p hp) ?_));refine Xi ⟨[(0,vs p),(4,sl EI (BL p))],[],Ab⟩ (Yi ⟨Z2,Tv,Fh,Tv⟩ ?_)
  refine Yi (by show Bs ((((BL p).map EI).length:Int)-1);unfold Bs;rw[Lm];omega) ?_;refine Xi (EI (BL p)[(BL p).length-1]) (Yi (Yi (by show(0:Int)≤(((BL p).map EI).length:Int)-1;rw[Lm];omega) Sp) (Yi rfl ?_));refine Xi .pure (Xi _ (Yi (hv) ?_));refine Xi ⟨[(0,vs p),(4,sl EI (BL p)),(5,vi 0),(6,vb false)],[],Ab⟩ (Yi ⟨Z4,Tv,Fh,Tv⟩ ?_)
  exact .of_eq (Aa QH em.symm)
 |some n =>
  rw[hve]at hv em;have em:Bh p=if(decide (64<p.data.toList.length)||decide ((BL p).length<2))=true then none else if((BL p).all fun x=>Hc x.data.toList)=true then some n else none:=em
  refine Ps (Ip [2,3,5]) Tryz.func113 rfl (Nz rfl) ?_;refine Xi .pure (Xi _ (Yi (rg p hp) ?_));refine Xi ⟨[(0,vs p),(4,sl EI (BL p))],[],Ab⟩ (Yi ⟨Z2,Tv,Fh,Tv⟩ ?_)
  refine Yi (by show Bs ((((BL p).map EI).length:Int)-1);unfold Bs;rw[Lm];omega) ?_;refine Xi (EI (BL p)[(BL p).length-1]) (Yi (Yi (by show(0:Int)≤(((BL p).map EI).length:Int)-1;rw[Lm];omega) Sp) (Yi rfl ?_));refine Xi .pure (Xi _ (Yi (hv) ?_));refine Xi ⟨[(0,vs p),(4,sl EI (BL p)),(5,vi n),(6,vb true)],[],Ab⟩ (Yi ⟨Z4,Tv,Fh,Tv⟩ ?_)
  refine Yi ?_ ?_
  ·intro h;have h:(64:Int)<((p.size:Nat):Int):=h;exact .of_eq (Aa QH (show(none:Option Int)=Bh p by rw[em,At (by omega:64<p.data.toList.length)];rfl))
  intro h;have h:¬(64:Int)<((p.size:Nat):Int):=h;have d1:decide (64<p.data.toList.length)=false:=Aj (by omega);refine Yi ?_ ?_
  ·intro h2;have h2:(((BL p).map EI).length:Int)<2:=h2;rw[Lm]at h2;exact .of_eq (Aa QH (show(none:Option Int)=Bh p by rw[em,d1,At (by omega:(BL p).length<2)];rfl))
  intro h2;have h2:¬(((BL p).map EI).length:Int)<2:=h2;have d2:decide ((BL p).length<2)=false:=Aj (by rw[Lm]at h2;omega);have zf:Bh p=if((BL p).all fun x=>Hc x.data.toList)=true then some n else none:=by rw[em,d1,d2];rfl
  refine Xi ⟨[(4,sl EI (BL p)),(5,vi n)],[],Ab⟩ (Yi ⟨Z2,Tv,Fh,Tv⟩ ?_)
  refine Xi {i:Nat // i≤(BL p).length∧∀j (hj:j<(BL p).length),j<i→Hc ((BL p)[j]).data.toList=true} (Xi (fun i=>⟨[(5,vi n),(33,sl EI (BL p)),(34,vi ((BL p).map EI).length),(35,vi i.1)],[],Ab⟩) (Xi (fun i=>(BL p).length-i.1) (Yi (Xi ⟨0,AF _,fun j _ h=>by omega⟩ ?_) ?_)))
  ·exact⟨Z4,Tv,Fh,Tv⟩
  intro⟨i,i1,i2⟩;refine Yi ?_ ?_
  ·intro h;have h:(i:Int)<((BL p).map EI).length:=h;have h:i<(BL p).length:=by simpa using h
   have hg:(BL p)[i]?=some (BL p)[i]:=Ge h;refine Xi (EI (BL p)[i]) (Yi (Yi (Nn i) (by simp[hg])) (Yi rfl ?_));have zB:=zD (Ak h);have hn:=vG (BL p)[i] zB;have ha:=oq (BL p)[i] 142 NC vH (by unfold E7 at zB;have e1:(BL p)[i].size=(BL p)[i].data.toList.length:=(by simp);omega);have no:Hc ((BL p)[i]).data.toList=false→(none:Option Int)=Bh p:=fun e=>by
    rw[zf,Al];intro Fm
    have:=AS.1 Fm _ (Ak h)
    rw[e]at this;cases this
   refine Bp (Bt (Gq ((BL p)[i]).data.toList)) (fun e1=>?_) (fun e1=>?_)
   rotate_left
   ·rw[e1]at hn;refine Xi .pure (Xi _ (Yi (hn) ?_));exact .of_eq (Aa QH (no (by unfold Hc;rw[e1];rfl)))
   rw[e1]at hn;refine Xi .pure (Xi _ (Yi (hn) ?_));refine Bp (Bt (((BL p)[i]).data.toList.all NC)) (fun e2=>?_) (fun e2=>?_)
   rotate_left
   ·rw[e2]at ha;refine Xi .pure (Xi _ (Yi (ha) ?_));exact .of_eq (Aa QH (no (by unfold Hc;rw[e1];exact e2)))
   rw[e2]at ha;refine Xi .pure (Xi _ (Yi (ha) ?_));refine Yi (Ii i (by omega)) ?_;refine Xi ⟨i+1,by omega,fun j hj GF=>?_⟩ ?_
   ·rcases Cv j i with z | z
    ·exact i2 j hj z
    ·have:j=i:=by omega
     subst this;unfold Hc;rw[e1];exact e2
   ·exact⟨by show(BL p).length-(i+1)<(BL p).length-i;omega,Z4,Tv,Fh,Tv⟩
  ·intro h;have h:¬(i:Int)<((BL p).map EI).length:=h;have h:¬i<(BL p).length:=by simpa using h
   have e:some n=Bh p:=by
    rw[zf,Au];exact AS.2 fun x hx=>by
     obtain⟨j,hj,rfl⟩:=B9 hx;exact i2 j hj (by omega)
   exact .of_eq (Aa QH e)
theorem vw(p:ByteArray)(hp:E7 p):PC 114 [vs p] (vb (Bh p).isSome):=by
 have hc:=rc p hp;cases h:Bh p with
 |none =>
  rw[h]at hc;refine Ps EY Tryz.func114 rfl (Nz rfl) ?_;refine Xi .pure (Xi _ (Yi (hc) ?_));refine Yi ?_ ?_
  ·intro h;exact absurd (show(4:Int)=0 from h) (by decide)
  ·intro _;exact .refl _
 |some n =>
  rw[h]at hc;refine Ps EY Tryz.func114 rfl (Nz rfl) ?_;refine Xi .pure (Xi _ (Yi (hc) ?_));refine Yi ?_ ?_
  ·intro _;exact .refl _
  ·intro h;exact absurd rfl h
theorem OD(c:UInt8):∀s:List UInt8,2≤(CQ c s).length→c∈s
 | [],h=>by rw[CQ]at h;simp at h
 |b::r,h=>by
  rw[CQ]at h
  by_cases e:b=c
  ·exact e▸Ac ..
  ·rw[Al e]at h;refine Ah _ (OD c r ?_);cases hs:CQ c r with
   |nil=>rw[hs]at h;simp at h
   |cons x l=>rw[hs]at h;simpa using h
theorem iB{p:ByteArray}{m:Int}(h:Bh p=some m):0≤Go.Lib.lastIndex p.data.toList [47]∧Go.Lib.lastIndex p.data.toList [47]≤p.size:=by
 have h2:2≤(CQ 47 p.data.toList).length:=by
  unfold Bh QI at h;split at h
  ·cases h
  ·split at h
   ·cases h
   ·rename_i hn;simp only[CG,Ay]at hn;omega
 have hm:=OD 47 _ h2;obtain⟨i,hi,e⟩:=B9 hm;have El:p.size=p.data.toList.length:=by simp
 unfold Go.Lib.lastIndex;rw[Au (by simp only[Aq];omega)];have w9:Go.Lib.occAt p.data.toList [47] i=true:=by
  unfold Go.Lib.occAt;rw[Bd hi,e];simp
 rcases Go.Lib.lastOcc_spec p.data.toList [47] (p.data.toList.length - [(47:UInt8)].length+1)with ⟨_,h3⟩ | ⟨j,h3,h4,_⟩
 ·have:=h3 i (by simp only[Aq];omega)
  rw[w9]at this;cases this
 ·rw[h4];simp only[Aq]at h3;omega
abbrev QF(p:ByteArray):ByteArray:=p.extract 0 (Go.Lib.lastIndex p.data.toList [47]).toNat
theorem Zw:UI QF:=by
 intro p hp;have hc:=rc p hp;have hi:=vw p hp;unfold MC;cases h:Bh p with
 |none =>
  rw[h]at hc hi;refine Ps EY Tryz.func91 rfl (Nz rfl) ?_;refine Xi .pure (Xi _ (Yi (hc) ?_));refine Xi .pure (Xi _ (Yi (hi) ?_));exact .refl _
 |some n =>
  rw[h]at hc hi;obtain⟨l1,l2⟩:=iB h;have hl:PC 115 [vs p,vs Zt] (vi (Go.Lib.lastIndex p.data.toList [47])):=vz p Zt hp;refine Ps EY Tryz.func91 rfl (Nz rfl) ?_;refine Xi .pure (Xi _ (Yi (hc) ?_));refine Xi .pure (Xi _ (Yi (hi) ?_));refine Yi ?_ ?_
  ·intro h;exact absurd rfl h
  intro _;refine Xi .pure (Xi _ (Yi (hl) ?_));refine Yi ⟨AZ _,l1,l2⟩ ?_;exact .refl _
theorem PO{l:List Rq}(h:Bx l=0):l.length≤16:=by
 unfold Bx at h;split at h
 ·cases h
 ·omega
theorem QB{x:List Rl}(h:A6 x=0):x.length≤256∧∀r∈x,r.reqs.length≤16:=by
 have h1:x.length≤256:=by
  unfold A6 at h;split at h
  ·cases h
  ·omega
 exact⟨h1,fun r hr=>PO ((CO h).1 r hr).reqs⟩
theorem gq{x:List Rl}(h:∀r∈x,r.reqs.length≤16):((x.map (·.reqs)).flatten).length≤x.length*16:=by
 induction x with
 |nil=>simp
 |cons r x ih =>
  rw[AQ,BI,Ad,Av]
  have:=h r (Ac ..)
  have:=ih fun s hs=>h s (Ah _ hs)
  omega
theorem aA{x:List Rl}{roots:List Rq}{l:List Nf}(h1:A6 x=0)(h2:Bx roots=0)(h3:l.length≤65536):(KA x roots l).length≤100000:=by
 obtain⟨a,b⟩:=QB h1
 have:=gq b
 have:=PO h2
 unfold KA;simp only[Ad,Lm];omega
theorem U7.fewI{U:List ByteArray}{t:List Tm}(h:U7 U t)(hu:U.length≤100000):nL t :=
 ⟨by have:=h.len;omega,fun u hu=>Pg (h.1.canon u hu)⟩
abbrev M8(x:List Rl)(ifs:List (List AV)):AV:=.agg (Ic x ifs)
abbrev Xq:EU:=⟨true,[.str,.int .i64,.int .i64,.int .i64]⟩
abbrev TZ(y:Sl):Value:=.agg #[.string y.path,.int .i64 y.ver.a,.int .i64 y.ver.b,.int .i64 y.ver.c]
abbrev VL(r:Rl):Value×AV:=(TZ (Gf r),.agg (Ag r))
def AU:List Rl→List ByteArray→List ByteArray
 | [],acc=>acc
 |r::x,acc=>AU x (if acc.any (fun p=>decide (p=r.path))then acc else acc++[r.path])
abbrev nA(x:List Rl)(p:ByteArray):Value×AV:=(.string p,sl Ag (x.filter fun r=>decide (r.path=p)))
abbrev aN(x:List Rl):AV:=if A6 x=0 then .tup [.agg [.cmap Xq (x.map VL),.cmap Dn ((AU x []).map (nA x))],vi 0]else .tup [.agg [.cmap Xq [],.cmap Dn []],vi (A6 x)]
abbrev mQ(x:List Rl)(ifs:List (List AV)):Prop:=PC 73 [M8 x ifs] (aN x)
theorem lO{y z:Sl}(h:TZ y=TZ z):y=z:=by
 obtain⟨p,⟨a,b,c⟩⟩:=y;obtain⟨q,⟨d,e,f⟩⟩:=z;simp only[TZ,Value.agg.injEq,Array.mk.injEq,FJ,Value.string.injEq,Value.int.injEq,true_and,and_true]at h;obtain⟨rfl,rfl,rfl,rfl⟩:=h
 rfl
theorem lU{x:List Rl}{y:Sl}{a:AV}(h:(TZ y,a)∈x.map VL):∃r∈x,Gf r=y∧a=.agg (Ag r):=by
 obtain⟨r,h1,h2⟩:=Ao.1 h;simp only[VL,F4]at h2;exact⟨r,h1,lO h2.1,h2.2.symm⟩
abbrev DY(l:List Rl):Bc:=(l.filter fun r=>!r.yanked).map fun r=>(plc r.ver,plc r.ver+1)
theorem aM(l:List Rl):(DY l).length≤l.length:=by
 unfold DY;rw[Lm];exact BE _ _
theorem lS{x:List Rl}{ps:List ByteArray}{p:ByteArray}{a:AV}(h:(Value.string p,a)∈ps.map (nA x)):a=sl Ag (x.filter fun r=>decide (r.path=p)):=by
 obtain⟨q,_,h2⟩:=Ao.1 h;simp only[nA,F4,Value.string.injEq]at h2;rw[←h2.2,h2.1]
theorem OS{acc:List ByteArray}{p:ByteArray}:(acc.any fun q=>decide (q=p))=true↔p∈acc:=by
 rw[A8];constructor
 ·rintro⟨q,h1,h2⟩;rw[←BC h2];exact h1
 ·intro h;exact⟨p,h,by simp⟩
theorem HB:∀(x:List Rl) (acc:List ByteArray) (p:ByteArray),p∈AU x acc↔p∈acc∨∃r∈x,r.path=p
 | [],acc,p=>by simp[AU]
 |r::x,acc,p=>by
  rw[AU,HB x];constructor
  ·rintro(h | ⟨s,h1,h2⟩)
   ·split at h
    ·exact .inl h
    ·rcases Ba.1 h with h | h
     ·exact .inl h
     ·exact .inr ⟨r,Ac ..,(As.1 h).symm⟩
   ·exact .inr ⟨s,Ah _ h1,h2⟩
  ·rintro(h | ⟨s,h1,h2⟩)
   ·left
    split
    ·exact h
    ·exact Bz _ h
   ·rcases AC.1 h1 with rfl | h1
    ·left
     split
     ·rename_i hh;rw[←h2];exact OS.1 hh
     ·rw[←h2];exact Bq _ (As.2 rfl)
    ·exact .inr ⟨s,h1,h2⟩
abbrev nE:Si:=⟨[],[(7,2)],[],[],[],[],[],[],[],[],[2,3,6,7,9]⟩
theorem Vi(L:List Rl)(i:Nat)(h:i<L.length):DY (L.take (i+1))=DY (L.take i)++(if L[i].yanked then []else [(plc L[i].ver,plc L[i].ver+1)]):=by
 unfold DY;rw[BA,Ge h,DA,AG]
 congr 1
 cases hy:L[i].yanked<;>simp[hy]
theorem vC(x:List Rl)(ifs:List (List AV))(p:ByteArray)(qe:mQ x ifs):PC 118 [M8 x ifs,vs p] (sl Af (Cg x p)):=by
 by_cases h0:A6 x=0
 ·have qe:PC 73 [M8 x ifs] (.tup [.agg [.cmap Xq (x.map VL),.cmap Dn ((AU x []).map (nA x))],vi 0]):=by
   have:=qe;unfold mQ aN at this;rw[Au h0]at this;exact this
  have il:=(QB h0).1;obtain⟨L,t8⟩:∃L,L=x.filter fun r=>decide (r.path=p):=⟨_,rfl⟩;have hL:Ky x p=L:=by unfold Ky;rw[Al (by omega),t8]
  have zo:L.length≤256:=by have:=BE (fun r:Rl=>decide (r.path=p)) x;rw[t8];omega
  refine Ps nE Tryz.func118 rfl (Nz rfl) ?_;refine Yi (Nz rfl) ?_;refine Xi .pure (Xi _ (Yi (qe) ?_));refine Yi (Nz rfl) ?_;refine Xi ⟨[(1,vs p),(5,.ref 5 0)],[(5,.cells [.cmap Xq (x.map VL),.cmap Dn ((AU x []).map (nA x))])],Ab⟩ (Yi ⟨Z2,Z1,Fh,Tv⟩ ?_)
  refine Xi ⟨[(1,vs p),(5,.ref 5 0),(7,.slice (.id 7 2) [])],[(5,.cells [.cmap Xq (x.map VL),.cmap Dn ((AU x []).map (nA x))]),(7,.tok 2 0)],Ab⟩ (Yi ⟨Z3,Z2,Fh,Tv⟩ ?_)
  refine Yi ?_ ?_
  ·intro a ha;have ea:a=sl Ag L:=by rw[t8];exact lS ha
   subst ea;refine Xi {i:Nat // i≤L.length} (Xi (fun i=>⟨[(7,.slice (.id 7 2) ((DY (L.take i.1)).map Af)),(18,sl Ag L),(19,vi (L.map Ag).length),(20,vi i.1)],[(7,.tok 2 ((DY (L.take i.1)).map Af).length)],Ab⟩) (Xi (fun i=>L.length-i.1) (Yi (Xi ⟨0,AF _⟩ ?_) ?_)))
   ·exact⟨Z4,Z1,Fh,Tv⟩
   intro⟨i,i1⟩;have WV:=aM (L.take i);rw[AH]at WV;refine Yi ?_ ?_
   ·intro h;have h:(i:Int)<(L.map Ag).length:=h;have h:i<L.length:=by simpa using h
    have hg:L[i]?=some L[i]:=Ge h;refine Xi (Ag L[i]) (Yi (Yi (Nn i) (by simp[hg])) (Yi rfl ?_));refine Yi (Nz rfl) (Yi (Nz rfl) ?_);refine Xi ⟨[(7,.slice (.id 7 2) ((DY (L.take i)).map Af)),(9,.ref 9 0),(18,sl Ag L),(19,vi (L.map Ag).length),(20,vi i)],[(7,.tok 2 ((DY (L.take i)).map Af).length),(9,.cells (Ag L[i]))],Ab⟩ (Yi ⟨Z5,Z2,Fh,Tv⟩ ?_)
    refine Yi ?_ ?_
    ·intro hy;have hy:L[i].yanked=true:=hy;refine Yi (Ii i (by omega)) ?_;have es:DY (L.take (i+1))=DY (L.take i):=by rw[Vi L i h,hy];simp
     have e1:AV.slice (.id 7 2) ((DY (L.take i)).map Af)=.slice (.id 7 2) ((DY (L.take (i+1))).map Af):=by rw[es]
     have e2:HO.tok 2 ((DY (L.take i)).map Af).length=.tok 2 ((DY (L.take (i+1))).map Af).length:=by rw[es]
     refine Xi ⟨i+1,by omega⟩ ?_;exact⟨Dl L.length i (by omega),⟨⟨e1,rfl⟩,Zr,Zr,Zr,Tv⟩,⟨⟨e2,rfl⟩,Tv⟩,Fh,Tv⟩
    ·intro hy;have hy:L[i].yanked=false:=hy;have sx:=mr L[i].ver;refine Xi ⟨[(7,.slice (.id 7 2) ((DY (L.take i)).map Af)),(9,.ref 9 0),(18,sl Ag L),(19,vi (L.map Ag).length),(20,vi i)],[(7,.tok 2 ((DY (L.take i)).map Af).length),(9,.cells (Ag L[i]))],Ab⟩ (Yi ⟨Z5,Z2,Fh,Tv⟩ ?_)
     refine Yi (Nz rfl) ?_;refine Xi _ (Yi (za L[i]) ?_);refine Yi (Nz rfl) ?_;refine Xi _ (Yi (za L[i]) ?_);refine Yi (by show Bs (plc L[i].ver+1);unfold Bs;omega) ?_;have F3:Da 2 [[vi (plc L[i].ver),vi (plc L[i].ver+1)]]∧((DY (L.take i)).map Af).length=((DY (L.take i)).map Af).length∧(((DY (L.take i)).map Af).length+[[vi (plc L[i].ver),vi (plc L[i].ver+1)]].length)*16≤140737488355328∧((DY (L.take i)).map Af).length+[[vi (plc L[i].ver),vi (plc L[i].ver+1)]].length≤9223372036854775807 :=
      ⟨⟨rfl,trivial⟩,rfl,by rw[Lm,Aq];omega,by rw[Lm,Aq];omega⟩
     refine Yi F3 ?_;refine Yi (by kernel_rfl) ?_;refine Yi (Ii i (by omega)) ?_;have es:DY (L.take (i+1))=DY (L.take i)++[(plc L[i].ver,plc L[i].ver+1)]:=by rw[Vi L i h,hy];simp
     have e1:AV.slice (.id 7 2) ((DY (L.take i)).map Af++[[vi (plc L[i].ver),vi (plc L[i].ver+1)]])=.slice (.id 7 2) ((DY (L.take (i+1))).map Af):=by rw[es,AG];rfl
     have e2:HO.tok 2 (((DY (L.take i)).map Af).length+[[vi (plc L[i].ver),vi (plc L[i].ver+1)]].length)=.tok 2 ((DY (L.take (i+1))).map Af).length:=by rw[es,AG,Ad];rfl
     refine Xi ⟨i+1,by omega⟩ ?_;exact⟨Dl L.length i (by omega),⟨⟨e1,rfl⟩,Zr,Zr,Zr,Tv⟩,⟨⟨e2,rfl⟩,Tv⟩,Fh,Tv⟩
   ·intro h;have h:¬(i:Int)<(L.map Ag).length:=h;have h:¬i<L.length:=by simpa using h
    have et:L.take i=L:=AL (by omega);refine Xi ⟨[(7,.slice (.id 7 2) ((DY (L.take i)).map Af))],[(7,.tok 2 ((DY (L.take i)).map Af).length)],Ab⟩ (Yi ⟨Z1,Z1,Fh,Tv⟩ ?_)
    have hc:PC 148 [sl Af (DY (L.take i))] (sl Af (canon (DY (L.take i)))):=XI _ (by unfold Ci;omega);refine Xi .pure (Xi _ (Yi (hc) ?_));exact .of_eq (show sl Af (canon (DY (L.take i)))=sl Af (Cg x p) by rw[et];unfold Cg;rw[hL])
  ·intro hn;have hL:Ky x p=[]:=by
    rw[hL,t8,HE];intro r hr he;have he:=BC he;exact hn _ (Ao.2 ⟨p,(HB x [] p).2 (.inr ⟨r,hr,he⟩),rfl⟩)
   refine Xi Unit (Xi (fun _=>⟨[(7,.slice (.id 7 2) []),(19,vi 0),(20,vi 0)],[(7,.tok 2 0)],Ab⟩) (Xi (fun _=>0) (Yi (Xi () ?_) ?_)))
   ·exact⟨Z3,Z1,Fh,Tv⟩
   intro _;refine Yi ?_ ?_
   ·intro h;exact absurd (show(0:Int)<0 from h) (by decide)
   intro _;refine Xi ⟨[(7,.slice (.id 7 2) [])],[(7,.tok 2 0)],Ab⟩ (Yi ⟨Z1,Z1,Fh,Tv⟩ ?_)
   have hc:PC 148 [sl Af []] (sl Af (canon [])):=XI [] (by unfold Ci;simp);refine Xi .pure (Xi _ (Yi (hc) ?_));exact .of_eq (show sl Af (canon [])=sl Af (Cg x p) by unfold Cg;rw[hL];rfl)
 ·have qe:PC 73 [M8 x ifs] (.tup [.agg [.cmap Xq [],.cmap Dn []],vi (A6 x)]):=by
   have:=qe;unfold mQ aN at this;rw[Al h0]at this;exact this
  have hL:Ky x p=[]:=by unfold Ky;rw[Au h0]
  refine Ps nE Tryz.func118 rfl (Nz rfl) ?_;refine Yi (Nz rfl) ?_;refine Xi .pure (Xi _ (Yi (qe) ?_));refine Yi (Nz rfl) ?_;refine Xi ⟨[(1,vs p),(5,.ref 5 0)],[(5,.cells [.cmap Xq [],.cmap Dn []])],Ab⟩ (Yi ⟨Z2,Z1,Fh,Tv⟩ ?_)
  refine Xi ⟨[(1,vs p),(5,.ref 5 0),(7,.slice (.id 7 2) [])],[(5,.cells [.cmap Xq [],.cmap Dn []]),(7,.tok 2 0)],Ab⟩ (Yi ⟨Z3,Z2,Fh,Tv⟩ ?_)
  refine Yi ?_ ?_
  ·intro a ha;cases ha
  ·intro _;refine Xi Unit (Xi (fun _=>⟨[(7,.slice (.id 7 2) []),(19,vi 0),(20,vi 0)],[(7,.tok 2 0)],Ab⟩) (Xi (fun _=>0) (Yi (Xi () ?_) ?_)))
   ·exact⟨Z3,Z1,Fh,Tv⟩
   intro _;refine Yi ?_ ?_
   ·intro h;exact absurd (show(0:Int)<0 from h) (by decide)
   intro _;refine Xi ⟨[(7,.slice (.id 7 2) [])],[(7,.tok 2 0)],Ab⟩ (Yi ⟨Z1,Z1,Fh,Tv⟩ ?_)
   have hc:PC 148 [sl Af []] (sl Af (canon [])):=XI [] (by unfold Ci;simp);refine Xi .pure (Xi _ (Yi (hc) ?_));exact .of_eq (show sl Af (canon [])=sl Af (Cg x p) by unfold Cg;rw[hL];rfl)
theorem SU(x:List Rl)(p:ByteArray):Ci (Cg x p):=by
 unfold Cg Ci
 have:=Is (Cs (((Ky x p).filter fun r=>!r.yanked).map fun r=>(plc r.ver,plc r.ver+1)));omega
end Go.Eng
