/- Lemmas for the claims of this seat, without a condition: part 20 (C39, LayStr, C40, C41, C42, C43, C44, C45, C46, C47, C48, C49, C50, C51, C52, C53, C54, C55). -/
import Derived.Test.YtmcbkdbfaneofaaGreatDoorDA19
import Derived.Shelf.Strings.SplitShaped
import Derived.Shelf.Strings.LastIndexAll
import Derived.Shelf.Strings.Search3
import Derived.Shelf.Small.Wraps
import Derived.Ground.NamesProg
import Derived.Lib.LastIndexLaws
namespace Go.Eng
open Go.Proofs
abbrev vc(c:UInt8):AV:=.v (.int .u8 c.toNat)
theorem iB(a:UInt8)(n:Nat)(h:n<256):decide (UInt8.ofNat n≤a)=decide ((n:Int)≤(a.toNat:Int)):=by
 rw[BV,AA,AA,Lh,show(UInt8.ofNat n).toNat=n by simp;omega];omega
theorem iA(a:UInt8)(n:Nat)(h:n<256):decide (a≤UInt8.ofNat n)=decide ((a.toNat:Int)≤(n:Int)):=by
 rw[BV,AA,AA,Lh,show(UInt8.ofNat n).toNat=n by simp;omega];omega
theorem mA(c:UInt8):PC 143 [vc c] (vb (G1 c)):=by
 refine Ps F7 Tryz.func143 rfl (Nz rfl) ?_;have e1:decide ((97:UInt8)≤c)=decide ((97:Int)≤(c.toNat:Int)):=iB c 97 (by decide);have e2:decide (c≤(122:UInt8))=decide ((c.toNat:Int)≤(122:Int)):=iA c 122 (by decide);have es:G1 c=(decide ((97:Int)≤(c.toNat:Int))&&decide ((c.toNat:Int)≤(122:Int))):=by unfold G1;rw[e1,e2]
 refine Yi ?_ ?_
 ·intro h;have h:(97:Int)≤(c.toNat:Int):=h;refine Yi ?_ ?_
  ·intro h2;have h2:(c.toNat:Int)≤122:=h2;exact .of_eq (Ac vb (show true=G1 c by rw[es,Aw h,Aw h2];rfl))
  ·intro h2;have h2:¬(c.toNat:Int)≤122:=h2;exact .of_eq (Ac vb (show false=G1 c by rw[es,Ap h2,DH]))
 ·intro h;have h:¬(97:Int)≤(c.toNat:Int):=h;exact .of_eq (Ac vb (show false=G1 c by rw[es,Ap h];rfl))
theorem mB(c:UInt8):PC 144 [vc c] (vb (ER c)):=by
 refine Ps F7 Tryz.func144 rfl (Nz rfl) ?_;have e1:decide ((48:UInt8)≤c)=decide ((48:Int)≤(c.toNat:Int)):=iB c 48 (by decide);have e2:decide (c≤(57:UInt8))=decide ((c.toNat:Int)≤(57:Int)):=iA c 57 (by decide);have es:ER c=(decide ((48:Int)≤(c.toNat:Int))&&decide ((c.toNat:Int)≤(57:Int))):=by unfold ER;rw[e1,e2]
 refine Yi ?_ ?_
 ·intro h;have h:(48:Int)≤(c.toNat:Int):=h;refine Yi ?_ ?_
  ·intro h2;have h2:(c.toNat:Int)≤57:=h2;exact .of_eq (Ac vb (show true=ER c by rw[es,Aw h,Aw h2];rfl))
  ·intro h2;have h2:¬(c.toNat:Int)≤57:=h2;exact .of_eq (Ac vb (show false=ER c by rw[es,Ap h2,DH]))
 ·intro h;have h:¬(48:Int)≤(c.toNat:Int):=h;exact .of_eq (Ac vb (show false=ER c by rw[es,Ap h];rfl))
theorem tA(c:UInt8):PC 221 [vc c] (vb (VF c)):=by
 refine Ps F7 Tryz.func221 rfl (Nz rfl) ?_;have e1:decide ((65:UInt8)≤c)=decide ((65:Int)≤(c.toNat:Int)):=iB c 65 (by decide);have e2:decide (c≤(90:UInt8))=decide ((c.toNat:Int)≤(90:Int)):=iA c 90 (by decide);have es:VF c=(decide ((65:Int)≤(c.toNat:Int))&&decide ((c.toNat:Int)≤(90:Int))):=by unfold VF;rw[e1,e2]
 refine Yi ?_ ?_
 ·intro h;have h:(65:Int)≤(c.toNat:Int):=h;refine Yi ?_ ?_
  ·intro h2;have h2:(c.toNat:Int)≤90:=h2;exact .of_eq (Ac vb (show true=VF c by rw[es,Aw h,Aw h2];rfl))
  ·intro h2;have h2:¬(c.toNat:Int)≤90:=h2;exact .of_eq (Ac vb (show false=VF c by rw[es,Ap h2,DH]))
 ·intro h;have h:¬(65:Int)≤(c.toNat:Int):=h;exact .of_eq (Ac vb (show false=VF c by rw[es,Ap h];rfl))
abbrev Zy(c:UInt8):Bool:=G1 c||ER c
theorem tp(c:UInt8):PC 142 [vc c] (vb (Zy c)):=by
 have h1:=mA c;have h2:=mB c;rcases Bt (G1 c)with e | e
 ·rw[e]at h1;refine Ps F7 Tryz.func142 rfl (Nz rfl) ?_;refine Xi .pure (Xi _ (Yi (h1) ?_));exact .of_eq (Ac vb (show true=Zy c by unfold Zy;rw[e];rfl))
 ·rw[e]at h1;refine Ps F7 Tryz.func142 rfl (Nz rfl) ?_;refine Xi .pure (Xi _ (Yi (h1) ?_));refine Xi .pure (Xi _ (Yi (h2) ?_));exact .of_eq (Ac vb (show ER c=Zy c by unfold Zy;rw[e];rfl))
theorem tu(c:UInt8):PC 187 [vc c] (vb (Mh c)):=by
 have h1:=mA c;have h2:=tA c;have h3:=mB c;have ew:Mh c=(G1 c||VF c||ER c||decide (c=95)):=rfl;rcases Bt (G1 c)with e | e
 ·rw[e]at h1;refine Ps F7 Tryz.func187 rfl (Nz rfl) ?_;refine Xi .pure (Xi _ (Yi (h1) ?_));exact .of_eq (Ac vb (show true=Mh c by rw[ew,e];rfl))
 rw[e]at h1;rcases Bt (VF c)with e2 | e2
 ·rw[e2]at h2;refine Ps F7 Tryz.func187 rfl (Nz rfl) ?_;refine Xi .pure (Xi _ (Yi (h1) ?_));refine Xi .pure (Xi _ (Yi (h2) ?_));exact .of_eq (Ac vb (show true=Mh c by rw[ew,e,e2];rfl))
 rw[e2]at h2;rcases Bt (ER c)with e3 | e3
 ·rw[e3]at h3;refine Ps F7 Tryz.func187 rfl (Nz rfl) ?_;refine Xi .pure (Xi _ (Yi (h1) ?_));refine Xi .pure (Xi _ (Yi (h2) ?_));refine Xi .pure (Xi _ (Yi (h3) ?_));exact .of_eq (Ac vb (show true=Mh c by rw[ew,e,e2,e3];rfl))
 rw[e3]at h3;refine Ps F7 Tryz.func187 rfl (Nz rfl) ?_;refine Xi .pure (Xi _ (Yi (h1) ?_));refine Xi .pure (Xi _ (Yi (h2) ?_));refine Xi .pure (Xi _ (Yi (h3) ?_));have eb:decide (c=95)=decide ((c.toNat:Int)=95):=by
  rw[BV,AA,AA];constructor
  ·intro h;subst h;rfl
  ·intro h;exact UInt8.toNat_inj.1 (by show c.toNat=95;omega)
 refine Yi ?_ ?_
 ·intro h;have h:(c.toNat:Int)=95:=h;exact .of_eq (Ac vb (show true=Mh c by rw[ew,e,e2,e3,eb,Aw h];rfl))
 ·intro h;have h:¬(c.toNat:Int)=95:=h;exact .of_eq (Ac vb (show false=Mh c by rw[ew,e,e2,e3,eb,Ap h];rfl))
theorem ZJ(s:ByteArray)(i:Nat)(h:i<s.data.toList.length):s.data[i]?=some s.data.toList[i]:=by
 rw[←A2];exact Ge h
theorem mz(s:ByteArray)(f:Nat)(q:UInt8→Bool)(hf:∀c,PC f [vc c] (vb (q c)))(hs:s.data.toList.length<4611686018427387904):PC 141 [vs s,.v (TZ f)] (vb (s.data.toList.all q)):=by
 have EH:s.size=s.data.toList.length:=by simp
 refine Ps F7 Tryz.func141 rfl (Nz rfl) ?_;refine Xi {i:Nat // i≤s.data.toList.length∧∀j (hj:j<s.data.toList.length),j<i→q s.data.toList[j]=true} (Xi (fun i=>⟨[(0,vs s),(1,.v (TZ f)),(7,vi s.size),(8,vi i.1)],[],Ab⟩) (Xi (fun i=>s.data.toList.length-i.1) (Yi (Xi ⟨0,AM _,fun j _ h=>by omega⟩ ?_) ?_)))
 ·exact⟨Z4,Tv,Fh,Tv⟩
 intro⟨i,h1,h2⟩;refine Yi ?_ ?_
 ·intro h;have h:(i:Int)<(s.size:Nat):=h;have h:i<s.data.toList.length:=by omega
  refine Xi s.data.toList[i] (Yi ⟨by show(0:Int)≤i;omega,by show s.data[((i:Nat):Int).toNat]?=_;rw[Ch];exact ZJ s i h⟩ ?_);have hc:=hf s.data.toList[i];refine BN (Bt (q s.data.toList[i])) (fun e=>?_) (fun e=>?_)
  ·rw[e]at hc;refine Xi .pure (Xi _ (Yi (hc) ?_));refine Yi (Ii i (by omega)) ?_;refine Xi ⟨i+1,by omega,fun j hj HL=>?_⟩ ?_
   ·rcases EF j i with z | z
    ·exact h2 j hj z
    ·have:j=i:=by omega
     subst this;exact e
   ·exact⟨Dl s.data.toList.length i (by omega),Z4,Tv,Fh,Tv⟩
  ·rw[e]at hc;refine Xi .pure (Xi _ (Yi (hc) ?_));have er:s.data.toList.all q=false:=by
    rw[AI];intro ha
    have:=Bq.1 ha _ (Ao h)
    rw[e]at this;cases this
   exact .of_eq (Ac vb er.symm)
 ·intro h;have h:¬(i:Int)<(s.size:Nat):=h;have er:s.data.toList.all q=true:=Bq.2 fun c hc=>by
   obtain⟨j,hj,rfl⟩:=FB hc;exact h2 j hj (by omega)
  exact .of_eq (Ac vb er.symm)
end Go.Eng
namespace Go.Proofs
open Go.Shelf
def Tryz.laySplit_ren:Go.Shelf.Ren:=⟨fun | 146=>138 | 221=>185 | 268=>217 | 138=>218 | 143=>219 | 195=>241 | 197=>242 | 218=>243 | 219=>244 | 260=>260 | 217=>261 | 225=>262 | 224=>263 | 267=>264 | 266=>278 | 314=>279 | n=>n,fun | 9=>9 | 31=>129 | 3=>3 | 4=>4 | 0=>0 | 105=>274 | 21=>21 | 5=>5 | 46=>185 | 119=>295 | 139=>298 | 138=>297 | 146=>233 | 51=>220 | n=>n,fun | 1=>0 | 3=>1 | 4=>2 | n=>n⟩
theorem Tryz.laySplit:Go.Proofs.Lays.n146 Tryz.prog Tryz.laySplit_ren:={
 mixed:=by kernel_rfl
 f138:=Tryz.func218.trans (congrArg some (by kernel_rfl))
 f143:=Tryz.func219.trans (congrArg some (by kernel_rfl))
 f146:=Tryz.func138.trans (congrArg some (by kernel_rfl))
 f195:=Tryz.func241.trans (congrArg some (by kernel_rfl))
 f197:=Tryz.func242.trans (congrArg some (by kernel_rfl))
 f217:=Tryz.func261.trans (congrArg some (by kernel_rfl))
 f218:=Tryz.func243.trans (congrArg some (by kernel_rfl))
 f219:=Tryz.func244.trans (congrArg some (by kernel_rfl))
 f221:=Tryz.func185.trans (congrArg some (by kernel_rfl))
 f224:=Tryz.func263.trans (congrArg some (by kernel_rfl))
 f225:=Tryz.func262.trans (congrArg some (by kernel_rfl))
 f260:=Tryz.func260.trans (congrArg some (by kernel_rfl))
 f266:=Tryz.func278.trans (congrArg some (by kernel_rfl))
 f267:=Tryz.func264.trans (congrArg some (by kernel_rfl))
 f268:=Tryz.func217.trans (congrArg some (by kernel_rfl))
 f314:=Tryz.func279.trans (congrArg some (by kernel_rfl))
 t0:=Tryz.underlying0
 a0:=Tryz.isAgg0
 z0:=Tryz.sizeOf0
 v0:=Tryz.zeroValue0
 t3:=Tryz.underlying3
 a3:=Tryz.isAgg3
 z3:=Tryz.sizeOf3
 v3:=Tryz.zeroValue3
 t4:=Tryz.underlying4
 a4:=Tryz.isAgg4
 z4:=Tryz.sizeOf4
 v4:=Tryz.zeroValue4
 t5:=Tryz.underlying5
 a5:=Tryz.isAgg5
 z5:=Tryz.sizeOf5
 v5:=Tryz.zeroValue5
 t9:=Tryz.underlying9
 a9:=Tryz.isAgg9
 z9:=Tryz.sizeOf9
 v9:=Tryz.zeroValue9
 t21:=Tryz.underlying21
 a21:=Tryz.isAgg21
 z21:=Tryz.sizeOf21
 v21:=Tryz.zeroValue21
 t31:=Tryz.underlying129
 a31:=Tryz.isAgg129
 z31:=Tryz.sizeOf129
 v31:=Tryz.zeroValue129
 t46:=Tryz.underlying185
 a46:=Tryz.isAgg185
 z46:=Tryz.sizeOf185
 v46:=Tryz.zeroValue185
 t51:=Tryz.underlying220
 a51:=Tryz.isAgg220
 z51:=Tryz.sizeOf220
 v51:=Tryz.zeroValue220
 t105:=Tryz.underlying274
 a105:=Tryz.isAgg274
 z105:=Tryz.sizeOf274
 v105:=Tryz.zeroValue274
 t119:=Tryz.underlying295
 a119:=Tryz.isAgg295
 z119:=Tryz.sizeOf295
 t138:=Tryz.underlying297
 a138:=Tryz.isAgg297
 z138:=Tryz.sizeOf297
 v138:=Tryz.zeroValue297
 t139:=Tryz.underlying298
 a139:=Tryz.isAgg298
 z139:=Tryz.sizeOf298
 v139:=Tryz.zeroValue298
 t146:=Tryz.underlying233
 a146:=Tryz.isAgg233
 z146:=Tryz.sizeOf233
 v146:=Tryz.zeroValue233
 g1:=by kernel_rfl
 g3:=by kernel_rfl
 g4:=by kernel_rfl }
def Tryz.layLast_ren:Go.Shelf.Ren:=⟨fun | 148=>115 | 222=>145 | 223=>146 | 269=>189 | n=>n,fun | 9=>9 | 3=>3 | 4=>4 | 5=>5 | 146=>233 | 51=>220 | 46=>185 | n=>n,fun | n=>n⟩
theorem Tryz.layLast:Go.Proofs.Lays.n148 Tryz.prog Tryz.layLast_ren:={
 mixed:=by kernel_rfl
 f148:=Tryz.func115.trans (congrArg some (by kernel_rfl))
 f222:=Tryz.func145.trans (congrArg some (by kernel_rfl))
 f223:=Tryz.func146.trans (congrArg some (by kernel_rfl))
 f269:=Tryz.func189.trans (congrArg some (by kernel_rfl))
 t3:=Tryz.underlying3
 a3:=Tryz.isAgg3
 z3:=Tryz.sizeOf3
 v3:=Tryz.zeroValue3
 t4:=Tryz.underlying4
 a4:=Tryz.isAgg4
 z4:=Tryz.sizeOf4
 v4:=Tryz.zeroValue4
 t5:=Tryz.underlying5
 a5:=Tryz.isAgg5
 z5:=Tryz.sizeOf5
 v5:=Tryz.zeroValue5
 t9:=Tryz.underlying9
 a9:=Tryz.isAgg9
 z9:=Tryz.sizeOf9
 v9:=Tryz.zeroValue9
 t46:=Tryz.underlying185
 a46:=Tryz.isAgg185
 z46:=Tryz.sizeOf185
 v46:=Tryz.zeroValue185
 t51:=Tryz.underlying220
 a51:=Tryz.isAgg220
 z51:=Tryz.sizeOf220
 v51:=Tryz.zeroValue220
 t146:=Tryz.underlying233
 a146:=Tryz.isAgg233
 z146:=Tryz.sizeOf233
 v146:=Tryz.zeroValue233 }
def Tryz.layCut_ren:Go.Shelf.Ren:=⟨fun | 103=>186 | 210=>220 | 206=>245 | n=>n,fun | 9=>9 | 4=>4 | 24=>231 | 3=>3 | n=>n,fun | n=>n⟩
theorem Tryz.layCut:Go.Proofs.Lays.n103 Tryz.prog Tryz.layCut_ren:={
 mixed:=by kernel_rfl
 f103:=Tryz.func186.trans (congrArg some (by kernel_rfl))
 f206:=Tryz.func245.trans (congrArg some (by kernel_rfl))
 f210:=Tryz.func220.trans (congrArg some (by kernel_rfl))
 t3:=Tryz.underlying3
 a3:=Tryz.isAgg3
 z3:=Tryz.sizeOf3
 v3:=Tryz.zeroValue3
 t4:=Tryz.underlying4
 a4:=Tryz.isAgg4
 z4:=Tryz.sizeOf4
 v4:=Tryz.zeroValue4
 t9:=Tryz.underlying9
 a9:=Tryz.isAgg9
 z9:=Tryz.sizeOf9
 v9:=Tryz.zeroValue9
 t24:=Tryz.underlying231
 a24:=Tryz.isAgg231
 z24:=Tryz.sizeOf231
 v24:=Tryz.zeroValue231 }
def Tryz.layCont_ren:Go.Shelf.Ren:=⟨fun | 144=>222 | 143=>219 | 219=>244 | 217=>261 | 225=>262 | 224=>263 | 267=>264 | 266=>278 | 314=>279 | n=>n,fun | 9=>9 | 4=>4 | 3=>3 | 5=>5 | 46=>185 | 146=>233 | 51=>220 | n=>n,fun | 1=>0 | n=>n⟩
theorem Tryz.layCont:Go.Proofs.Lays.n144 Tryz.prog Tryz.layCont_ren:={
 mixed:=by kernel_rfl
 f143:=Tryz.func219.trans (congrArg some (by kernel_rfl))
 f144:=Tryz.func222.trans (congrArg some (by kernel_rfl))
 f217:=Tryz.func261.trans (congrArg some (by kernel_rfl))
 f219:=Tryz.func244.trans (congrArg some (by kernel_rfl))
 f224:=Tryz.func263.trans (congrArg some (by kernel_rfl))
 f225:=Tryz.func262.trans (congrArg some (by kernel_rfl))
 f266:=Tryz.func278.trans (congrArg some (by kernel_rfl))
 f267:=Tryz.func264.trans (congrArg some (by kernel_rfl))
 f314:=Tryz.func279.trans (congrArg some (by kernel_rfl))
 t3:=Tryz.underlying3
 a3:=Tryz.isAgg3
 z3:=Tryz.sizeOf3
 v3:=Tryz.zeroValue3
 t4:=Tryz.underlying4
 a4:=Tryz.isAgg4
 z4:=Tryz.sizeOf4
 v4:=Tryz.zeroValue4
 t5:=Tryz.underlying5
 a5:=Tryz.isAgg5
 z5:=Tryz.sizeOf5
 v5:=Tryz.zeroValue5
 t9:=Tryz.underlying9
 a9:=Tryz.isAgg9
 z9:=Tryz.sizeOf9
 v9:=Tryz.zeroValue9
 t46:=Tryz.underlying185
 a46:=Tryz.isAgg185
 z46:=Tryz.sizeOf185
 v46:=Tryz.zeroValue185
 t51:=Tryz.underlying220
 a51:=Tryz.isAgg220
 z51:=Tryz.sizeOf220
 v51:=Tryz.zeroValue220
 t146:=Tryz.underlying233
 a146:=Tryz.isAgg233
 z146:=Tryz.sizeOf233
 v146:=Tryz.zeroValue233
 g1:=by kernel_rfl }
end Go.Proofs
namespace Go.Eng
open Go.Proofs
abbrev Yx:ByteArray:=⟨#[47]⟩
abbrev BD(s:ByteArray):List ByteArray:=Go.Lib.splitB Yx 0 (Go.Lib.countB s Yx) s
theorem OR(s:ByteArray):(BD s).map (·.data.toList)=Fi 47 s.data.toList:=c8 s 47
abbrev Jv(s:ByteArray):List AV:=[vs s]
theorem pm(s:ByteArray)(hs:Gn s):PC 138 [vs s,vs Yx] (sl Jv (BD s)):=by
 unfold Gn at hs;have h:=cN (P:=Tryz.prog) (f:=138) (args:=[vs s,vs Yx]) [.string s,.string Yx] ((BD s).map Value.string) 9 (dp 138 Tryz.func138 (by kernel_rfl) rfl) rfl (fun x hx=>by
  obtain⟨y,_,rfl⟩:=Am.1 hx;rfl) (fun w hm=>by
  obtain⟨m,hm⟩:=hm;have hl:(BD s).length=Go.Lib.countB s Yx+1:=Go.Lib.splitB_all Yx (by decide) 0 _ s rfl;refine(Any.strings_Split Tryz.laySplit (by kernel_rfl) s Yx m w (by omega) hm (by decide)).mono ?_
  rintro e w' ⟨rfl,rfl⟩
  exact⟨by rw[Lm,hl],rfl⟩)
 rw[BP]at h;exact h
theorem te(s p:ByteArray)(hs:Gn s):PC 115 [vs s,vs p] (vi (Go.Lib.lastIndex s.data.toList p.data.toList)):=by
 unfold Gn at hs;exact K8 [.string s,.string p] (.int .i64 (Go.Lib.lastIndex s.data.toList p.data.toList)) (dp 115 Tryz.func115 (by kernel_rfl) rfl) rfl (fun g w=>.v _ _) fun w _=>Any.strings_LastIndex Tryz.layLast s p (by omega) w
theorem tt(s p:ByteArray):PC 186 [vs s,vs p] (.tup [vs ⟨(Go.Lib.trimPrefix s.data.toList p.data.toList).toArray⟩,vb (Go.Lib.hasPrefix s.data.toList p.data.toList)]):=by
 exact K8 [.string s,.string p] _ (dp 186 Tryz.func186 (by kernel_rfl) rfl) rfl (fun g w=>gV [.string ⟨(Go.Lib.trimPrefix s.data.toList p.data.toList).toArray⟩,.bool (Go.Lib.hasPrefix s.data.toList p.data.toList)]) fun w _=>Any.strings_CutPrefix Tryz.layCut s p w
theorem tB(s p:ByteArray)(hs:Gn s):PC 222 [vs s,vs p] (vb (Go.Lib.contains s.data.toList p.data.toList)):=by
 unfold Gn at hs;exact K8 [.string s,.string p] (.bool (Go.Lib.contains s.data.toList p.data.toList)) (dp 222 Tryz.func222 (by kernel_rfl) rfl) rfl (fun g w=>.v _ _) fun w hm=>by
  obtain⟨m,hm⟩:=hm;exact Any.strings_Contains Tryz.layCont s p m w (by omega) hm
theorem aD:∀x y:List UInt8,cS x y=x.isPrefixOf y
 | [],_=>by simp[cS]
 |_::_,[]=>rfl
 |a::x,b::y=>by
  rw[cS,List.isPrefixOf_cons_cons,aD x y]
  rfl
theorem fL(x:List UInt8):∀y:List UInt8,si x y=Go.Lib.contains y x
 | []=>by
  unfold Go.Lib.contains Go.Lib.index;cases x<;>rfl
 |b::y=>by
  rw[si,aD,fL x y];unfold Go.Lib.contains;have hg:=Go.Lib.index_ge y x
  conv=>rhs;unfold Go.Lib.index
  cases h:x.isPrefixOf (b::y)with
  |true=>simp
  |false =>
   simp only[LA,Dk,Gg]
   by_cases h0:Go.Lib.index y x=-1
   ·rw[h0];rfl
   ·have h1:(Go.Lib.index y x == -1)=false:=by simpa using h0
    rw[h1];simp only[Dk,Gg];rw[Aw (by omega),Aw (by omega)]
theorem Sy:∀(l:List UInt8) (h:0<l.length),l.headD 0=l[0]
 | [],h=>by simp at h
 |_::_,_=>rfl
abbrev lM:ByteArray:=⟨⟨fR⟩⟩
theorem tv(s:ByteArray)(hs:Gn s):PC 188 [vs s] (vb (Y6 s.data.toList)):=by
 unfold Gn at hs;have hc:=tB lM ((⟨#[32]⟩++s)++⟨#[32]⟩) (HN (by kernel_rfl));have e:Go.Lib.contains lM.data.toList ((⟨#[32]⟩++s:ByteArray)++⟨#[32]⟩).data.toList=Y6 s.data.toList:=by
  unfold Y6;rw[fL]
  congr 1
 rw[e]at hc;refine Ps F7 Tryz.func188 rfl (Nz rfl) ?_;refine Yi (by show(((1+s.size:Nat)):Int)≤_;omega) ?_;refine Yi (by show(((⟨#[32]⟩++s:ByteArray).size+1:Nat):Int)≤_;rw[ByteArray.size_append];show(((1+s.size)+1:Nat):Int)≤_;omega) ?_;refine Xi .pure (Xi _ (Yi (hc) ?_));exact .refl _
theorem tn(s:ByteArray)(hs:Gn s):PC 140 [vs s] (vb (Ia s.data.toList)):=by
 have hk:=tv s hs;have hw:=mz s 187 Mh tu (by unfold Gn at hs;simp;omega);have EH:s.size=s.data.toList.length:=by simp
 have en:Ia s.data.toList=(!s.data.toList.isEmpty&&decide (s.data.toList.length≤32)&&G1 (s.data.toList.headD 0)&&s.data.toList.all Mh&&!Y6 s.data.toList):=rfl
 by_cases h0:s=⟨#[]⟩
 ·subst h0;refine Ps F7 Tryz.func140 rfl (Nz rfl) ?_;refine Yi ?_ ?_
  ·intro h;exact absurd rfl (show(⟨#[]⟩:ByteArray)≠⟨#[]⟩from h)
  ·intro _;exact .refl _
 have wT : s.data.toList≠[]:=fun e=>h0 (by
  have:s.data=#[]:=by rw[←Iw];exact e
  cases s;simp_all)
 have CB:0<s.data.toList.length:=MQ.2 wT;have T3:s.data.toList.isEmpty=false:=by
  cases hl:s.data.toList with
  |nil=>exact absurd hl wT
  |cons a l=>rfl
 have xn:s.data.toList.headD 0=s.data.toList[0]:=Sy _ CB;have iN:=mA s.data.toList[0];refine Ps F7 Tryz.func140 rfl (Nz rfl) ?_;refine Yi ?_ ?_
 rotate_left
 ·intro h;exact absurd h0 h
 intro _;refine Yi ?_ ?_
 rotate_left
 ·intro h;have h:¬((s.size:Nat):Int)≤32:=h;exact .of_eq (Ac vb (show false=Ia s.data.toList by rw[en,Ap (by omega:¬s.data.toList.length≤32)];simp))
 intro h;have h:((s.size:Nat):Int)≤32:=h;refine Xi s.data.toList[0] (Yi ⟨AX _,ZJ s 0 CB⟩ ?_);refine BN (Bt (G1 s.data.toList[0])) (fun e1=>?_) (fun e1=>?_)
 rotate_left
 ·rw[e1]at iN;refine Xi .pure (Xi _ (Yi (iN) ?_));exact .of_eq (Ac vb (show false=Ia s.data.toList by rw[en,xn,e1];simp))
 rw[e1]at iN;refine Xi .pure (Xi _ (Yi (iN) ?_));refine BN (Bt (s.data.toList.all Mh)) (fun e2=>?_) (fun e2=>?_)
 rotate_left
 ·rw[e2]at hw;refine Xi .pure (Xi _ (Yi (hw) ?_));exact .of_eq (Ac vb (show false=Ia s.data.toList by rw[en,e2];simp))
 rw[e2]at hw;refine Xi .pure (Xi _ (Yi (hw) ?_));have ef:Ia s.data.toList=!Y6 s.data.toList:=by rw[en,T3,xn,e1,e2,Aw (by omega:s.data.toList.length≤32)];rfl
 refine BN (Bt (Y6 s.data.toList)) (fun e3=>?_) (fun e3=>?_)
 ·rw[e3]at hk;refine Xi .pure (Xi _ (Yi (hk) ?_));exact .of_eq (Ac vb (show false=Ia s.data.toList by rw[ef,e3];rfl))
 ·rw[e3]at hk;refine Xi .pure (Xi _ (Yi (hk) ?_));exact .of_eq (Ac vb (show true=Ia s.data.toList by rw[ef,e3];rfl))
abbrev Ws:Option Int→AV
 |some n=>.tup [vi n,vb true]
 |none=>.tup [vi 0,vb false]
theorem aS{z:Int}(h0:0≤z)(h1:z<256):IntKind.u8.wrap z=z:=by
 show z % 256=z;omega
theorem UD{c:UInt8}(h:ER c=true):48≤c.toNat∧c.toNat≤57:=by
 unfold ER at h;simp only[Ag,AA]at h;exact⟨Lh.1 h.1,Lh.1 h.2⟩
theorem U8(r:List UInt8)(i:Nat)(h:i<r.length):Gx (r.take (i+1))=10*Gx (r.take i)+((r[i].toNat:Int)-48):=by
 unfold Gx;rw[Bu,Ge h,Kb];rfl
theorem tj(s:ByteArray)(hs:Gn s):PC 139 [vs s] (Ws (Lz s.data.toList)):=by
 unfold Gn at hs;have hc:=tt s ⟨#[118]⟩
 by_cases hp:∃r,s.data.toList=118::r
 ·obtain⟨r,hr⟩:=hp;have e1:Go.Lib.hasPrefix s.data.toList (⟨#[118]⟩:ByteArray).data.toList=true:=by rw[hr];rfl
  have e2:Go.Lib.trimPrefix s.data.toList (⟨#[118]⟩:ByteArray).data.toList=r:=by unfold Go.Lib.trimPrefix;rw[e1,Az rfl,hr];rfl
  rw[e1,e2]at hc;have hv:Lz s.data.toList=if(r.isEmpty||decide (3<r.length)||(decide (1<r.length)&&decide (r.headD 0=48))||!r.all ER)=true then none else some (Gx r):=by rw[hr];rfl
  have Wx:r.length<s.size:=by
   have:s.size=s.data.toList.length:=by simp
   rw[this,hr];simp
  generalize hB:(⟨r.toArray⟩:ByteArray)=rB at hc;have jE:rB.data.toList=r:=by rw[←hB]
  have pK:rB.size=r.length:=by rw[←hB];rfl
  have hw:=mz rB 144 ER mB (by rw[jE];omega);rw[jE]at hw;have no:∀{b:Bool},b=true→(if b=true then none else some (Gx r))=(none:Option Int):=fun h=>Az h;refine Ps (KG [2,4]) Tryz.func139 rfl (Nz rfl) ?_;refine Xi .pure (Xi _ (Yi (hc) ?_));refine Xi ⟨[(0,vs rB),(4,vb true)],[],Ab⟩ (Yi ⟨Z2,Tv,Fh,Tv⟩ ?_)
  refine Yi ?_ ?_
  ·intro h;have h:rB=⟨#[]⟩:=h
   have:r=[]:=by rw[←jE,h]
   exact .of_eq (Ac Ws (show(none:Option Int)=Lz s.data.toList by rw[hv,this];rfl))
  intro h;have h:¬rB=⟨#[]⟩:=h;have DD:r≠[]:=fun e=>h (by rw[←hB,e]);have CB:0<r.length:=MQ.2 DD;have T3:r.isEmpty=false:=by
   cases hl:r with
   |nil=>exact absurd hl DD
   |cons a l=>rfl
  refine Yi ?_ ?_
  ·intro h2;have h2:(3:Int)<((rB.size:Nat):Int):=h2;exact .of_eq (Ac Ws (show(none:Option Int)=Lz s.data.toList by rw[hv,no];rw[Aw (by omega:3<r.length)];simp))
  intro h2;have h2:¬(3:Int)<((rB.size:Nat):Int):=h2;have r5:r.length≤3:=by omega
  have d3:decide (3<r.length)=false:=Ap (by omega);refine Yi ?_ ?_
  ·intro h3;have h3:(1:Int)<((rB.size:Nat):Int):=h3;have tX:rB.data[(0:Int).toNat]?=some r[0]:=by
    show rB.data[0]?=_;rw[←A2,jE];exact Ge CB
   refine Xi r[0] (Yi ⟨AX _,tX⟩ ?_);have hh:=Sy r CB;refine Yi ?_ ?_
   ·intro h4;have h4:(r[0].toNat:Int)=48:=h4
    have:r[0]=48:=UInt8.toNat_inj.1 (by show r[0].toNat=48;omega)
    exact .of_eq (Ac Ws (show(none:Option Int)=Lz s.data.toList by rw[hv,hh,this,Aw (by omega:1<r.length)];simp))
   intro h4;have h4:¬(r[0].toNat:Int)=48:=h4;have eo:(decide (1<r.length)&&decide (r.headD 0=48))=false:=by rw[hh,Ap (show ¬r[0]=48 from fun e=>h4 (by rw[e];rfl)),DH]
   have qG:Lz s.data.toList=if(!r.all ER)=true then none else some (Gx r):=by rw[hv,T3,d3,eo];rfl
   refine BN (Bt (r.all ER)) (fun e3=>?_) (fun e3=>?_)
   rotate_left
   ·rw[e3]at hw;refine Xi .pure (Xi _ (Yi (hw) ?_));exact .of_eq (Ac Ws (show(none:Option Int)=Lz s.data.toList by rw[qG,e3];rfl))
   rw[e3]at hw;refine Xi .pure (Xi _ (Yi (hw) ?_));have uS:Lz s.data.toList=some (Gx r):=by rw[qG,e3];rfl
   refine Xi ⟨[(0,vs rB)],[],Ab⟩ (Yi ⟨Z1,Tv,Fh,Tv⟩ ?_)
   have z0:Gx (r.take 0)=0:=rfl;refine Xi {i:Nat // i≤r.length∧0≤Gx (r.take i)∧(i=0→Gx (r.take i)≤0)∧(i≤1→Gx (r.take i)≤9)∧(i≤2→Gx (r.take i)≤99)∧Gx (r.take i)≤999} (Xi (fun i=>⟨[(0,vs rB),(5,vi (Gx (r.take i.1))),(39,vi rB.size),(40,vi i.1)],[],Ab⟩) (Xi (fun i=>r.length-i.1) (Yi (Xi ⟨0,AM _,by omega,fun _=>by omega,fun _=>by omega,fun _=>by omega,by omega⟩ ?_) ?_)))
   ·exact⟨Z4,Tv,Fh,Tv⟩
   intro⟨i,i1,i2,i3,i4,i5,i6⟩;refine Yi ?_ ?_
   ·intro h;have h:(i:Int)<(rB.size:Nat):=h;have h:i<r.length:=by omega
    have uf:ER r[i]=true:=Bq.1 e3 _ (Ao h);have oC:=UD uf;have uw:=U8 r i h;have jU:IntKind.u8.wrap ((r[i].toNat:Int)-48)=(r[i].toNat:Int)-48:=aS (by omega) (by omega);have lq:rB.data[((i:Nat):Int).toNat]?=some r[i]:=by rw[Ch,←A2,jE];exact Ge h
    refine Yi (by show BY (10*Gx (r.take i));unfold BY;omega) ?_;refine Xi r[i] (Yi ⟨by show(0:Int)≤i;omega,lq⟩ ?_);refine Yi (by show BY (IntKind.u8.wrap ((r[i].toNat:Int)-48));rw[jU];unfold BY;omega) ?_;refine Yi (by show BY (10*Gx (r.take i)+IntKind.u8.wrap ((r[i].toNat:Int)-48));rw[jU];unfold BY;omega) ?_;refine Yi (Ii i (by omega)) ?_;have e5:vi (10*Gx (r.take i)+IntKind.u8.wrap ((r[i].toNat:Int)-48))=vi (Gx (r.take (i+1))):=by rw[jU,uw]
    refine Xi ⟨i+1,by omega,by omega,fun _=>by omega,fun _=>by omega,fun _=>by omega,by omega⟩ ?_;exact⟨Dl r.length i (by omega),⟨Zr,⟨e5,rfl⟩,Zr,Zr,Tv⟩,Tv,Fh,Tv⟩
   ·intro h;have h:¬(i:Int)<(rB.size:Nat):=h;have e6:AV.tup [vi (Gx (r.take i)),vb true]=Ws (Lz s.data.toList):=by rw[uS,AT (by omega)]
    exact .of_eq e6
  ·intro h3;have h3:¬(1:Int)<((rB.size:Nat):Int):=h3;have eo:(decide (1<r.length)&&decide (r.headD 0=48))=false:=by rw[Ap (by omega:¬1<r.length)];rfl
   have qG:Lz s.data.toList=if(!r.all ER)=true then none else some (Gx r):=by rw[hv,T3,d3,eo];rfl
   refine BN (Bt (r.all ER)) (fun e3=>?_) (fun e3=>?_)
   rotate_left
   ·rw[e3]at hw;refine Xi .pure (Xi _ (Yi (hw) ?_));exact .of_eq (Ac Ws (show(none:Option Int)=Lz s.data.toList by rw[qG,e3];rfl))
   rw[e3]at hw;refine Xi .pure (Xi _ (Yi (hw) ?_));have uS:Lz s.data.toList=some (Gx r):=by rw[qG,e3];rfl
   refine Xi ⟨[(0,vs rB)],[],Ab⟩ (Yi ⟨Z1,Tv,Fh,Tv⟩ ?_)
   have z0:Gx (r.take 0)=0:=rfl;refine Xi {i:Nat // i≤r.length∧0≤Gx (r.take i)∧(i=0→Gx (r.take i)≤0)∧(i≤1→Gx (r.take i)≤9)∧(i≤2→Gx (r.take i)≤99)∧Gx (r.take i)≤999} (Xi (fun i=>⟨[(0,vs rB),(5,vi (Gx (r.take i.1))),(39,vi rB.size),(40,vi i.1)],[],Ab⟩) (Xi (fun i=>r.length-i.1) (Yi (Xi ⟨0,AM _,by omega,fun _=>by omega,fun _=>by omega,fun _=>by omega,by omega⟩ ?_) ?_)))
   ·exact⟨Z4,Tv,Fh,Tv⟩
   intro⟨i,i1,i2,i3,i4,i5,i6⟩;refine Yi ?_ ?_
   ·intro h;have h:(i:Int)<(rB.size:Nat):=h;have h:i<r.length:=by omega
    have uf:ER r[i]=true:=Bq.1 e3 _ (Ao h);have oC:=UD uf;have uw:=U8 r i h;have jU:IntKind.u8.wrap ((r[i].toNat:Int)-48)=(r[i].toNat:Int)-48:=aS (by omega) (by omega);have lq:rB.data[((i:Nat):Int).toNat]?=some r[i]:=by rw[Ch,←A2,jE];exact Ge h
    refine Yi (by show BY (10*Gx (r.take i));unfold BY;omega) ?_;refine Xi r[i] (Yi ⟨by show(0:Int)≤i;omega,lq⟩ ?_);refine Yi (by show BY (IntKind.u8.wrap ((r[i].toNat:Int)-48));rw[jU];unfold BY;omega) ?_;refine Yi (by show BY (10*Gx (r.take i)+IntKind.u8.wrap ((r[i].toNat:Int)-48));rw[jU];unfold BY;omega) ?_;refine Yi (Ii i (by omega)) ?_;have e5:vi (10*Gx (r.take i)+IntKind.u8.wrap ((r[i].toNat:Int)-48))=vi (Gx (r.take (i+1))):=by rw[jU,uw]
    refine Xi ⟨i+1,by omega,by omega,fun _=>by omega,fun _=>by omega,fun _=>by omega,by omega⟩ ?_;exact⟨Dl r.length i (by omega),⟨Zr,⟨e5,rfl⟩,Zr,Zr,Tv⟩,Tv,Fh,Tv⟩
   ·intro h;have h:¬(i:Int)<(rB.size:Nat):=h;have e6:AV.tup [vi (Gx (r.take i)),vb true]=Ws (Lz s.data.toList):=by rw[uS,AT (by omega)]
    exact .of_eq e6
 ·have e1:Go.Lib.hasPrefix s.data.toList (⟨#[118]⟩:ByteArray).data.toList=false:=by
   cases hl:s.data.toList with
   |nil=>rfl
   |cons a l =>
    have:a≠118:=fun e=>hp ⟨l,by rw[hl,e]⟩
    show(List.isPrefixOf [118] (a::l))=false;rw[List.isPrefixOf_cons_cons]
    have:((118:UInt8) == a)=false:=by rw[beq_eq_false_iff_ne];exact fun e=>this e.symm
    rw[this];rfl
  have hv:Lz s.data.toList=none:=by
   cases hl:s.data.toList with
   |nil=>rfl
   |cons a l =>
    have:a≠118:=fun e=>hp ⟨l,by rw[hl,e]⟩
    show(if a=118 then _ else none)=none;rw[Al this]
  rw[e1]at hc;refine Ps F7 Tryz.func139 rfl (Nz rfl) ?_;refine Xi .pure (Xi _ (Yi (hc) ?_));exact .of_eq (Ac Ws hv.symm)
abbrev Y9:Option Int→AV
 |some n=>.tup [vi n,vi 0]
 |none=>.tup [vi 0,vi 4]
theorem TF(c:UInt8):∀(s x:List UInt8),x∈Fi c s→x.length≤s.length
 | [],x,h=>by
  rw[Fi]at h;rw[Ai.1 h];exact Ak _
 |b::r,x,h=>by
  have ih:=TF c r;rw[Fi]at h;split at h
  ·rcases Au.1 h with rfl | h
   ·exact AM _
   ·have:=ih x h;rw[At];omega
  ·split at h
   ·rw[Ai.1 h];rw[At];simp
   ·rename_i y l e;rcases Au.1 h with rfl | h
    ·have:=ih y (by rw[e];exact Aa ..);rw[At,At];omega
    ·have:=ih x (by rw[e];exact Af _ h);rw[At];omega
theorem gG{p x:ByteArray}(hp:Gn p)(hx:x∈BD p):Gn x:=by
 have h:x.data.toList∈Fi 47 p.data.toList:=by rw[←OR];exact Am.2 ⟨x,hx,rfl⟩
 have:=TF 47 _ _ h
 unfold Gn at *
 have e1:x.size=x.data.toList.length:=by simp
 have e2:p.size=p.data.toList.length:=by simp
 omega
theorem cL(p:ByteArray):(BD p).length=(Fi 47 p.data.toList).length:=by rw[←OR,Lm]
theorem cM(p:ByteArray):0<(BD p).length:=by
 rw[show(BD p).length=Go.Lib.countB p Yx+1 from Go.Lib.splitB_all Yx (by decide) 0 _ p rfl];omega
theorem cK(p:ByteArray):(BD p).length≤p.size+1:=by
 rw[show(BD p).length=Go.Lib.countB p Yx+1 from Go.Lib.splitB_all Yx (by decide) 0 _ p rfl]
 have:=Go.Lib.countB_le Yx (by decide) p.size p (Ak _);omega
theorem Zj(p:ByteArray)(h:(BD p).length-1<(BD p).length):(Fi 47 p.data.toList).getLastD []=((BD p)[(BD p).length-1]).data.toList:=by
 rw[←OR,List.getLastD_eq_getLast?,List.getLast?_eq_getElem?,Lm,AG,Ge h];rfl
theorem cJ(p:ByteArray):(Fi 47 p.data.toList).all Mb=(BD p).all fun x=>Mb x.data.toList:=by
 rw[←OR,List.all_map];rfl
theorem pi(p:ByteArray)(hp:Gn p):PC 113 [vs p] (Y9 (Cr p)):=by
 have uF:=cK p;have Y2:=cM p;have uC:(BD p).length-1<(BD p).length:=by omega
 have EH:p.size=p.data.toList.length:=by simp
 have xk:∀{x},x∈BD p→Gn x:=fun h=>gG hp h;unfold Gn at hp;have T4:((BD p).map Jv)[((((BD p).map Jv).length:Int)-1).toNat]?=some (Jv (BD p)[(BD p).length-1]):=by
  rw[Lm,show(((BD p).length:Int)-1).toNat=(BD p).length-1 by omega];exact Cg (Ge uC)
 have hv:=tj (BD p)[(BD p).length-1] (xk (Ao uC));have em:Cr p=match Lz ((BD p)[(BD p).length-1]).data.toList with
  |none=>none
  |some n=>if(decide (64<p.data.toList.length)||decide ((BD p).length<2))=true then none else if((BD p).all fun x=>Mb x.data.toList)=true then some n else none:=by
  unfold Cr Za;rw[Zj p uC,cJ,←cL];cases Lz ((BD p)[(BD p).length-1]).data.toList with
  |none=>rfl
  |some n=>rfl
 cases hve:Lz ((BD p)[(BD p).length-1]).data.toList with
 |none =>
  rw[hve]at hv em;refine Ps (KG [2,3]) Tryz.func113 rfl (Nz rfl) ?_;refine Xi .pure (Xi _ (Yi (pm p hp) ?_));refine Xi ⟨[(0,vs p),(4,sl Jv (BD p))],[],Ab⟩ (Yi ⟨Z2,Tv,Fh,Tv⟩ ?_)
  refine Yi (by show BY ((((BD p).map Jv).length:Int)-1);unfold BY;rw[Lm];omega) ?_;refine Xi (Jv (BD p)[(BD p).length-1]) (Yi (Yi (by show(0:Int)≤(((BD p).map Jv).length:Int)-1;rw[Lm];omega) T4) (Yi rfl ?_));refine Xi .pure (Xi _ (Yi (hv) ?_));refine Xi ⟨[(0,vs p),(4,sl Jv (BD p)),(5,vi 0),(6,vb false)],[],Ab⟩ (Yi ⟨Z4,Tv,Fh,Tv⟩ ?_)
  exact .of_eq (Ac Y9 em.symm)
 |some n =>
  rw[hve]at hv em;have em:Cr p=if(decide (64<p.data.toList.length)||decide ((BD p).length<2))=true then none else if((BD p).all fun x=>Mb x.data.toList)=true then some n else none:=em
  refine Ps (KG [2,3,5]) Tryz.func113 rfl (Nz rfl) ?_;refine Xi .pure (Xi _ (Yi (pm p hp) ?_));refine Xi ⟨[(0,vs p),(4,sl Jv (BD p))],[],Ab⟩ (Yi ⟨Z2,Tv,Fh,Tv⟩ ?_)
  refine Yi (by show BY ((((BD p).map Jv).length:Int)-1);unfold BY;rw[Lm];omega) ?_;refine Xi (Jv (BD p)[(BD p).length-1]) (Yi (Yi (by show(0:Int)≤(((BD p).map Jv).length:Int)-1;rw[Lm];omega) T4) (Yi rfl ?_));refine Xi .pure (Xi _ (Yi (hv) ?_));refine Xi ⟨[(0,vs p),(4,sl Jv (BD p)),(5,vi n),(6,vb true)],[],Ab⟩ (Yi ⟨Z4,Tv,Fh,Tv⟩ ?_)
  refine Yi ?_ ?_
  ·intro h;have h:(64:Int)<((p.size:Nat):Int):=h;exact .of_eq (Ac Y9 (show(none:Option Int)=Cr p by rw[em,Aw (by omega:64<p.data.toList.length)];rfl))
  intro h;have h:¬(64:Int)<((p.size:Nat):Int):=h;have d1:decide (64<p.data.toList.length)=false:=Ap (by omega);refine Yi ?_ ?_
  ·intro h2;have h2:(((BD p).map Jv).length:Int)<2:=h2;rw[Lm]at h2;exact .of_eq (Ac Y9 (show(none:Option Int)=Cr p by rw[em,d1,Aw (by omega:(BD p).length<2)];rfl))
  intro h2;have h2:¬(((BD p).map Jv).length:Int)<2:=h2;have d2:decide ((BD p).length<2)=false:=Ap (by rw[Lm]at h2;omega);have wR:Cr p=if((BD p).all fun x=>Mb x.data.toList)=true then some n else none:=by rw[em,d1,d2];rfl
  refine Xi ⟨[(4,sl Jv (BD p)),(5,vi n)],[],Ab⟩ (Yi ⟨Z2,Tv,Fh,Tv⟩ ?_)
  refine Xi {i:Nat // i≤(BD p).length∧∀j (hj:j<(BD p).length),j<i→Mb ((BD p)[j]).data.toList=true} (Xi (fun i=>⟨[(5,vi n),(33,sl Jv (BD p)),(34,vi ((BD p).map Jv).length),(35,vi i.1)],[],Ab⟩) (Xi (fun i=>(BD p).length-i.1) (Yi (Xi ⟨0,AM _,fun j _ h=>by omega⟩ ?_) ?_)))
  ·exact⟨Z4,Tv,Fh,Tv⟩
  intro⟨i,i1,i2⟩;refine Yi ?_ ?_
  ·intro h;have h:(i:Int)<((BD p).map Jv).length:=h;have h:i<(BD p).length:=by simpa using h
   have hg:(BD p)[i]?=some (BD p)[i]:=Ge h;refine Xi (Jv (BD p)[i]) (Yi (Yi (Nn i) (by simp[hg])) (Yi rfl ?_));have xi:=xk (Ao h);have hn:=tn (BD p)[i] xi;have ha:=mz (BD p)[i] 142 Zy tp (by unfold Gn at xi;have e1:(BD p)[i].size=(BD p)[i].data.toList.length:=(by simp);omega);have no:Mb ((BD p)[i]).data.toList=false→(none:Option Int)=Cr p:=fun e=>by
    rw[wR,Al];intro FS
    have:=Bq.1 FS _ (Ao h)
    rw[e]at this;cases this
   refine BN (Bt (Ia ((BD p)[i]).data.toList)) (fun e1=>?_) (fun e1=>?_)
   rotate_left
   ·rw[e1]at hn;refine Xi .pure (Xi _ (Yi (hn) ?_));exact .of_eq (Ac Y9 (no (by unfold Mb;rw[e1];rfl)))
   rw[e1]at hn;refine Xi .pure (Xi _ (Yi (hn) ?_));refine BN (Bt (((BD p)[i]).data.toList.all Zy)) (fun e2=>?_) (fun e2=>?_)
   rotate_left
   ·rw[e2]at ha;refine Xi .pure (Xi _ (Yi (ha) ?_));exact .of_eq (Ac Y9 (no (by unfold Mb;rw[e1];exact e2)))
   rw[e2]at ha;refine Xi .pure (Xi _ (Yi (ha) ?_));refine Yi (Ii i (by omega)) ?_;refine Xi ⟨i+1,by omega,fun j hj HL=>?_⟩ ?_
   ·rcases EF j i with z | z
    ·exact i2 j hj z
    ·have:j=i:=by omega
     subst this;unfold Mb;rw[e1];exact e2
   ·exact⟨by show(BD p).length-(i+1)<(BD p).length-i;omega,Z4,Tv,Fh,Tv⟩
  ·intro h;have h:¬(i:Int)<((BD p).map Jv).length:=h;have h:¬i<(BD p).length:=by simpa using h
   have e:some n=Cr p:=by
    rw[wR,Az];exact Bq.2 fun x hx=>by
     obtain⟨j,hj,rfl⟩:=FB hx;exact i2 j hj (by omega)
   exact .of_eq (Ac Y9 e)
theorem td(p:ByteArray)(hp:Gn p):PC 114 [vs p] (vb (Cr p).isSome):=by
 have hc:=pi p hp;cases h:Cr p with
 |none =>
  rw[h]at hc;refine Ps F7 Tryz.func114 rfl (Nz rfl) ?_;refine Xi .pure (Xi _ (Yi (hc) ?_));refine Yi ?_ ?_
  ·intro h;exact absurd (show(4:Int)=0 from h) (by decide)
  ·intro _;exact .refl _
 |some n =>
  rw[h]at hc;refine Ps F7 Tryz.func114 rfl (Nz rfl) ?_;refine Xi .pure (Xi _ (Yi (hc) ?_));refine Yi ?_ ?_
  ·intro _;exact .refl _
  ·intro h;exact absurd rfl h
theorem TG(c:UInt8):∀s:List UInt8,2≤(Fi c s).length→c∈s
 | [],h=>by rw[Fi]at h;simp at h
 |b::r,h=>by
  rw[Fi]at h
  by_cases e:b=c
  ·exact e▸Aa ..
  ·rw[Al e]at h;refine Af _ (TG c r ?_);cases hs:Fi c r with
   |nil=>rw[hs]at h;simp at h
   |cons x l=>rw[hs]at h;simpa using h
theorem fS{p:ByteArray}{m:Int}(h:Cr p=some m):0≤Go.Lib.lastIndex p.data.toList [47]∧Go.Lib.lastIndex p.data.toList [47]≤p.size:=by
 have h2:2≤(Fi 47 p.data.toList).length:=by
  unfold Cr Za at h;split at h
  ·cases h
  ·split at h
   ·cases h
   ·rename_i hn;simp only[CE,AA]at hn;omega
 have hm:=TG 47 _ h2;obtain⟨i,hi,e⟩:=FB hm;have EH:p.size=p.data.toList.length:=by simp
 unfold Go.Lib.lastIndex;rw[Az (by simp only[AD];omega)];have uy:Go.Lib.occAt p.data.toList [47] i=true:=by
  unfold Go.Lib.occAt;rw[Bs hi,e];simp
 rcases Go.Lib.lastOcc_spec p.data.toList [47] (p.data.toList.length - [(47:UInt8)].length+1)with ⟨_,h3⟩ | ⟨j,h3,h4,_⟩
 ·have:=h3 i (by simp only[AD];omega)
  rw[uy]at this;cases this
 ·rw[h4];simp only[AD]at h3;omega
abbrev fV(p:ByteArray):ByteArray:=p.extract 0 (Go.Lib.lastIndex p.data.toList [47]).toNat
theorem YA:TR fV:=by
 intro p hp;have hc:=pi p hp;have hi:=td p hp;unfold UY;cases h:Cr p with
 |none =>
  rw[h]at hc hi;refine Ps F7 Tryz.func91 rfl (Nz rfl) ?_;refine Xi .pure (Xi _ (Yi (hc) ?_));refine Xi .pure (Xi _ (Yi (hi) ?_));exact .refl _
 |some n =>
  rw[h]at hc hi;obtain⟨l1,l2⟩:=fS h;have hl:PC 115 [vs p,vs Yx] (vi (Go.Lib.lastIndex p.data.toList [47])):=te p Yx hp;refine Ps F7 Tryz.func91 rfl (Nz rfl) ?_;refine Xi .pure (Xi _ (Yi (hc) ?_));refine Xi .pure (Xi _ (Yi (hi) ?_));refine Yi ?_ ?_
  ·intro h;exact absurd rfl h
  intro _;refine Xi .pure (Xi _ (Yi (hl) ?_));refine Yi ⟨AX _,l1,l2⟩ ?_;exact .refl _
theorem OU{l:List Rq}(h:BS l=0):l.length≤16:=by
 unfold BS at h;split at h
 ·cases h
 ·omega
theorem PD{x:List Rl}(h:A9 x=0):x.length≤256∧∀r∈x,r.reqs.length≤16:=by
 have h1:x.length≤256:=by
  unfold A9 at h;split at h
  ·cases h
  ·omega
 exact⟨h1,fun r hr=>OU ((Cz h).1 r hr).reqs⟩
theorem eu{x:List Rl}(h:∀r∈x,r.reqs.length≤16):((x.map (·.reqs)).flatten).length≤x.length*16:=by
 induction x with
 |nil=>simp
 |cons r x ih =>
  rw[AP,Bz,Ad,At]
  have:=h r (Aa ..)
  have:=ih fun s hs=>h s (Af _ hs)
  omega
theorem Zm{x:List Rl}{roots:List Rq}{l:List Nf}(h1:A9 x=0)(h2:BS roots=0)(h3:l.length≤65536):(J7 x roots l).length≤100000:=by
 obtain⟨a,b⟩:=PD h1
 have:=eu b
 have:=OU h2
 unfold J7;simp only[Ad,Lm];omega
theorem Uh.fewI{U:List ByteArray}{t:List Tm}(h:Uh U t)(hu:U.length≤100000):l7 t :=
 ⟨by have:=h.len;omega,fun u hu=>Oh (h.1.canon u hu)⟩
abbrev Rb(x:List Rl)(ifs:List (List AV)):AV:=.agg (Ic x ifs)
abbrev WB:EG:=⟨true,[.str,.int .i64,.int .i64,.int .i64]⟩
abbrev SP(y:Sl):Value:=.agg #[.string y.path,.int .i64 y.ver.a,.int .i64 y.ver.b,.int .i64 y.ver.c]
abbrev UW(r:Rl):Value×AV:=(SP (GQ r),.agg (Ah r))
def AQ:List Rl→List ByteArray→List ByteArray
 | [],acc=>acc
 |r::x,acc=>AQ x (if acc.any (fun p=>decide (p=r.path))then acc else acc++[r.path])
abbrev lO(x:List Rl)(p:ByteArray):Value×AV:=(.string p,sl Ah (x.filter fun r=>decide (r.path=p)))
abbrev ZB(x:List Rl):AV:=if A9 x=0 then .tup [.agg [.cmap WB (x.map UW),.cmap C3 ((AQ x []).map (lO x))],vi 0]else .tup [.agg [.cmap WB [],.cmap C3 []],vi (A9 x)]
abbrev ld(x:List Rl)(ifs:List (List AV)):Prop:=PC 73 [Rb x ifs] (ZB x)
theorem jZ{y z:Sl}(h:SP y=SP z):y=z:=by
 obtain⟨p,⟨a,b,c⟩⟩:=y;obtain⟨q,⟨d,e,f⟩⟩:=z;simp only[SP,Value.agg.injEq,Array.mk.injEq,Fs,Value.string.injEq,Value.int.injEq,true_and,and_true]at h;obtain⟨rfl,rfl,rfl,rfl⟩:=h
 rfl
theorem kb{x:List Rl}{y:Sl}{a:AV}(h:(SP y,a)∈x.map UW):∃r∈x,GQ r=y∧a=.agg (Ah r):=by
 obtain⟨r,h1,h2⟩:=Am.1 h;simp only[UW,FK]at h2;exact⟨r,h1,jZ h2.1,h2.2.symm⟩
abbrev DP(l:List Rl):Bn:=(l.filter fun r=>!r.yanked).map fun r=>(plc r.ver,plc r.ver+1)
theorem ZA(l:List Rl):(DP l).length≤l.length:=by
 unfold DP;rw[Lm];exact BE _ _
theorem ka{x:List Rl}{ps:List ByteArray}{p:ByteArray}{a:AV}(h:(Value.string p,a)∈ps.map (lO x)):a=sl Ah (x.filter fun r=>decide (r.path=p)):=by
 obtain⟨q,_,h2⟩:=Am.1 h;simp only[lO,FK,Value.string.injEq]at h2;rw[←h2.2,h2.1]
theorem N0{acc:List ByteArray}{p:ByteArray}:(acc.any fun q=>decide (q=p))=true↔p∈acc:=by
 rw[A7];constructor
 ·rintro⟨q,h1,h2⟩;rw[←BG h2];exact h1
 ·intro h;exact⟨p,h,by simp⟩
theorem Hd:∀(x:List Rl) (acc:List ByteArray) (p:ByteArray),p∈AQ x acc↔p∈acc∨∃r∈x,r.path=p
 | [],acc,p=>by simp[AQ]
 |r::x,acc,p=>by
  rw[AQ,Hd x];constructor
  ·rintro(h | ⟨s,h1,h2⟩)
   ·split at h
    ·exact .inl h
    ·rcases A3.1 h with h | h
     ·exact .inl h
     ·exact .inr ⟨r,Aa ..,(Ai.1 h).symm⟩
   ·exact .inr ⟨s,Af _ h1,h2⟩
  ·rintro(h | ⟨s,h1,h2⟩)
   ·left
    split
    ·exact h
    ·exact Bi _ h
   ·rcases Au.1 h1 with rfl | h1
    ·left
     split
     ·rename_i hh;rw[←h2];exact N0.1 hh
     ·rw[←h2];exact Bl _ (Ai.2 rfl)
    ·exact .inr ⟨s,h1,h2⟩
abbrev lU:TM:=⟨[],[(7,2)],[],[],[],[],[],[],[],[],[2,3,6,7,9]⟩
theorem Ut(L:List Rl)(i:Nat)(h:i<L.length):DP (L.take (i+1))=DP (L.take i)++(if L[i].yanked then []else [(plc L[i].ver,plc L[i].ver+1)]):=by
 unfold DP;rw[Bu,Ge h,Ej,AH]
 congr 1
 cases hy:L[i].yanked<;>simp[hy]
theorem th(x:List Rl)(ifs:List (List AV))(p:ByteArray)(oo:ld x ifs):PC 118 [Rb x ifs,vs p] (sl Aq (B8 x p)):=by
 by_cases h0:A9 x=0
 ·have oo:PC 73 [Rb x ifs] (.tup [.agg [.cmap WB (x.map UW),.cmap C3 ((AQ x []).map (lO x))],vi 0]):=by
   have:=oo;unfold ld ZB at this;rw[Az h0]at this;exact this
  have lK:=(PD h0).1;obtain⟨L,rR⟩:∃L,L=x.filter fun r=>decide (r.path=p):=⟨_,rfl⟩;have hL:J5 x p=L:=by unfold J5;rw[Al (by omega),rR]
  have wZ:L.length≤256:=by have:=BE (fun r:Rl=>decide (r.path=p)) x;rw[rR];omega
  refine Ps lU Tryz.func118 rfl (Nz rfl) ?_;refine Yi (Nz rfl) ?_;refine Xi .pure (Xi _ (Yi (oo) ?_));refine Yi (Nz rfl) ?_;refine Xi ⟨[(1,vs p),(5,.ref 5 0)],[(5,.cells [.cmap WB (x.map UW),.cmap C3 ((AQ x []).map (lO x))])],Ab⟩ (Yi ⟨Z2,Z1,Fh,Tv⟩ ?_)
  refine Xi ⟨[(1,vs p),(5,.ref 5 0),(7,.slice (.id 7 2) [])],[(5,.cells [.cmap WB (x.map UW),.cmap C3 ((AQ x []).map (lO x))]),(7,.tok 2 0)],Ab⟩ (Yi ⟨Z3,Z2,Fh,Tv⟩ ?_)
  refine Yi ?_ ?_
  ·intro a ha;have ea:a=sl Ah L:=by rw[rR];exact ka ha
   subst ea;refine Xi {i:Nat // i≤L.length} (Xi (fun i=>⟨[(7,.slice (.id 7 2) ((DP (L.take i.1)).map Aq)),(18,sl Ah L),(19,vi (L.map Ah).length),(20,vi i.1)],[(7,.tok 2 ((DP (L.take i.1)).map Aq).length)],Ab⟩) (Xi (fun i=>L.length-i.1) (Yi (Xi ⟨0,AM _⟩ ?_) ?_)))
   ·exact⟨Z4,Z1,Fh,Tv⟩
   intro⟨i,i1⟩;have Wz:=ZA (L.take i);rw[AJ]at Wz;refine Yi ?_ ?_
   ·intro h;have h:(i:Int)<(L.map Ah).length:=h;have h:i<L.length:=by simpa using h
    have hg:L[i]?=some L[i]:=Ge h;refine Xi (Ah L[i]) (Yi (Yi (Nn i) (by simp[hg])) (Yi rfl ?_));refine Yi (Nz rfl) (Yi (Nz rfl) ?_);refine Xi ⟨[(7,.slice (.id 7 2) ((DP (L.take i)).map Aq)),(9,.ref 9 0),(18,sl Ah L),(19,vi (L.map Ah).length),(20,vi i)],[(7,.tok 2 ((DP (L.take i)).map Aq).length),(9,.cells (Ah L[i]))],Ab⟩ (Yi ⟨Z5,Z2,Fh,Tv⟩ ?_)
    refine Yi ?_ ?_
    ·intro hy;have hy:L[i].yanked=true:=hy;refine Yi (Ii i (by omega)) ?_;have es:DP (L.take (i+1))=DP (L.take i):=by rw[Ut L i h,hy];simp
     have e1:AV.slice (.id 7 2) ((DP (L.take i)).map Aq)=.slice (.id 7 2) ((DP (L.take (i+1))).map Aq):=by rw[es]
     have e2:HO.tok 2 ((DP (L.take i)).map Aq).length=.tok 2 ((DP (L.take (i+1))).map Aq).length:=by rw[es]
     refine Xi ⟨i+1,by omega⟩ ?_;exact⟨Dl L.length i (by omega),⟨⟨e1,rfl⟩,Zr,Zr,Zr,Tv⟩,⟨⟨e2,rfl⟩,Tv⟩,Fh,Tv⟩
    ·intro hy;have hy:L[i].yanked=false:=hy;have uE:=kH L[i].ver;refine Xi ⟨[(7,.slice (.id 7 2) ((DP (L.take i)).map Aq)),(9,.ref 9 0),(18,sl Ah L),(19,vi (L.map Ah).length),(20,vi i)],[(7,.tok 2 ((DP (L.take i)).map Aq).length),(9,.cells (Ah L[i]))],Ab⟩ (Yi ⟨Z5,Z2,Fh,Tv⟩ ?_)
     refine Yi (Nz rfl) ?_;refine Xi _ (Yi (wN L[i]) ?_);refine Yi (Nz rfl) ?_;refine Xi _ (Yi (wN L[i]) ?_);refine Yi (by show BY (plc L[i].ver+1);unfold BY;omega) ?_;have Gs:Dp 2 [[vi (plc L[i].ver),vi (plc L[i].ver+1)]]∧((DP (L.take i)).map Aq).length=((DP (L.take i)).map Aq).length∧(((DP (L.take i)).map Aq).length+[[vi (plc L[i].ver),vi (plc L[i].ver+1)]].length)*16≤140737488355328∧((DP (L.take i)).map Aq).length+[[vi (plc L[i].ver),vi (plc L[i].ver+1)]].length≤9223372036854775807 :=
      ⟨⟨rfl,trivial⟩,rfl,by rw[Lm,AD];omega,by rw[Lm,AD];omega⟩
     refine Yi Gs ?_;refine Yi (by kernel_rfl) ?_;refine Yi (Ii i (by omega)) ?_;have es:DP (L.take (i+1))=DP (L.take i)++[(plc L[i].ver,plc L[i].ver+1)]:=by rw[Ut L i h,hy];simp
     have e1:AV.slice (.id 7 2) ((DP (L.take i)).map Aq++[[vi (plc L[i].ver),vi (plc L[i].ver+1)]])=.slice (.id 7 2) ((DP (L.take (i+1))).map Aq):=by rw[es,AH];rfl
     have e2:HO.tok 2 (((DP (L.take i)).map Aq).length+[[vi (plc L[i].ver),vi (plc L[i].ver+1)]].length)=.tok 2 ((DP (L.take (i+1))).map Aq).length:=by rw[es,AH,Ad];rfl
     refine Xi ⟨i+1,by omega⟩ ?_;exact⟨Dl L.length i (by omega),⟨⟨e1,rfl⟩,Zr,Zr,Zr,Tv⟩,⟨⟨e2,rfl⟩,Tv⟩,Fh,Tv⟩
   ·intro h;have h:¬(i:Int)<(L.map Ah).length:=h;have h:¬i<L.length:=by simpa using h
    have et:L.take i=L:=AT (by omega);refine Xi ⟨[(7,.slice (.id 7 2) ((DP (L.take i)).map Aq))],[(7,.tok 2 ((DP (L.take i)).map Aq).length)],Ab⟩ (Yi ⟨Z1,Z1,Fh,Tv⟩ ?_)
    have hc:PC 148 [sl Aq (DP (L.take i))] (sl Aq (canon (DP (L.take i)))):=WR _ (by unfold Cn;omega);refine Xi .pure (Xi _ (Yi (hc) ?_));exact .of_eq (show sl Aq (canon (DP (L.take i)))=sl Aq (B8 x p) by rw[et];unfold B8;rw[hL])
  ·intro hn;have hL:J5 x p=[]:=by
    rw[hL,rR,Hg];intro r hr he;have he:=BG he;exact hn _ (Am.2 ⟨p,(Hd x [] p).2 (.inr ⟨r,hr,he⟩),rfl⟩)
   refine Xi Unit (Xi (fun _=>⟨[(7,.slice (.id 7 2) []),(19,vi 0),(20,vi 0)],[(7,.tok 2 0)],Ab⟩) (Xi (fun _=>0) (Yi (Xi () ?_) ?_)))
   ·exact⟨Z3,Z1,Fh,Tv⟩
   intro _;refine Yi ?_ ?_
   ·intro h;exact absurd (show(0:Int)<0 from h) (by decide)
   intro _;refine Xi ⟨[(7,.slice (.id 7 2) [])],[(7,.tok 2 0)],Ab⟩ (Yi ⟨Z1,Z1,Fh,Tv⟩ ?_)
   have hc:PC 148 [sl Aq []] (sl Aq (canon [])):=WR [] (by unfold Cn;simp);refine Xi .pure (Xi _ (Yi (hc) ?_));exact .of_eq (show sl Aq (canon [])=sl Aq (B8 x p) by unfold B8;rw[hL];rfl)
 ·have oo:PC 73 [Rb x ifs] (.tup [.agg [.cmap WB [],.cmap C3 []],vi (A9 x)]):=by
   have:=oo;unfold ld ZB at this;rw[Al h0]at this;exact this
  have hL:J5 x p=[]:=by unfold J5;rw[Az h0]
  refine Ps lU Tryz.func118 rfl (Nz rfl) ?_;refine Yi (Nz rfl) ?_;refine Xi .pure (Xi _ (Yi (oo) ?_));refine Yi (Nz rfl) ?_;refine Xi ⟨[(1,vs p),(5,.ref 5 0)],[(5,.cells [.cmap WB [],.cmap C3 []])],Ab⟩ (Yi ⟨Z2,Z1,Fh,Tv⟩ ?_)
  refine Xi ⟨[(1,vs p),(5,.ref 5 0),(7,.slice (.id 7 2) [])],[(5,.cells [.cmap WB [],.cmap C3 []]),(7,.tok 2 0)],Ab⟩ (Yi ⟨Z3,Z2,Fh,Tv⟩ ?_)
  refine Yi ?_ ?_
  ·intro a ha;cases ha
  ·intro _;refine Xi Unit (Xi (fun _=>⟨[(7,.slice (.id 7 2) []),(19,vi 0),(20,vi 0)],[(7,.tok 2 0)],Ab⟩) (Xi (fun _=>0) (Yi (Xi () ?_) ?_)))
   ·exact⟨Z3,Z1,Fh,Tv⟩
   intro _;refine Yi ?_ ?_
   ·intro h;exact absurd (show(0:Int)<0 from h) (by decide)
   intro _;refine Xi ⟨[(7,.slice (.id 7 2) [])],[(7,.tok 2 0)],Ab⟩ (Yi ⟨Z1,Z1,Fh,Tv⟩ ?_)
   have hc:PC 148 [sl Aq []] (sl Aq (canon [])):=WR [] (by unfold Cn;simp);refine Xi .pure (Xi _ (Yi (hc) ?_));exact .of_eq (show sl Aq (canon [])=sl Aq (B8 x p) by unfold B8;rw[hL];rfl)
theorem RJ(x:List Rl)(p:ByteArray):Cn (B8 x p):=by
 unfold B8 Cn
 have:=HX (Co (((J5 x p).filter fun r=>!r.yanked).map fun r=>(plc r.ver,plc r.ver+1)));omega
end Go.Eng
