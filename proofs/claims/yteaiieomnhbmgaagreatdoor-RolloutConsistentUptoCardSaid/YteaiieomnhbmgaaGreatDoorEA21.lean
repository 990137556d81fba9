/- Lemmas 21. -/
import Derived.Test.YteaiieomnhbmgaaGreatDoorEA20
import Derived.Shelf.Strings.SplitShaped
import Derived.Shelf.Strings.LastIndexAll
import Derived.Shelf.Strings.Search3
import Derived.Shelf.Small.Wraps
import Derived.Ground.NamesProg
import Derived.Lib.LastIndexLaws
namespace Go.Eng
open Go.Proofs
variable (a c:UInt8)(s:ByteArray)(n:Nat)
abbrev vc:AV:=.v (.int .u8 c.toNat)
theorem oK(h:n<256):decide (UInt8.ofNat n<=a)=decide ((n:Int)<=(a.toNat:Int)):=by
 rw[B5,AD,AD,Mx,show(UInt8.ofNat n).toNat=n by simp;omega];omega
theorem oJ(h:n<256):decide (a<=UInt8.ofNat n)=decide ((a.toNat:Int)<=(n:Int)):=by
 rw[B5,AD,AD,Mx,show(UInt8.ofNat n).toNat=n by simp;omega];omega
theorem ud:PC 286 [vc c] (vb (HQ c)):=by
 refine Ps Ej Tryz.func286 rfl (Nz rfl) ?_;have e1:decide ((97:UInt8)<=c)=decide ((97:Int)<=(c.toNat:Int)):=oK c 97 Cl;have e2:decide (c<=(122:UInt8))=decide ((c.toNat:Int)<=(122:Int)):=oJ c 122 Cl;have es:HQ c=(decide ((97:Int)<=(c.toNat:Int))&&decide ((c.toNat:Int)<=(122:Int))):=by unfold HQ;rw[e1,e2]
 refine Yi ?_ ?_
 .intro h;refine Yi ?_ ?_
  .intro h2;exact .of_eq (Aa vb (show true=HQ c by rw[es,Ar h,Ar h2];rfl))
  .intro h2;exact .of_eq (Aa vb (show false=HQ c by rw[es,Av h2,Ck]))
 .intro h;exact .of_eq (Aa vb (show false=HQ c by rw[es,Av h];rfl))
theorem ue:PC 287 [vc c] (vb (Fp c)):=by
 refine Ps Ej Tryz.func287 rfl (Nz rfl) ?_;have e1:decide ((48:UInt8)<=c)=decide ((48:Int)<=(c.toNat:Int)):=oK c 48 Cl;have e2:decide (c<=(57:UInt8))=decide ((c.toNat:Int)<=(57:Int)):=oJ c 57 Cl;have es:Fp c=(decide ((48:Int)<=(c.toNat:Int))&&decide ((c.toNat:Int)<=(57:Int))):=by unfold Fp;rw[e1,e2]
 refine Yi ?_ ?_
 .intro h;refine Yi ?_ ?_
  .intro h2;exact .of_eq (Aa vb (show true=Fp c by rw[es,Ar h,Ar h2];rfl))
  .intro h2;exact .of_eq (Aa vb (show false=Fp c by rw[es,Av h2,Ck]))
 .intro h;exact .of_eq (Aa vb (show false=Fp c by rw[es,Av h];rfl))
theorem AbO:PC 357 [vc c] (vb (Yt c)):=by
 refine Ps Ej Tryz.func357 rfl (Nz rfl) ?_;have e1:decide ((65:UInt8)<=c)=decide ((65:Int)<=(c.toNat:Int)):=oK c 65 Cl;have e2:decide (c<=(90:UInt8))=decide ((c.toNat:Int)<=(90:Int)):=oJ c 90 Cl;have es:Yt c=(decide ((65:Int)<=(c.toNat:Int))&&decide ((c.toNat:Int)<=(90:Int))):=by unfold Yt;rw[e1,e2]
 refine Yi ?_ ?_
 .intro h;refine Yi ?_ ?_
  .intro h2;exact .of_eq (Aa vb (show true=Yt c by rw[es,Ar h,Ar h2];rfl))
  .intro h2;exact .of_eq (Aa vb (show false=Yt c by rw[es,Av h2,Ck]))
 .intro h;exact .of_eq (Aa vb (show false=Yt c by rw[es,Av h];rfl))
abbrev d8:Bool:=HQ c||Fp c
theorem AbH:PC 285 [vc c] (vb (d8 c)):=by
 have h1:=ud c;have h2:=ue c;rcases Bt (HQ c)with e | e
 .rw[e]at h1;refine Ps Ej Tryz.func285 rfl (Nz rfl) (Xi .pure (Xi _ (Yi (h1) ?_)));exact .of_eq (Aa vb (show true=d8 c by unfold d8;rw[e];rfl))
 .rw[e]at h1;refine Ps Ej Tryz.func285 rfl (Nz rfl) (Xi .pure (Xi _ (Yi (h1) (Xi .pure (Xi _ (Yi (h2) ?_))))));exact .of_eq (Aa vb (show Fp c=d8 c by unfold d8;rw[e];rfl))
theorem AbK:PC 322 [vc c] (vb (NF c)):=by
 have h1:=ud c;have h2:=AbO c;have h3:=ue c;have ew:NF c=(HQ c||Yt c||Fp c||decide (c=95)):=rfl;rcases Bt (HQ c)with e | e
 .rw[e]at h1;refine Ps Ej Tryz.func322 rfl (Nz rfl) (Xi .pure (Xi _ (Yi (h1) ?_)));exact .of_eq (Aa vb (show true=NF c by rw[ew,e];rfl))
 rw[e]at h1;rcases Bt (Yt c)with e2 | e2
 .rw[e2]at h2;refine Ps Ej Tryz.func322 rfl (Nz rfl) (Xi .pure (Xi _ (Yi (h1) (Xi .pure (Xi _ (Yi (h2) ?_))))));exact .of_eq (Aa vb (show true=NF c by rw[ew,e,e2];rfl))
 rw[e2]at h2;rcases Bt (Fp c)with e3 | e3
 .rw[e3]at h3;refine Ps Ej Tryz.func322 rfl (Nz rfl) (Xi .pure (Xi _ (Yi (h1) (Xi .pure (Xi _ (Yi (h2) (Xi .pure (Xi _ (Yi (h3) ?_)))))))));exact .of_eq (Aa vb (show true=NF c by rw[ew,e,e2,e3];rfl))
 rw[e3]at h3;refine Ps Ej Tryz.func322 rfl (Nz rfl) (Xi .pure (Xi _ (Yi (h1) (Xi .pure (Xi _ (Yi (h2) (Xi .pure (Xi _ (Yi (h3) ?_)))))))));have eb:decide (c=95)=decide ((c.toNat:Int)=95):=by
  rw[B5,AD,AD];constructor
  .intro h;subst h;rfl
  .intro h;exact UInt8.toNat_inj.1 (by show c.toNat=95;omega)
 refine Yi ?_ ?_
 .intro h;exact .of_eq (Aa vb (show true=NF c by rw[ew,e,e2,e3,eb,Ar h];rfl))
 .intro h;exact .of_eq (Aa vb (show false=NF c by rw[ew,e,e2,e3,eb,Av h];rfl))
theorem ff(i:Nat)(h:i<s.data.toList.length):s.data[i]?=some s.data.toList[i]:=by
 rw[<-A5];exact Ge h
theorem uc(f:Nat)(q:UInt8->Bool)(hf:∀c,PC f [vc c] (vb (q c)))(hs:s.data.toList.length<4611686018427387904):PC 284 [vs s,.v (YK f)] (vb (s.data.toList.all q)):=by
 have ET:s.size=s.data.toList.length:=by simp
 refine Ps Ej Tryz.func284 rfl (Nz rfl) (Xi {i:Nat // i<=s.data.toList.length/\∀j (hj:j<s.data.toList.length),j<i->q s.data.toList[j]=true} (Xi (fun i=>⟨[(0,vs s),(1,.v (YK f)),(7,vi s.size),(8,vi i.1)],[],Af⟩) (Xi (fun i=>s.data.toList.length-i.1) (Yi (Xi ⟨0,AA _,fun j _ h=>by omega⟩ ?_) ?_))))
 .exact⟨Z4,Tv,Fh,Tv⟩
 intro⟨i,h1,h2⟩;refine Yi ?_ ?_
 .intro h;have h:(i:Int)<(s.size:Nat):=h;have h:i<s.data.toList.length:=by omega
  refine Xi s.data.toList[i] (Yi ⟨by show(0:Int)<=i;omega,by show s.data[((i:Nat):Int).toNat]?=_;rw[Ch];exact ff s i h⟩ ?_);have hc:=hf s.data.toList[i];refine BN (Bt (q s.data.toList[i])) (fun e=>?_) (fun e=>?_)
  .rw[e]at hc;refine Xi .pure (Xi _ (Yi (hc) (Yi (Ii i ch) (Xi ⟨i+1,by omega,fun j hj IG=>?_⟩ ?_))))
   .rcases B4 j i with z | z
    .exact h2 j hj z
    .have:j=i:=by omega
     subst this;exact e
   .exact⟨Dl s.data.toList.length i ch,Z4,Tv,Fh,Tv⟩
  .rw[e]at hc;refine Xi .pure (Xi _ (Yi (hc) ?_));have er:s.data.toList.all q=false:=by
    rw[AN];intro ha
    have:=AZ.1 ha _ (Al h)
    rw[e]at this;cases this
   exact .of_eq (Aa vb er.symm)
 .intro h;have h:¬(i:Int)<(s.size:Nat):=h;have er:s.data.toList.all q=true:=AZ.2 fun c hc=>by
   obtain⟨j,hj,rfl⟩:=F2 hc;exact h2 j hj ch
  exact .of_eq (Aa vb er.symm)
end Go.Eng
namespace Go.Proofs
open Go.Shelf
def Tryz.laySplit_ren:Go.Shelf.Ren:=⟨fun | 146=>281 | 221=>320 | 268=>353 | 138=>354 | 143=>355 | 195=>370 | 197=>371 | 218=>372 | 219=>373 | 260=>386 | 217=>387 | 225=>388 | 224=>389 | 267=>390 | 266=>404 | 314=>405 | n=>n,fun | 9=>9 | 31=>52 | 3=>3 | 4=>4 | 0=>0 | 105=>425 | 21=>21 | 5=>5 | 46=>99 | 119=>442 | 139=>445 | 138=>444 | 146=>349 | 51=>229 | n=>n,fun | 1=>0 | 3=>4 | 4=>5 | n=>n⟩
theorem Tryz.laySplit:Go.Proofs.Lays.n146 Tryz.prog Tryz.laySplit_ren:={
 mixed:=by kernel_rfl
 f138:=Tryz.func354.trans (congrArg some Go.Eng.Wk)
 f143:=Tryz.func355.trans (congrArg some Go.Eng.Wk)
 f146:=Tryz.func281.trans (congrArg some Go.Eng.Wk)
 f195:=Tryz.func370.trans (congrArg some Go.Eng.Wk)
 f197:=Tryz.func371.trans (congrArg some Go.Eng.Wk)
 f217:=Tryz.func387.trans (congrArg some Go.Eng.Wk)
 f218:=Tryz.func372.trans (congrArg some Go.Eng.Wk)
 f219:=Tryz.func373.trans (congrArg some Go.Eng.Wk)
 f221:=Tryz.func320.trans (congrArg some Go.Eng.Wk)
 f224:=Tryz.func389.trans (congrArg some Go.Eng.Wk)
 f225:=Tryz.func388.trans (congrArg some Go.Eng.Wk)
 f260:=Tryz.func386.trans (congrArg some Go.Eng.Wk)
 f266:=Tryz.func404.trans (congrArg some Go.Eng.Wk)
 f267:=Tryz.func390.trans (congrArg some Go.Eng.Wk)
 f268:=Tryz.func353.trans (congrArg some Go.Eng.Wk)
 f314:=Tryz.func405.trans (congrArg some Go.Eng.Wk)
 t0:=Tryz.underlying0
 a0:=Tryz.isAgg0
 z0:=Tryz.sizeOf0
 v0:=Tryz.zeroValue0
 t3:=Tryz.underlying3
 a3:=Tryz.isAgg3
 z3:=Tryz.sizeOf3
 v3:=Tryz.zeroValue3
 t4:=Tryz.underlying4
 a4:=Tryz.isAgg4
 z4:=Tryz.sizeOf4
 v4:=Tryz.zeroValue4
 t5:=Tryz.underlying5
 a5:=Tryz.isAgg5
 z5:=Tryz.sizeOf5
 v5:=Tryz.zeroValue5
 t9:=Tryz.underlying9
 a9:=Tryz.isAgg9
 z9:=Tryz.sizeOf9
 v9:=Tryz.zeroValue9
 t21:=Tryz.underlying21
 a21:=Tryz.isAgg21
 z21:=Tryz.sizeOf21
 v21:=Tryz.zeroValue21
 t31:=Tryz.underlying52
 a31:=Tryz.isAgg52
 z31:=Tryz.sizeOf52
 v31:=Tryz.zeroValue52
 t46:=Tryz.underlying99
 a46:=Tryz.isAgg99
 z46:=Tryz.sizeOf99
 v46:=Tryz.zeroValue99
 t51:=Tryz.underlying229
 a51:=Tryz.isAgg229
 z51:=Tryz.sizeOf229
 v51:=Tryz.zeroValue229
 t105:=Tryz.underlying425
 a105:=Tryz.isAgg425
 z105:=Tryz.sizeOf425
 v105:=Tryz.zeroValue425
 t119:=Tryz.underlying442
 a119:=Tryz.isAgg442
 z119:=Tryz.sizeOf442
 t138:=Tryz.underlying444
 a138:=Tryz.isAgg444
 z138:=Tryz.sizeOf444
 v138:=Tryz.zeroValue444
 t139:=Tryz.underlying445
 a139:=Tryz.isAgg445
 z139:=Tryz.sizeOf445
 v139:=Tryz.zeroValue445
 t146:=Tryz.underlying349
 a146:=Tryz.isAgg349
 z146:=Tryz.sizeOf349
 v146:=Tryz.zeroValue349
 g1:=by kernel_rfl
 g3:=by kernel_rfl
 g4:=by kernel_rfl }
def Tryz.layLast_ren:Go.Shelf.Ren:=⟨fun | 148=>234 | 222=>288 | 223=>289 | 269=>324 | n=>n,fun | 9=>9 | 3=>3 | 4=>4 | 5=>5 | 146=>349 | 51=>229 | 46=>99 | n=>n,fun | n=>n⟩
theorem Tryz.layLast:Go.Proofs.Lays.n148 Tryz.prog Tryz.layLast_ren:={
 mixed:=by kernel_rfl
 f148:=Tryz.func234.trans (congrArg some Go.Eng.Wk)
 f222:=Tryz.func288.trans (congrArg some Go.Eng.Wk)
 f223:=Tryz.func289.trans (congrArg some Go.Eng.Wk)
 f269:=Tryz.func324.trans (congrArg some Go.Eng.Wk)
 t3:=Tryz.underlying3
 a3:=Tryz.isAgg3
 z3:=Tryz.sizeOf3
 v3:=Tryz.zeroValue3
 t4:=Tryz.underlying4
 a4:=Tryz.isAgg4
 z4:=Tryz.sizeOf4
 v4:=Tryz.zeroValue4
 t5:=Tryz.underlying5
 a5:=Tryz.isAgg5
 z5:=Tryz.sizeOf5
 v5:=Tryz.zeroValue5
 t9:=Tryz.underlying9
 a9:=Tryz.isAgg9
 z9:=Tryz.sizeOf9
 v9:=Tryz.zeroValue9
 t46:=Tryz.underlying99
 a46:=Tryz.isAgg99
 z46:=Tryz.sizeOf99
 v46:=Tryz.zeroValue99
 t51:=Tryz.underlying229
 a51:=Tryz.isAgg229
 z51:=Tryz.sizeOf229
 v51:=Tryz.zeroValue229
 t146:=Tryz.underlying349
 a146:=Tryz.isAgg349
 z146:=Tryz.sizeOf349
 v146:=Tryz.zeroValue349 }
def Tryz.layCut_ren:Go.Shelf.Ren:=⟨fun | 103=>321 | 210=>356 | 206=>269 | n=>n,fun | 9=>9 | 4=>4 | 24=>370 | 3=>3 | n=>n,fun | n=>n⟩
theorem Tryz.layCut:Go.Proofs.Lays.n103 Tryz.prog Tryz.layCut_ren:={
 mixed:=by kernel_rfl
 f103:=Tryz.func321.trans (congrArg some Go.Eng.Wk)
 f206:=Tryz.func269.trans (congrArg some Go.Eng.Wk)
 f210:=Tryz.func356.trans (congrArg some Go.Eng.Wk)
 t3:=Tryz.underlying3
 a3:=Tryz.isAgg3
 z3:=Tryz.sizeOf3
 v3:=Tryz.zeroValue3
 t4:=Tryz.underlying4
 a4:=Tryz.isAgg4
 z4:=Tryz.sizeOf4
 v4:=Tryz.zeroValue4
 t9:=Tryz.underlying9
 a9:=Tryz.isAgg9
 z9:=Tryz.sizeOf9
 v9:=Tryz.zeroValue9
 t24:=Tryz.underlying370
 a24:=Tryz.isAgg370
 z24:=Tryz.sizeOf370
 v24:=Tryz.zeroValue370 }
def Tryz.layCont_ren:Go.Shelf.Ren:=⟨fun | 144=>358 | 143=>355 | 219=>373 | 217=>387 | 225=>388 | 224=>389 | 267=>390 | 266=>404 | 314=>405 | n=>n,fun | 9=>9 | 4=>4 | 3=>3 | 5=>5 | 46=>99 | 146=>349 | 51=>229 | n=>n,fun | 1=>0 | n=>n⟩
theorem Tryz.layCont:Go.Proofs.Lays.n144 Tryz.prog Tryz.layCont_ren:={
 mixed:=by kernel_rfl
 f143:=Tryz.func355.trans (congrArg some Go.Eng.Wk)
 f144:=Tryz.func358.trans (congrArg some Go.Eng.Wk)
 f217:=Tryz.func387.trans (congrArg some Go.Eng.Wk)
 f219:=Tryz.func373.trans (congrArg some Go.Eng.Wk)
 f224:=Tryz.func389.trans (congrArg some Go.Eng.Wk)
 f225:=Tryz.func388.trans (congrArg some Go.Eng.Wk)
 f266:=Tryz.func404.trans (congrArg some Go.Eng.Wk)
 f267:=Tryz.func390.trans (congrArg some Go.Eng.Wk)
 f314:=Tryz.func405.trans (congrArg some Go.Eng.Wk)
 t3:=Tryz.underlying3
 a3:=Tryz.isAgg3
 z3:=Tryz.sizeOf3
 v3:=Tryz.zeroValue3
 t4:=Tryz.underlying4
 a4:=Tryz.isAgg4
 z4:=Tryz.sizeOf4
 v4:=Tryz.zeroValue4
 t5:=Tryz.underlying5
 a5:=Tryz.isAgg5
 z5:=Tryz.sizeOf5
 v5:=Tryz.zeroValue5
 t9:=Tryz.underlying9
 a9:=Tryz.isAgg9
 z9:=Tryz.sizeOf9
 v9:=Tryz.zeroValue9
 t46:=Tryz.underlying99
 a46:=Tryz.isAgg99
 z46:=Tryz.sizeOf99
 v46:=Tryz.zeroValue99
 t51:=Tryz.underlying229
 a51:=Tryz.isAgg229
 z51:=Tryz.sizeOf229
 v51:=Tryz.zeroValue229
 t146:=Tryz.underlying349
 a146:=Tryz.isAgg349
 z146:=Tryz.sizeOf349
 v146:=Tryz.zeroValue349
 g1:=by kernel_rfl }
end Go.Proofs
namespace Go.Eng
open Go.Proofs
variable {y:Sl}{a:AV}(x:List Rl)(s:ByteArray)(l:List Rl)(ifs:List (List AV))(p:ByteArray)
abbrev cH:ByteArray:=⟨#[47]⟩
abbrev B3:List ByteArray:=Go.Lib.splitB cH 0 (Go.Lib.countB s cH) s
theorem QK:(B3 s).map (·.data.toList)=FM 47 s.data.toList:=kh s 47
abbrev Rt:List AV:=[vs s]
theorem xz(hs:Gi s):PC 281 [vs s,vs cH] (sl Rt (B3 s)):=by
 unfold Gi at hs;have h:=jV (P:=Tryz.prog) (f:=281) (args:=[vs s,vs cH]) [.string s,.string cH] ((B3 s).map Value.string) 9 (ah 281 Tryz.func281 Wk rfl) rfl (fun x hx=>by
  obtain⟨y,_,rfl⟩:=Ai.1 hx;rfl) (fun w hm=>by
  obtain⟨m,hm⟩:=hm;have hl:(B3 s).length=Go.Lib.countB s cH+1:=Go.Lib.splitB_all cH Cl 0 _ s rfl;refine(Any.strings_Split Tryz.laySplit Wk s cH m w ch hm Cl).mono ?_
  rintro e w' ⟨rfl,rfl⟩
  exact⟨by rw[Lm,hl],rfl⟩)
 rw[Br]at h;exact h
theorem AbA(hs:Gi s):PC 234 [vs s,vs p] (vi (Go.Lib.lastIndex s.data.toList p.data.toList)):=by
 unfold Gi at hs;exact Kp [.string s,.string p] (.int .i64 (Go.Lib.lastIndex s.data.toList p.data.toList)) (ah 234 Tryz.func234 Wk rfl) rfl (fun g w=>.v _ _) fun w _=>Any.strings_LastIndex Tryz.layLast s p ch w
theorem AbJ:PC 321 [vs s,vs p] (.tup [vs ⟨(Go.Lib.trimPrefix s.data.toList p.data.toList).toArray⟩,vb (Go.Lib.hasPrefix s.data.toList p.data.toList)]):=by
 exact Kp [.string s,.string p] _ (ah 321 Tryz.func321 Wk rfl) rfl (fun g w=>nZ [.string ⟨(Go.Lib.trimPrefix s.data.toList p.data.toList).toArray⟩,.bool (Go.Lib.hasPrefix s.data.toList p.data.toList)]) fun w _=>Any.strings_CutPrefix Tryz.layCut s p w
theorem AbP(hs:Gi s):PC 358 [vs s,vs p] (vb (Go.Lib.contains s.data.toList p.data.toList)):=by
 unfold Gi at hs;exact Kp [.string s,.string p] (.bool (Go.Lib.contains s.data.toList p.data.toList)) (ah 358 Tryz.func358 Wk rfl) rfl (fun g w=>.v _ _) fun w hm=>by
  obtain⟨m,hm⟩:=hm;exact Any.strings_Contains Tryz.layCont s p m w ch hm
theorem gG:∀x y:List UInt8,j8 x y=x.isPrefixOf y
 | [],_=>by simp[j8]
 |_::_,[]=>rfl
 |a::x,b::y=>by
  rw[j8,List.isPrefixOf_cons_cons,gG x y]
  rfl
theorem mQ(x:List UInt8):∀y:List UInt8,inL x y=Go.Lib.contains y x
 | []=>by
  unfold Go.Lib.contains Go.Lib.index;cases x<;>rfl
 |b::y=>by
  rw[inL,gG,mQ x y];unfold Go.Lib.contains;have hg:=Go.Lib.index_ge y x
  conv=>rhs;unfold Go.Lib.index
  cases h:x.isPrefixOf (b::y)with
  |true=>simp
  |false=>
   simp only[MQ,Do,Gu]
   by_cases h0:Go.Lib.index y x=-1
   .rw[h0];rfl
   .have h1:(Go.Lib.index y x == -1)=false:=by simpa using h0
    rw[h1];simp only[Do,Gu];rw[Ar ch,Ar ch]
theorem UX:∀(l:List UInt8) (h:0<l.length),l.headD 0=l[0]
 | [],h=>by simp at h
 |_::_,_=>rfl
abbrev s7:ByteArray:=⟨⟨mZ⟩⟩
theorem AbL(hs:Gi s):PC 323 [vs s] (vb (dA s.data.toList)):=by
 unfold Gi at hs;have hc:=AbP s7 ((⟨#[32]⟩++s)++⟨#[32]⟩) (Gy Wk);have e:Go.Lib.contains s7.data.toList ((⟨#[32]⟩++s:ByteArray)++⟨#[32]⟩).data.toList=dA s.data.toList:=by
  unfold dA;rw[mQ]
  congr 1
 rw[e]at hc;refine Ps Ej Tryz.func323 rfl (Nz rfl) (Yi (by show(((1+s.size:Nat)):Int)<=_;omega) ?_);refine Yi (by show(((⟨#[32]⟩++s:ByteArray).size+1:Nat):Int)<=_;rw[CX];show(((1+s.size)+1:Nat):Int)<=_;omega) ?_;refine Xi .pure (Xi _ (Yi (hc) ?_));exact .refl _
theorem AbG(hs:Gi s):PC 283 [vs s] (vb (I4 s.data.toList)):=by
 have hk:=AbL s hs;have hw:=uc s 322 NF AbK (by unfold Gi at hs;simp;omega);have ET:s.size=s.data.toList.length:=by simp
 have en:I4 s.data.toList=(!s.data.toList.isEmpty&&decide (s.data.toList.length<=32)&&HQ (s.data.toList.headD 0)&&s.data.toList.all NF&&!dA s.data.toList):=rfl
 by_cases h0:s=⟨#[]⟩
 .subst h0;refine Ps Ej Tryz.func283 rfl (Nz rfl) (Yi ?_ ?_)
  .intro h;exact absurd rfl (show(⟨#[]⟩:ByteArray)≠⟨#[]⟩from h)
  .intro _;exact .refl _
 have h0' : s.data.toList≠[]:=fun e=>h0 (by
  have:s.data=#[]:=by rw[<-Js];exact e
  cases s;simp_all)
 have CP:0<s.data.toList.length:=Hm.2 h0';have Wp:s.data.toList.isEmpty=false:=by
  cases hl:s.data.toList with
  |nil=>exact absurd hl h0'
  |cons a l=>rfl
 have hhd:s.data.toList.headD 0=s.data.toList[0]:=UX _ CP;have pq:=ud s.data.toList[0];refine Ps Ej Tryz.func283 rfl (Nz rfl) (Yi ?_ ?_)
 rotate_left
 .intro h;exact absurd h0 h
 intro _;refine Yi ?_ ?_
 rotate_left
 .intro h;exact .of_eq (Aa vb (show false=I4 s.data.toList by rw[en,Av (by omega:¬s.data.toList.length<=32)];simp))
 intro h;refine Xi s.data.toList[0] (Yi ⟨Bn _,ff s 0 CP⟩ (BN (Bt (HQ s.data.toList[0])) (fun e1=>?_) (fun e1=>?_)))
 rotate_left
 .rw[e1]at pq;refine Xi .pure (Xi _ (Yi (pq) ?_));exact .of_eq (Aa vb (show false=I4 s.data.toList by rw[en,hhd,e1];simp))
 rw[e1]at pq;refine Xi .pure (Xi _ (Yi (pq) (BN (Bt (s.data.toList.all NF)) (fun e2=>?_) (fun e2=>?_))))
 rotate_left
 .rw[e2]at hw;refine Xi .pure (Xi _ (Yi (hw) ?_));exact .of_eq (Aa vb (show false=I4 s.data.toList by rw[en,e2];simp))
 rw[e2]at hw;refine Xi .pure (Xi _ (Yi (hw) ?_));have ef:I4 s.data.toList=!dA s.data.toList:=by rw[en,Wp,hhd,e1,e2,Ar (by omega:s.data.toList.length<=32)];rfl
 refine BN (Bt (dA s.data.toList)) (fun e3=>?_) (fun e3=>?_)
 .rw[e3]at hk;refine Xi .pure (Xi _ (Yi (hk) ?_));exact .of_eq (Aa vb (show false=I4 s.data.toList by rw[ef,e3];rfl))
 .rw[e3]at hk;refine Xi .pure (Xi _ (Yi (hk) ?_));exact .of_eq (Aa vb (show true=I4 s.data.toList by rw[ef,e3];rfl))
abbrev Zm:Option Int->AV
 |some n=>.tup [vi n,vb true]
 |none=>.tup [vi 0,vb false]
theorem hJ{z:Int}(h0:0<=z)(h1:z<256):IntKind.u8.wrap z=z:=by
 show z % 256=z;omega
theorem Xg{c:UInt8}(h:Fp c=true):48<=c.toNat/\c.toNat<=57:=by
 unfold Fp at h;simp only[Ag,AD]at h;exact⟨Mx.1 h.1,Mx.1 h.2⟩
theorem XH(r:List UInt8)(i:Nat)(h:i<r.length):G9 (r.take (i+1))=10*G9 (r.take i)+((r[i].toNat:Int)-48):=by
 unfold G9;rw[Bj,Ge h,Et];rfl
theorem AbF(hs:Gi s):PC 282 [vs s] (Zm (MP s.data.toList)):=by
 unfold Gi at hs;have hc:=AbJ s ⟨#[118]⟩
 by_cases hp:∃r,s.data.toList=118::r
 .obtain⟨r,hr⟩:=hp;have e1:Go.Lib.hasPrefix s.data.toList (⟨#[118]⟩:ByteArray).data.toList=true:=by rw[hr];rfl
  have e2:Go.Lib.trimPrefix s.data.toList (⟨#[118]⟩:ByteArray).data.toList=r:=by unfold Go.Lib.trimPrefix;rw[e1,Ao rfl,hr];rfl
  rw[e1,e2]at hc;have hv:MP s.data.toList=if(r.isEmpty||decide (3<r.length)||(decide (1<r.length)&&decide (r.headD 0=48))||!r.all Fp)=true then none else some (G9 r):=by rw[hr];rfl
  have hrl:r.length<s.size:=by
   have:s.size=s.data.toList.length:=by simp
   rw[this,hr];simp
  generalize hB:(⟨r.toArray⟩:ByteArray)=rB at hc;have qo:rB.data.toList=r:=by rw[<-hB]
  have xU:rB.size=r.length:=by rw[<-hB];rfl
  have hw:=uc rB 287 Fp ue (by rw[qo];omega);rw[qo]at hw;have no:∀{b:Bool},b=true->(if b=true then none else some (G9 r))=(none:Option Int):=fun h=>Ao h;refine Ps (Kr []) Tryz.func282 rfl (Nz rfl) (Xi .pure (Xi _ (Yi (hc) (Yi ?_ ?_))))
  .intro h
   have:r=[]:=by rw[<-qo,h]
   exact .of_eq (Aa Zm (show(none:Option Int)=MP s.data.toList by rw[hv,this];rfl))
  intro h;have DD:r≠[]:=fun e=>h (by rw[<-hB,e]);have CP:0<r.length:=Hm.2 DD;have Wp:r.isEmpty=false:=by
   cases hl:r with
   |nil=>exact absurd hl DD
   |cons a l=>rfl
  refine Yi ?_ ?_
  .intro h2;exact .of_eq (Aa Zm (show(none:Option Int)=MP s.data.toList by rw[hv,no];rw[Ar (by omega:3<r.length)];simp))
  intro h2;have hl3:r.length<=3:=by omega
  have d3:decide (3<r.length)=false:=Av ch;refine Yi ?_ ?_
  .intro h3;have Acs:rB.data[(0:Int).toNat]?=some r[0]:=by
    show rB.data[0]?=_;rw[<-A5,qo];exact Ge CP
   refine Xi r[0] (Yi ⟨Bn _,Acs⟩ ?_);have hh:=UX r CP;refine Yi ?_ ?_
   .intro h4
    have:r[0]=48:=UInt8.toNat_inj.1 (by show r[0].toNat=48;omega)
    exact .of_eq (Aa Zm (show(none:Option Int)=MP s.data.toList by rw[hv,hh,this,Ar (by omega:1<r.length)];simp))
   intro h4;have eo:(decide (1<r.length)&&decide (r.headD 0=48))=false:=by rw[hh,Av (show ¬r[0]=48 from fun e=>h4 (by rw[e];rfl)),Ck]
   have qD:MP s.data.toList=if(!r.all Fp)=true then none else some (G9 r):=by rw[hv,Wp,d3,eo];rfl
   refine BN (Bt (r.all Fp)) (fun e3=>?_) (fun e3=>?_)
   rotate_left
   .rw[e3]at hw;refine Xi .pure (Xi _ (Yi (hw) ?_));exact .of_eq (Aa Zm (show(none:Option Int)=MP s.data.toList by rw[qD,e3];rfl))
   rw[e3]at hw;refine Xi .pure (Xi _ (Yi (hw) ?_));have hv3:MP s.data.toList=some (G9 r):=by rw[qD,e3];rfl
   have z0:G9 (r.take 0)=0:=rfl;refine Xi {i:Nat // i<=r.length/\0<=G9 (r.take i)/\(i=0->G9 (r.take i)<=0)/\(i<=1->G9 (r.take i)<=9)/\(i<=2->G9 (r.take i)<=99)/\G9 (r.take i)<=999} (Xi (fun i=>⟨[(0,vs rB),(5,vi (G9 (r.take i.1))),(39,vi rB.size),(40,vi i.1)],[],Af⟩) (Xi (fun i=>r.length-i.1) (Yi (Xi ⟨0,AA _,by omega,fun _=>by omega,fun _=>by omega,fun _=>by omega,by omega⟩ ?_) ?_)))
   .exact⟨Z4,Tv,Fh,Tv⟩
   intro⟨i,i1,i2,i3,i4,i5,i6⟩;refine Yi ?_ ?_
   .intro h;have h:(i:Int)<(rB.size:Nat):=h;have h:i<r.length:=by omega
    have hdg:Fp r[i]=true:=AZ.1 e3 _ (Al h);have wU:=Xg hdg;have hnx:=XH r i h;have uX:IntKind.u8.wrap ((r[i].toNat:Int)-48)=(r[i].toNat:Int)-48:=hJ ch ch;have sH:rB.data[((i:Nat):Int).toNat]?=some r[i]:=by rw[Ch,<-A5,qo];exact Ge h
    refine Yi (by show Ba (10*G9 (r.take i));unfold Ba;omega) (Xi r[i] (Yi ⟨by show(0:Int)<=i;omega,sH⟩ ?_));refine Yi (by show Ba (IntKind.u8.wrap ((r[i].toNat:Int)-48));rw[uX];unfold Ba;omega) ?_;refine Yi (by show Ba (10*G9 (r.take i)+IntKind.u8.wrap ((r[i].toNat:Int)-48));rw[uX];unfold Ba;omega) ?_;refine Yi (Ii i ch) ?_;have e5:vi (10*G9 (r.take i)+IntKind.u8.wrap ((r[i].toNat:Int)-48))=vi (G9 (r.take (i+1))):=by rw[uX,hnx]
    refine Xi ⟨i+1,by omega,by omega,fun _=>by omega,fun _=>by omega,fun _=>by omega,by omega⟩ ?_;exact⟨Dl r.length i ch,⟨Zr,⟨e5,rfl⟩,Zr,Zr,Tv⟩,Tv,Fh,Tv⟩
   .intro h;have h:¬(i:Int)<(rB.size:Nat):=h;have e6:AV.tup [vi (G9 (r.take i)),vb true]=Zm (MP s.data.toList):=by rw[hv3,At ch]
    exact .of_eq e6
  .intro h3;have h3:¬(1:Int)<((rB.size:Nat):Int):=h3;have eo:(decide (1<r.length)&&decide (r.headD 0=48))=false:=by rw[Av (by omega:¬1<r.length)];rfl
   have qD:MP s.data.toList=if(!r.all Fp)=true then none else some (G9 r):=by rw[hv,Wp,d3,eo];rfl
   refine BN (Bt (r.all Fp)) (fun e3=>?_) (fun e3=>?_)
   rotate_left
   .rw[e3]at hw;refine Xi .pure (Xi _ (Yi (hw) ?_));exact .of_eq (Aa Zm (show(none:Option Int)=MP s.data.toList by rw[qD,e3];rfl))
   rw[e3]at hw;refine Xi .pure (Xi _ (Yi (hw) ?_));have hv3:MP s.data.toList=some (G9 r):=by rw[qD,e3];rfl
   have z0:G9 (r.take 0)=0:=rfl;refine Xi {i:Nat // i<=r.length/\0<=G9 (r.take i)/\(i=0->G9 (r.take i)<=0)/\(i<=1->G9 (r.take i)<=9)/\(i<=2->G9 (r.take i)<=99)/\G9 (r.take i)<=999} (Xi (fun i=>⟨[(0,vs rB),(5,vi (G9 (r.take i.1))),(39,vi rB.size),(40,vi i.1)],[],Af⟩) (Xi (fun i=>r.length-i.1) (Yi (Xi ⟨0,AA _,by omega,fun _=>by omega,fun _=>by omega,fun _=>by omega,by omega⟩ ?_) ?_)))
   .exact⟨Z4,Tv,Fh,Tv⟩
   intro⟨i,i1,i2,i3,i4,i5,i6⟩;refine Yi ?_ ?_
   .intro h;have h:(i:Int)<(rB.size:Nat):=h;have h:i<r.length:=by omega
    have hdg:Fp r[i]=true:=AZ.1 e3 _ (Al h);have wU:=Xg hdg;have hnx:=XH r i h;have uX:IntKind.u8.wrap ((r[i].toNat:Int)-48)=(r[i].toNat:Int)-48:=hJ ch ch;have sH:rB.data[((i:Nat):Int).toNat]?=some r[i]:=by rw[Ch,<-A5,qo];exact Ge h
    refine Yi (by show Ba (10*G9 (r.take i));unfold Ba;omega) (Xi r[i] (Yi ⟨by show(0:Int)<=i;omega,sH⟩ ?_));refine Yi (by show Ba (IntKind.u8.wrap ((r[i].toNat:Int)-48));rw[uX];unfold Ba;omega) ?_;refine Yi (by show Ba (10*G9 (r.take i)+IntKind.u8.wrap ((r[i].toNat:Int)-48));rw[uX];unfold Ba;omega) ?_;refine Yi (Ii i ch) ?_;have e5:vi (10*G9 (r.take i)+IntKind.u8.wrap ((r[i].toNat:Int)-48))=vi (G9 (r.take (i+1))):=by rw[uX,hnx]
    refine Xi ⟨i+1,by omega,by omega,fun _=>by omega,fun _=>by omega,fun _=>by omega,by omega⟩ ?_;exact⟨Dl r.length i ch,⟨Zr,⟨e5,rfl⟩,Zr,Zr,Tv⟩,Tv,Fh,Tv⟩
   .intro h;have h:¬(i:Int)<(rB.size:Nat):=h;have e6:AV.tup [vi (G9 (r.take i)),vb true]=Zm (MP s.data.toList):=by rw[hv3,At ch]
    exact .of_eq e6
 .have e1:Go.Lib.hasPrefix s.data.toList (⟨#[118]⟩:ByteArray).data.toList=false:=by
   cases hl:s.data.toList with
   |nil=>rfl
   |cons a l=>
    have:a≠118:=fun e=>hp ⟨l,by rw[hl,e]⟩
    show(List.isPrefixOf [118] (a::l))=false;rw[List.isPrefixOf_cons_cons]
    have:((118:UInt8) == a)=false:=by rw[beq_eq_false_iff_ne];exact fun e=>this e.symm
    rw[this];rfl
  have hv:MP s.data.toList=none:=by
   cases hl:s.data.toList with
   |nil=>rfl
   |cons a l=>
    have:a≠118:=fun e=>hp ⟨l,by rw[hl,e]⟩
    show(if a=118 then _ else none)=none;rw[Aj this]
  rw[e1]at hc;refine Ps Ej Tryz.func282 rfl (Nz rfl) (Xi .pure (Xi _ (Yi (hc) ?_)));exact .of_eq (Aa Zm hv.symm)
abbrev dD:Option Int->AV
 |some n=>.tup [vi n,vi 0]
 |none=>.tup [vi 0,vi 4]
theorem VT(c:UInt8):∀(s x:List UInt8),x∈FM c s->x.length<=s.length
 | [],x,h=>by
  rw[FM]at h;rw[Aq.1 h];exact Ak _
 |b::r,x,h=>by
  have ih:=VT c r;rw[FM]at h;split at h
  .rcases AC.1 h with rfl | h
   .exact AA _
   .have:=ih x h;rw[Am];omega
  .split at h
   .rw[Aq.1 h];rw[Am];simp
   .rename_i y l e;rcases AC.1 h with rfl | h
    .have:=ih y (by rw[e];exact Ab ..);rw[Am,Am];omega
    .have:=ih x (by rw[e];exact Ah _ h);rw[Am];omega
theorem nL{p x:ByteArray}(hp:Gi p)(hx:x∈B3 p):Gi x:=by
 have h:x.data.toList∈FM 47 p.data.toList:=by rw[<-QK];exact Ai.2 ⟨x,hx,rfl⟩
 have:=VT 47 _ _ h
 unfold Gi at *
 have e1:x.size=x.data.toList.length:=by simp
 have e2:p.size=p.data.toList.length:=by simp
 omega
theorem jT:(B3 p).length=(FM 47 p.data.toList).length:=by rw[<-QK,Lm]
theorem jU:0<(B3 p).length:=by
 rw[show(B3 p).length=Go.Lib.countB p cH+1 from Go.Lib.splitB_all cH Cl 0 _ p rfl];omega
theorem jS:(B3 p).length<=p.size+1:=by
 rw[show(B3 p).length=Go.Lib.countB p cH+1 from Go.Lib.splitB_all cH Cl 0 _ p rfl]
 have:=Go.Lib.countB_le cH Cl p.size p (Ak _);omega
theorem dN(h:(B3 p).length-1<(B3 p).length):(FM 47 p.data.toList).getLastD []=((B3 p)[(B3 p).length-1]).data.toList:=by
 rw[<-QK,List.getLastD_eq_getLast?,List.getLast?_eq_getElem?,Lm,AH,Ge h];rfl
theorem jR:(FM 47 p.data.toList).all OF=(B3 p).all fun x=>OF x.data.toList:=by
 rw[<-QK,List.all_map];rfl
theorem xx(hp:Gi p):PC 232 [vs p] (dD (CG p)):=by
 have hps:=jS p;have dv:=jU p;have hp1:(B3 p).length-1<(B3 p).length:=by omega
 have ET:p.size=p.data.toList.length:=by simp
 have hfp:∀{x},x∈B3 p->Gi x:=fun h=>nL hp h;unfold Gi at hp;have Wq:((B3 p).map Rt)[((((B3 p).map Rt).length:Int)-1).toNat]?=some (Rt (B3 p)[(B3 p).length-1]):=by
  rw[Lm,show(((B3 p).length:Int)-1).toNat=(B3 p).length-1 by omega];exact Ed (Ge hp1)
 have hv:=AbF (B3 p)[(B3 p).length-1] (hfp (Al hp1));have em:CG p=match MP ((B3 p)[(B3 p).length-1]).data.toList with
  |none=>none
  |some n=>if(decide (64<p.data.toList.length)||decide ((B3 p).length<2))=true then none else if((B3 p).all fun x=>OF x.data.toList)=true then some n else none:=by
  unfold CG dE;rw[dN p hp1,jR,<-jT];cases MP ((B3 p)[(B3 p).length-1]).data.toList with
  |none=>rfl
  |some n=>rfl
 cases hve:MP ((B3 p)[(B3 p).length-1]).data.toList with
 |none=>
  rw[hve]at hv em;refine Ps (Kr []) Tryz.func232 rfl (Nz rfl) (Xi .pure (Xi _ (Yi (xz p hp) (Yi (by show Ba ((((B3 p).map Rt).length:Int)-1);unfold Ba;rw[Lm];omega) ?_))));refine Xi (Rt (B3 p)[(B3 p).length-1]) (Yi (Yi (by show(0:Int)<=(((B3 p).map Rt).length:Int)-1;rw[Lm];omega) Wq) (Yi rfl ?_));refine Xi .pure (Xi _ (Yi (hv) ?_));exact .of_eq (Aa dD em.symm)
 |some n=>
  rw[hve]at hv em;refine Ps (Kr []) Tryz.func232 rfl (Nz rfl) (Xi .pure (Xi _ (Yi (xz p hp) (Yi (by show Ba ((((B3 p).map Rt).length:Int)-1);unfold Ba;rw[Lm];omega) ?_))));refine Xi (Rt (B3 p)[(B3 p).length-1]) (Yi (Yi (by show(0:Int)<=(((B3 p).map Rt).length:Int)-1;rw[Lm];omega) Wq) (Yi rfl ?_));refine Xi .pure (Xi _ (Yi (hv) (Yi ?_ ?_)))
  .intro h;exact .of_eq (Aa dD (show(none:Option Int)=CG p by rw[em,Ar (by omega:64<p.data.toList.length)];rfl))
  intro h;have d1:decide (64<p.data.toList.length)=false:=Av ch;refine Yi ?_ ?_
  .intro h2;rw[Lm]at h2;exact .of_eq (Aa dD (show(none:Option Int)=CG p by rw[em,d1,Ar (by omega:(B3 p).length<2)];rfl))
  intro h2;have d2:decide ((B3 p).length<2)=false:=Av (by rw[Lm]at h2;omega);have em2:CG p=if((B3 p).all fun x=>OF x.data.toList)=true then some n else none:=by rw[em,d1,d2];rfl
  refine Xi {i:Nat // i<=(B3 p).length/\∀j (hj:j<(B3 p).length),j<i->OF ((B3 p)[j]).data.toList=true} (Xi (fun i=>⟨[(5,vi n),(33,sl Rt (B3 p)),(34,vi ((B3 p).map Rt).length),(35,vi i.1)],[],Af⟩) (Xi (fun i=>(B3 p).length-i.1) (Yi (Xi ⟨0,AA _,fun j _ h=>by omega⟩ ?_) ?_)))
  .exact⟨Z4,Tv,Fh,Tv⟩
  intro⟨i,i1,i2⟩;refine Yi ?_ ?_
  .intro h;have h:i<(B3 p).length:=by simpa using h
   have hg:(B3 p)[i]?=some (B3 p)[i]:=Ge h;refine Xi (Rt (B3 p)[i]) (Yi (Yi (Nn i) (by simp[hg])) (Yi rfl ?_));have hfi:=hfp (Al h);have hn:=AbG (B3 p)[i] hfi;have ha:=uc (B3 p)[i] 285 d8 AbH (by unfold Gi at hfi;have e1:(B3 p)[i].size=(B3 p)[i].data.toList.length:=B0;omega);have no:OF ((B3 p)[i]).data.toList=false->(none:Option Int)=CG p:=fun e=>by
    rw[em2,Aj];intro GE
    have:=AZ.1 GE _ (Al h)
    rw[e]at this;cases this
   refine BN (Bt (I4 ((B3 p)[i]).data.toList)) (fun e1=>?_) (fun e1=>?_)
   rotate_left
   .rw[e1]at hn;refine Xi .pure (Xi _ (Yi (hn) ?_));exact .of_eq (Aa dD (no (by unfold OF;rw[e1];rfl)))
   rw[e1]at hn;refine Xi .pure (Xi _ (Yi (hn) (BN (Bt (((B3 p)[i]).data.toList.all d8)) (fun e2=>?_) (fun e2=>?_))))
   rotate_left
   .rw[e2]at ha;refine Xi .pure (Xi _ (Yi (ha) ?_));exact .of_eq (Aa dD (no (by unfold OF;rw[e1];exact e2)))
   rw[e2]at ha;refine Xi .pure (Xi _ (Yi (ha) (Yi (Ii i ch) (Xi ⟨i+1,by omega,fun j hj IG=>?_⟩ ?_))))
   .rcases B4 j i with z | z
    .exact i2 j hj z
    .have:j=i:=by omega
     subst this;unfold OF;rw[e1];exact e2
   .exact⟨by show(B3 p).length-(i+1)<(B3 p).length-i;omega,Z4,Tv,Fh,Tv⟩
  .intro h;have h:¬i<(B3 p).length:=by simpa using h
   have e:some n=CG p:=by
    rw[em2,Ao];exact AZ.2 fun x hx=>by
     obtain⟨j,hj,rfl⟩:=F2 hx;exact i2 j hj ch
   exact .of_eq (Aa dD e)
theorem Abz(hp:Gi p):PC 233 [vs p] (vb (CG p).isSome):=by
 have hc:=xx p hp;cases h:CG p with
 |none=>
  rw[h]at hc;refine Ps Ej Tryz.func233 rfl (Nz rfl) (Xi .pure (Xi _ (Yi (hc) (Yi ?_ ?_))))
  .intro h;exact absurd (show(4:Int)=0 from h) Cl
  .intro _;exact .refl _
 |some n=>
  rw[h]at hc;refine Ps Ej Tryz.func233 rfl (Nz rfl) (Xi .pure (Xi _ (Yi (hc) (Yi ?_ ?_))))
  .intro _;exact .refl _
  .intro h;exact absurd rfl h
theorem VU(c:UInt8):∀s:List UInt8,2<=(FM c s).length->c∈s
 | [],h=>by rw[FM]at h;simp at h
 |b::r,h=>by
  rw[FM]at h
  by_cases e:b=c
  .exact e▸Ab ..
  .rw[Aj e]at h;refine Ah _ (VU c r ?_);cases hs:FM c r with
   |nil=>rw[hs]at h;simp at h
   |cons x l=>rw[hs]at h;simpa using h
theorem m5{p:ByteArray}{m:Int}(h:CG p=some m):0<=Go.Lib.lastIndex p.data.toList [47]/\Go.Lib.lastIndex p.data.toList [47]<=p.size:=by
 have h2:2<=(FM 47 p.data.toList).length:=by
  unfold CG dE at h;split at h
  .cases h
  .split at h
   .cases h
   .rename_i hn;simp only[CO,AD]at hn;omega
 have hm:=VU 47 _ h2;obtain⟨i,hi,e⟩:=F2 hm;have ET:p.size=p.data.toList.length:=by simp
 unfold Go.Lib.lastIndex;rw[Ao (by simp only[Bg];omega)];have Ad1:Go.Lib.occAt p.data.toList [47] i=true:=by
  unfold Go.Lib.occAt;rw[AI hi,e];simp
 rcases Go.Lib.lastOcc_spec p.data.toList [47] (p.data.toList.length - [(47:UInt8)].length+1)with ⟨_,h3⟩ | ⟨j,h3,h4,_⟩
 .have:=h3 i (by simp only[Bg];omega)
  rw[Ad1]at this;cases this
 .rw[h4];simp only[Bg]at h3;omega
abbrev vl:ByteArray:=p.extract 0 (Go.Lib.lastIndex p.data.toList [47]).toNat
theorem Wm:Wf vl:=by
 intro p hp;have hc:=xx p hp;have hi:=Abz p hp;unfold fZ;cases h:CG p with
 |none=>
  rw[h]at hc hi;refine Ps Ej Tryz.func167 rfl (Nz rfl) (Xi .pure (Xi _ (Yi (hc) (Xi .pure (Xi _ (Yi (hi) ?_))))));exact .refl _
 |some n=>
  rw[h]at hc hi;obtain⟨l1,l2⟩:=m5 h;have hl:PC 234 [vs p,vs cH] (vi (Go.Lib.lastIndex p.data.toList [47])):=AbA p cH hp;refine Ps Ej Tryz.func167 rfl (Nz rfl) (Xi .pure (Xi _ (Yi (hc) (Xi .pure (Xi _ (Yi (hi) (Yi ?_ ?_)))))))
  .intro h;exact absurd rfl h
  intro _;refine Xi .pure (Xi _ (Yi (hl) (Yi ⟨Bn _,l1,l2⟩ ?_)));exact .refl _
theorem QO{l:List Rq}(h:BK l=0):l.length<=16:=by
 unfold BK at h;split at h
 .cases h
 .omega
theorem Mi{x:List Rl}(h:A6 x=0):x.length<=256/\∀r∈x,r.reqs.length<=16:=by
 have h1:x.length<=256:=by
  unfold A6 at h;split at h
  .cases h
  .omega
 exact⟨h1,fun r hr=>QO ((CC h).1 r hr).reqs⟩
theorem lZ{x:List Rl}(h:∀r∈x,r.reqs.length<=16):((x.map (·.reqs)).flatten).length<=x.length*16:=by
 induction x with
 |nil=>simp
 |cons r x ih=>
  rw[AL,BC,Ac,Am]
  have:=h r (Ab ..)
  have:=ih fun s hs=>h s (Ah _ hs)
  omega
theorem dQ{x:List Rl}{roots:List Rq}{l:List Nf}(h1:A6 x=0)(h2:BK roots=0)(h3:l.length<=65536):(Lk x roots l).length<=100000:=by
 obtain⟨a,b⟩:=Mi h1
 have:=lZ b
 have:=QO h2
 unfold Lk;simp only[Ac,Lm];omega
theorem WG.fewI{U:List ByteArray}{t:List Tm}(h:WG U t)(hu:U.length<=100000):tA t:=
 ⟨by have:=h.len;omega,fun u hu=>Qe (h.1.canon u hu)⟩
abbrev HH:AV:=.agg (Ic x ifs)
abbrev ZB:E9:=⟨true,[.str,.int .i64,.int .i64,.int .i64]⟩
abbrev SM(y:Sl):Value:=.agg #[.string y.path,.int .i64 y.ver.a,.int .i64 y.ver.b,.int .i64 y.ver.c]
abbrev Wc(r:Rl):Value×AV:=(SM (Gn r),.agg (AF r))
def AY:List Rl->List ByteArray->List ByteArray
 | [],acc=>acc
 |r::x,acc=>AY x (if acc.any (fun p=>decide (p=r.path))then acc else acc++[r.path])
abbrev qM:Value×AV:=(.string p,sl AF (x.filter fun r=>decide (r.path=p)))
abbrev WC:AV:=if A6 x=0 then .tup [.agg [.cmap ZB (x.map Wc),.cmap Cr ((AY x []).map (qM x))],vi 0]else .tup [.agg [.cmap ZB [],.cmap Cr []],vi (A6 x)]
abbrev kB:Prop:=PC 82 [HH x ifs] (WC x)
theorem AbT:PC 83 [.agg tt] (.agg tt):=by
 refine Ps Ej Tryz.func83 rfl (Nz rfl) (yN (Xi Unit (Xi (fun _=>⟨[(1,.ref 1 0),(2,.ref 2 0),(10,vi 0),(11,vi 0)],[(1,.cells tt),(2,.cells tt)],Af⟩) (Xi (fun _=>0) (Yi (Xi () ?_) ?_)))))
 .exact⟨Z4,Z2,Fh,Tv⟩
 intro _;refine Yi ?_ ?_
 .intro h;exact absurd (show(0:Int)<0 from h) Cl
 .intro _;refine Yi (Nz rfl) (Yi (Nz rfl) (yN ?_));exact .refl _
theorem qI{z:Sl}(h:SM y=SM z):y=z:=by
 obtain⟨p,⟨a,b,c⟩⟩:=y;obtain⟨q,⟨d,e,f⟩⟩:=z;simp only[SM,Value.agg.injEq,Array.mk.injEq,Ff,Value.string.injEq,Value.int.injEq,true_and,and_true]at h;obtain⟨rfl,rfl,rfl,rfl⟩:=h
 rfl
theorem fX{x:List Rl}(h:(SM y,a)∈x.map Wc):∃r∈x,Gn r=y/\a=.agg (AF r):=by
 obtain⟨r,h1,h2⟩:=Ai.1 h;simp only[Wc,Gd]at h2;exact⟨r,h1,qI h2.1,h2.2.symm⟩
theorem lY{x:List Rl}(hx:A6 x=0){r:Rl}(hr:r∈x):Dh x (Gn r)=some r:=by
 unfold Dh;rw[Aj ch];cases h:x.find? (fun s=>decide (Gn s=Gn r))with
 |none=>
  rw[DU]at h;exact absurd B0 (h r hr)
 |some s=>
  have h1:=DP h;simp only[AD]at h1;have hs:=BF h;have hp:=(CC hx).2;rcases BU.1 hr with ⟨i,hi,e1⟩;rcases BU.1 hs with ⟨j,hj,e2⟩;rcases Nat.lt_trichotomy i j with Pt | Pt | Pt
  .have:=(AT.1 hp) i j hi hj Pt
   rw[e1,e2]at this;exact(HN this h1.symm).elim
  .subst Pt;rw[<-e1,<-e2]
  .have:=(AT.1 hp) j i hj hi Pt
   rw[e1,e2]at this;exact(HN this h1).elim
theorem c53(v:Ver)(df:kB x ifs)(hx:∀r∈x,En r):PC 42 [HH x ifs,vs p,.agg (DL v)] (gz (Dh x ⟨p,v⟩)):=by
 have hz:=AbT
 by_cases h0:A6 x=0
 .have df:PC 82 [HH x ifs] (.tup [.agg [.cmap ZB (x.map Wc),.cmap Cr ((AY x []).map (qM x))],vi 0]):=by
   have:=df;unfold kB WC at this;rw[Ao h0]at this;exact this
  refine Ps (Kr []) Tryz.func42 rfl (Nz rfl) (yN (Xi .pure (Xi _ (Yi (df) (yN (yN (Yi ?_ ?_)))))))
  .intro a ha;refine CR (fX (y:=⟨p,v⟩) ha) (fun r hr=>?_);have e:=hr.2.2;subst e;have hf:Dh x ⟨p,v⟩=some r:=by rw[<-hr.2.1];exact lY h0 hr.1
   have yT:=(Mi h0).2 r hr.1;have hc:=c98 r ch (fun q hq=>((hx r hr.1).2 q hq).1);refine yN (yN (Xi .pure (Xi _ (Yi (hc) (Yi (Nz rfl) (yN ?_))))));exact .of_eq (show AV.tup [.agg (AF r),vb true]=gz (Dh x ⟨p,v⟩) by rw[hf])
  .intro hn;have hf:Dh x ⟨p,v⟩=none:=by
    cases h:Dh x ⟨p,v⟩with
    |none=>rfl
    |some r=>
     obtain⟨_,h2,h3⟩:=JX h;exact absurd (Ai.2 ⟨r,h2,by rw[show Wc r=(SM (Gn r),AV.agg (AF r))from rfl,h3]⟩) (hn (.agg (AF r)))
   refine yN (yN (Xi .pure (Xi _ (Yi (hz) (Yi (Nz rfl) (yN ?_))))));exact .of_eq (show AV.tup [.agg tt,vb false]=gz (Dh x ⟨p,v⟩) by rw[hf])
 .have df:PC 82 [HH x ifs] (.tup [.agg [.cmap ZB [],.cmap Cr []],vi (A6 x)]):=by
   have:=df;unfold kB WC at this;rw[Aj h0]at this;exact this
  have hf:Dh x ⟨p,v⟩=none:=by unfold Dh;rw[Ao h0]
  refine Ps (Kr []) Tryz.func42 rfl (Nz rfl) (yN (Xi .pure (Xi _ (Yi (df) (yN (yN (Yi ?_ ?_)))))))
  .intro a ha;cases ha
  .intro _;refine yN (yN (Xi .pure (Xi _ (Yi (hz) (Yi (Nz rfl) (yN ?_))))));exact .of_eq (show AV.tup [.agg tt,vb false]=gz (Dh x ⟨p,v⟩) by rw[hf])
abbrev EX:Bx:=(l.filter fun r=>!r.yanked).map fun r=>(plc r.ver,plc r.ver+1)
theorem eD:(EX l).length<=l.length:=by
 unfold EX;rw[Lm];exact Bv _ _
theorem fW{x:List Rl}{ps:List ByteArray}{p:ByteArray}(h:(Value.string p,a)∈ps.map (qM x)):a=sl AF (x.filter fun r=>decide (r.path=p)):=by
 obtain⟨q,_,h2⟩:=Ai.1 h;simp only[qM,Gd,Value.string.injEq]at h2;rw[<-h2.2,h2.1]
theorem PH{acc:List ByteArray}{p:ByteArray}:(acc.any fun q=>decide (q=p))=true↔p∈acc:=by
 rw[Bd];constructor
 .rintro⟨q,h1,h2⟩;rw[<-AK h2];exact h1
 .intro h;exact⟨p,h,by simp⟩
theorem GX:∀(x:List Rl) (acc:List ByteArray) (p:ByteArray),p∈AY x acc↔p∈acc\/∃r∈x,r.path=p
 | [],acc,p=>by simp[AY]
 |r::x,acc,p=>by
  rw[AY,GX x];constructor
  .rintro(h | ⟨s,h1,h2⟩)
   .split at h
    .exact .inl h
    .rcases AP.1 h with h | h
     .exact .inl h
     .exact .inr ⟨r,Ab ..,(Aq.1 h).symm⟩
   .exact .inr ⟨s,Ah _ h1,h2⟩
  .rintro(h | ⟨s,h1,h2⟩)
   .left
    split
    .exact h
    .exact BD _ h
   .rcases AC.1 h1 with rfl | h1
    .left
     split
     .rename_i hh;rw[<-h2];exact PH.1 hh
     .rw[<-h2];exact Bw _ (Aq.2 rfl)
    .exact .inr ⟨s,h1,h2⟩
abbrev tb:Th:=(pT [] [(7,2)] [])
theorem WW(L:List Rl)(i:Nat)(h:i<L.length):EX (L.take (i+1))=EX (L.take i)++(if L[i].yanked then []else [(plc L[i].ver,plc L[i].ver+1)]):=by
 unfold EX;rw[Bj,Ge h,EK,As]
 congr 1
 cases hy:L[i].yanked<;>simp[hy]
theorem AbD(df:kB x ifs):PC 185 [HH x ifs,vs p] (sl AE (Cn x p)):=by
 by_cases h0:A6 x=0
 .have df:PC 82 [HH x ifs] (.tup [.agg [.cmap ZB (x.map Wc),.cmap Cr ((AY x []).map (qM x))],vi 0]):=by
   have:=df;unfold kB WC at this;rw[Ao h0]at this;exact this
  have sZ:=(Mi h0).1;obtain⟨L,dg⟩:∃L,L=x.filter fun r=>decide (r.path=p):=⟨_,rfl⟩;have hL:Li x p=L:=by unfold Li;rw[Aj ch,dg]
  have hLl:L.length<=256:=by have:=Bv (fun r:Rl=>decide (r.path=p)) x;rw[dg];omega
  refine Ps tb Tryz.func185 rfl (Nz rfl) (yN (Xi .pure (Xi _ (Yi (df) (yN (Yi ?_ ?_))))))
  .intro a ha;have ea:a=sl AF L:=by rw[dg];exact fW ha
   subst ea;refine Xi {i:Nat // i<=L.length} (Xi (fun i=>⟨[(7,.slice (.id 7 2) ((EX (L.take i.1)).map AE)),(18,sl AF L),(19,vi (L.map AF).length),(20,vi i.1)],[(7,.tok 2 ((EX (L.take i.1)).map AE).length)],Af⟩) (Xi (fun i=>L.length-i.1) (Yi (Xi ⟨0,AA _⟩ ?_) ?_)))
   .exact⟨Z4,Z1,Fh,Tv⟩
   intro⟨i,i1⟩;have SH:=eD (L.take i);rw[Aw]at SH;refine Yi ?_ ?_
   .intro h;have h:i<L.length:=by simpa using h
    have hg:L[i]?=some L[i]:=Ge h;refine Xi (AF L[i]) (Yi (Yi (Nn i) (by simp[hg])) (Yi rfl ?_));refine Yi (Nz rfl) (yN (Yi ?_ ?_))
    .intro hy;refine Yi (Ii i ch) ?_;have es:EX (L.take (i+1))=EX (L.take i):=by rw[WW L i h,hy];simp
     have e1:AV.slice (.id 7 2) ((EX (L.take i)).map AE)=.slice (.id 7 2) ((EX (L.take (i+1))).map AE):=by rw[es]
     have e2:HO.tok 2 ((EX (L.take i)).map AE).length=.tok 2 ((EX (L.take (i+1))).map AE).length:=by rw[es]
     refine Xi ⟨i+1,by omega⟩ ?_;exact⟨Dl L.length i ch,⟨⟨e1,rfl⟩,Zr,Zr,Zr,Tv⟩,⟨⟨e2,rfl⟩,Tv⟩,Fh,Tv⟩
    .intro hy;have ci:=rn L[i].ver;refine yN (Xi _ (Yi (c88 L[i]) (yN (Xi _ (Yi (c88 L[i]) (Yi (by show Ba (plc L[i].ver+1);unfold Ba;omega) ?_))))));have Hw:Cf 2 [[vi (plc L[i].ver),vi (plc L[i].ver+1)]]/\((EX (L.take i)).map AE).length=((EX (L.take i)).map AE).length/\(((EX (L.take i)).map AE).length+[[vi (plc L[i].ver),vi (plc L[i].ver+1)]].length)*16<=140737488355328/\((EX (L.take i)).map AE).length+[[vi (plc L[i].ver),vi (plc L[i].ver+1)]].length<=9223372036854775807:=
      ⟨⟨rfl,trivial⟩,rfl,by rw[Lm,Bg];omega,by rw[Lm,Bg];omega⟩
     refine Yi Hw (Yi Wk (Yi (Ii i ch) ?_));have es:EX (L.take (i+1))=EX (L.take i)++[(plc L[i].ver,plc L[i].ver+1)]:=by rw[WW L i h,hy];simp
     have e1:AV.slice (.id 7 2) ((EX (L.take i)).map AE++[[vi (plc L[i].ver),vi (plc L[i].ver+1)]])=.slice (.id 7 2) ((EX (L.take (i+1))).map AE):=by rw[es,As];rfl
     have e2:HO.tok 2 (((EX (L.take i)).map AE).length+[[vi (plc L[i].ver),vi (plc L[i].ver+1)]].length)=.tok 2 ((EX (L.take (i+1))).map AE).length:=by rw[es,As,Ac];rfl
     refine Xi ⟨i+1,by omega⟩ ?_;exact⟨Dl L.length i ch,⟨⟨e1,rfl⟩,Zr,Zr,Zr,Tv⟩,⟨⟨e2,rfl⟩,Tv⟩,Fh,Tv⟩
   .intro h;have h:¬i<L.length:=by simpa using h
    have et:L.take i=L:=At ch;have hc:PC 169 [sl AE (EX (L.take i))] (sl AE (canon (EX (L.take i)))):=Ys _ (by unfold B8;omega);refine Xi .pure (Xi _ (Yi (hc) ?_));exact .of_eq (show sl AE (canon (EX (L.take i)))=sl AE (Cn x p) by rw[et];unfold Cn;rw[hL])
  .intro hn;have hL:Li x p=[]:=by
    rw[hL,dg,H9];intro r hr he;have he:=AK he;exact hn _ (Ai.2 ⟨p,(GX x [] p).2 (.inr ⟨r,hr,he⟩),rfl⟩)
   refine Xi Unit (Xi (fun _=>⟨[(7,.slice (.id 7 2) []),(19,vi 0),(20,vi 0)],[(7,.tok 2 0)],Af⟩) (Xi (fun _=>0) (Yi (Xi () ?_) ?_)))
   .exact⟨Z3,Z1,Fh,Tv⟩
   intro _;refine Yi ?_ ?_
   .intro h;exact absurd (show(0:Int)<0 from h) Cl
   intro _;have hc:PC 169 [sl AE []] (sl AE (canon [])):=Ys [] (by unfold B8;simp);refine Xi .pure (Xi _ (Yi (hc) ?_));exact .of_eq (show sl AE (canon [])=sl AE (Cn x p) by unfold Cn;rw[hL];rfl)
 .have df:PC 82 [HH x ifs] (.tup [.agg [.cmap ZB [],.cmap Cr []],vi (A6 x)]):=by
   have:=df;unfold kB WC at this;rw[Aj h0]at this;exact this
  have hL:Li x p=[]:=by unfold Li;rw[Ao h0]
  refine Ps tb Tryz.func185 rfl (Nz rfl) (yN (Xi .pure (Xi _ (Yi (df) (yN (Yi ?_ ?_))))))
  .intro a ha;cases ha
  .intro _;refine Xi Unit (Xi (fun _=>⟨[(7,.slice (.id 7 2) []),(19,vi 0),(20,vi 0)],[(7,.tok 2 0)],Af⟩) (Xi (fun _=>0) (Yi (Xi () ?_) ?_)))
   .exact⟨Z3,Z1,Fh,Tv⟩
   intro _;refine Yi ?_ ?_
   .intro h;exact absurd (show(0:Int)<0 from h) Cl
   intro _;have hc:PC 169 [sl AE []] (sl AE (canon [])):=Ys [] (by unfold B8;simp);refine Xi .pure (Xi _ (Yi (hc) ?_));exact .of_eq (show sl AE (canon [])=sl AE (Cn x p) by unfold Cn;rw[hL];rfl)
theorem Uk:B8 (Cn x p):=by
 unfold Cn B8
 have:=IR (CB (((Li x p).filter fun r=>!r.yanked).map fun r=>(plc r.ver,plc r.ver+1)));omega
end Go.Eng
