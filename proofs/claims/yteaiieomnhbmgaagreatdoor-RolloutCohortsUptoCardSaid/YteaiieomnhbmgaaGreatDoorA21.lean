/- Lemmas for the claims of this seat, without a condition: part 21 (C39, LayStr, C40, C41, C42, C43, C44, C45, C46, C47, C48, C49, C50, C51, C52, C53, C54, C55). -/
import Derived.Test.YteaiieomnhbmgaaGreatDoorA20
import Derived.Shelf.Strings.SplitShaped
import Derived.Shelf.Strings.LastIndexAll
import Derived.Shelf.Strings.Search3
import Derived.Shelf.Small.Wraps
import Derived.Ground.NamesProg
import Derived.Lib.LastIndexLaws
namespace Go.Eng
open Go.Proofs
variable (a c:UInt8)(s:ByteArray)(n:Nat)
abbrev vc:AV:=.v (.int .u8 c.toNat)
theorem nB(h:n<256):decide (UInt8.ofNat n<=a)=decide ((n:Int)<=(a.toNat:Int)):=by
 rw[B1,AA,AA,Mg,show(UInt8.ofNat n).toNat=n by simp;omega];omega
theorem nA(h:n<256):decide (a<=UInt8.ofNat n)=decide ((a.toNat:Int)<=(n:Int)):=by
 rw[B1,AA,AA,Mg,show(UInt8.ofNat n).toNat=n by simp;omega];omega
theorem sP:PC 286 [vc c] (vb (HF c)):=by
 refine Ps Ee Tryz.func286 rfl (Nz rfl) ?_;have e1:decide ((97:UInt8)<=c)=decide ((97:Int)<=(c.toNat:Int)):=nB c 97 Cl;have e2:decide (c<=(122:UInt8))=decide ((c.toNat:Int)<=(122:Int)):=nA c 122 Cl;have es:HF c=(decide ((97:Int)<=(c.toNat:Int))&&decide ((c.toNat:Int)<=(122:Int))):=by unfold HF;rw[e1,e2]
 refine Yi ?_ ?_
 .intro h;refine Yi ?_ ?_
  .intro h2;exact .of_eq (Aa vb (show true=HF c by rw[es,Ax h,Ax h2];rfl))
  .intro h2;exact .of_eq (Aa vb (show false=HF c by rw[es,AB h2,Dn]))
 .intro h;exact .of_eq (Aa vb (show false=HF c by rw[es,AB h];rfl))
theorem sQ:PC 287 [vc c] (vb (Fi c)):=by
 refine Ps Ee Tryz.func287 rfl (Nz rfl) ?_;have e1:decide ((48:UInt8)<=c)=decide ((48:Int)<=(c.toNat:Int)):=nB c 48 Cl;have e2:decide (c<=(57:UInt8))=decide ((c.toNat:Int)<=(57:Int)):=nA c 57 Cl;have es:Fi c=(decide ((48:Int)<=(c.toNat:Int))&&decide ((c.toNat:Int)<=(57:Int))):=by unfold Fi;rw[e1,e2]
 refine Yi ?_ ?_
 .intro h;refine Yi ?_ ?_
  .intro h2;exact .of_eq (Aa vb (show true=Fi c by rw[es,Ax h,Ax h2];rfl))
  .intro h2;exact .of_eq (Aa vb (show false=Fi c by rw[es,AB h2,Dn]))
 .intro h;exact .of_eq (Aa vb (show false=Fi c by rw[es,AB h];rfl))
theorem AaN:PC 357 [vc c] (vb (XW c)):=by
 refine Ps Ee Tryz.func357 rfl (Nz rfl) ?_;have e1:decide ((65:UInt8)<=c)=decide ((65:Int)<=(c.toNat:Int)):=nB c 65 Cl;have e2:decide (c<=(90:UInt8))=decide ((c.toNat:Int)<=(90:Int)):=nA c 90 Cl;have es:XW c=(decide ((65:Int)<=(c.toNat:Int))&&decide ((c.toNat:Int)<=(90:Int))):=by unfold XW;rw[e1,e2]
 refine Yi ?_ ?_
 .intro h;refine Yi ?_ ?_
  .intro h2;exact .of_eq (Aa vb (show true=XW c by rw[es,Ax h,Ax h2];rfl))
  .intro h2;exact .of_eq (Aa vb (show false=XW c by rw[es,AB h2,Dn]))
 .intro h;exact .of_eq (Aa vb (show false=XW c by rw[es,AB h];rfl))
abbrev dw:Bool:=HF c||Fi c
theorem AaG:PC 285 [vc c] (vb (dw c)):=by
 have h1:=sP c;have h2:=sQ c;rcases Bt (HF c)with e | e
 .rw[e]at h1;refine Ps Ee Tryz.func285 rfl (Nz rfl) (Xi .pure (Xi _ (Yi (h1) ?_)));exact .of_eq (Aa vb (show true=dw c by unfold dw;rw[e];rfl))
 .rw[e]at h1;refine Ps Ee Tryz.func285 rfl (Nz rfl) (Xi .pure (Xi _ (Yi (h1) (Xi .pure (Xi _ (Yi (h2) ?_))))));exact .of_eq (Aa vb (show Fi c=dw c by unfold dw;rw[e];rfl))
theorem AaJ:PC 322 [vc c] (vb (Ng c)):=by
 have h1:=sP c;have h2:=AaN c;have h3:=sQ c;have ew:Ng c=(HF c||XW c||Fi c||decide (c=95)):=rfl;rcases Bt (HF c)with e | e
 .rw[e]at h1;refine Ps Ee Tryz.func322 rfl (Nz rfl) (Xi .pure (Xi _ (Yi (h1) ?_)));exact .of_eq (Aa vb (show true=Ng c by rw[ew,e];rfl))
 rw[e]at h1;rcases Bt (XW c)with e2 | e2
 .rw[e2]at h2;refine Ps Ee Tryz.func322 rfl (Nz rfl) (Xi .pure (Xi _ (Yi (h1) (Xi .pure (Xi _ (Yi (h2) ?_))))));exact .of_eq (Aa vb (show true=Ng c by rw[ew,e,e2];rfl))
 rw[e2]at h2;rcases Bt (Fi c)with e3 | e3
 .rw[e3]at h3;refine Ps Ee Tryz.func322 rfl (Nz rfl) (Xi .pure (Xi _ (Yi (h1) (Xi .pure (Xi _ (Yi (h2) (Xi .pure (Xi _ (Yi (h3) ?_)))))))));exact .of_eq (Aa vb (show true=Ng c by rw[ew,e,e2,e3];rfl))
 rw[e3]at h3;refine Ps Ee Tryz.func322 rfl (Nz rfl) (Xi .pure (Xi _ (Yi (h1) (Xi .pure (Xi _ (Yi (h2) (Xi .pure (Xi _ (Yi (h3) ?_)))))))));have eb:decide (c=95)=decide ((c.toNat:Int)=95):=by
  rw[B1,AA,AA];constructor
  .intro h;subst h;rfl
  .intro h;exact UInt8.toNat_inj.1 (by show c.toNat=95;omega)
 refine Yi ?_ ?_
 .intro h;exact .of_eq (Aa vb (show true=Ng c by rw[ew,e,e2,e3,eb,Ax h];rfl))
 .intro h;exact .of_eq (Aa vb (show false=Ng c by rw[ew,e,e2,e3,eb,AB h];rfl))
theorem dP(i:Nat)(h:i<s.data.toList.length):s.data[i]?=some s.data.toList[i]:=by
 rw[<-A3];exact Ge h
theorem sO(f:Nat)(q:UInt8->Bool)(hf:∀c,PC f [vc c] (vb (q c)))(hs:s.data.toList.length<4611686018427387904):PC 284 [vs s,.v (Yb f)] (vb (s.data.toList.all q)):=by
 have EM:s.size=s.data.toList.length:=by simp
 refine Ps Ee Tryz.func284 rfl (Nz rfl) (Xi {i:Nat // i<=s.data.toList.length/\∀j (hj:j<s.data.toList.length),j<i->q s.data.toList[j]=true} (Xi (fun i=>⟨[(0,vs s),(1,.v (Yb f)),(7,vi s.size),(8,vi i.1)],[],Af⟩) (Xi (fun i=>s.data.toList.length-i.1) (Yi (Xi ⟨0,AE _,fun j _ h=>by omega⟩ ?_) ?_))))
 .exact⟨Z4,Tv,Fh,Tv⟩
 intro⟨i,h1,h2⟩;refine Yi ?_ ?_
 .intro h;have h:(i:Int)<(s.size:Nat):=h;have h:i<s.data.toList.length:=by omega
  refine Xi s.data.toList[i] (Yi ⟨by show(0:Int)<=i;omega,by show s.data[((i:Nat):Int).toNat]?=_;rw[Cb];exact dP s i h⟩ ?_);have hc:=hf s.data.toList[i];refine B8 (Bt (q s.data.toList[i])) (fun e=>?_) (fun e=>?_)
  .rw[e]at hc;refine Xi .pure (Xi _ (Yi (hc) (Yi (Ii i ch) (Xi ⟨i+1,by omega,fun j hj JG=>?_⟩ ?_))))
   .rcases DQ j i with z | z
    .exact h2 j hj z
    .have:j=i:=by omega
     subst this;exact e
   .exact⟨Dl s.data.toList.length i ch,Z4,Tv,Fh,Tv⟩
  .rw[e]at hc;refine Xi .pure (Xi _ (Yi (hc) ?_));have er:s.data.toList.all q=false:=by
    rw[AM];intro ha
    have:=Bc.1 ha _ (Aq h)
    rw[e]at this;cases this
   exact .of_eq (Aa vb er.symm)
 .intro h;have h:¬(i:Int)<(s.size:Nat):=h;have er:s.data.toList.all q=true:=Bc.2 fun c hc=>by
   obtain⟨j,hj,rfl⟩:=Jy hc;exact h2 j hj ch
  exact .of_eq (Aa vb er.symm)
end Go.Eng
namespace Go.Proofs
open Go.Shelf
def Tryz.laySplit_ren:Go.Shelf.Ren:=⟨fun | 146=>281 | 221=>320 | 268=>353 | 138=>354 | 143=>355 | 195=>370 | 197=>371 | 218=>372 | 219=>373 | 260=>386 | 217=>387 | 225=>388 | 224=>389 | 267=>390 | 266=>404 | 314=>405 | n=>n,fun | 9=>9 | 31=>52 | 3=>3 | 4=>4 | 0=>0 | 105=>425 | 21=>21 | 5=>5 | 46=>99 | 119=>442 | 139=>445 | 138=>444 | 146=>349 | 51=>229 | n=>n,fun | 1=>0 | 3=>4 | 4=>5 | n=>n⟩
theorem Tryz.laySplit:Go.Proofs.Lays.n146 Tryz.prog Tryz.laySplit_ren:={
 mixed:=by kernel_rfl
 f138:=Tryz.func354.trans (congrArg some Go.Eng.Wk)
 f143:=Tryz.func355.trans (congrArg some Go.Eng.Wk)
 f146:=Tryz.func281.trans (congrArg some Go.Eng.Wk)
 f195:=Tryz.func370.trans (congrArg some Go.Eng.Wk)
 f197:=Tryz.func371.trans (congrArg some Go.Eng.Wk)
 f217:=Tryz.func387.trans (congrArg some Go.Eng.Wk)
 f218:=Tryz.func372.trans (congrArg some Go.Eng.Wk)
 f219:=Tryz.func373.trans (congrArg some Go.Eng.Wk)
 f221:=Tryz.func320.trans (congrArg some Go.Eng.Wk)
 f224:=Tryz.func389.trans (congrArg some Go.Eng.Wk)
 f225:=Tryz.func388.trans (congrArg some Go.Eng.Wk)
 f260:=Tryz.func386.trans (congrArg some Go.Eng.Wk)
 f266:=Tryz.func404.trans (congrArg some Go.Eng.Wk)
 f267:=Tryz.func390.trans (congrArg some Go.Eng.Wk)
 f268:=Tryz.func353.trans (congrArg some Go.Eng.Wk)
 f314:=Tryz.func405.trans (congrArg some Go.Eng.Wk)
 t0:=Tryz.underlying0
 a0:=Tryz.isAgg0
 z0:=Tryz.sizeOf0
 v0:=Tryz.zeroValue0
 t3:=Tryz.underlying3
 a3:=Tryz.isAgg3
 z3:=Tryz.sizeOf3
 v3:=Tryz.zeroValue3
 t4:=Tryz.underlying4
 a4:=Tryz.isAgg4
 z4:=Tryz.sizeOf4
 v4:=Tryz.zeroValue4
 t5:=Tryz.underlying5
 a5:=Tryz.isAgg5
 z5:=Tryz.sizeOf5
 v5:=Tryz.zeroValue5
 t9:=Tryz.underlying9
 a9:=Tryz.isAgg9
 z9:=Tryz.sizeOf9
 v9:=Tryz.zeroValue9
 t21:=Tryz.underlying21
 a21:=Tryz.isAgg21
 z21:=Tryz.sizeOf21
 v21:=Tryz.zeroValue21
 t31:=Tryz.underlying52
 a31:=Tryz.isAgg52
 z31:=Tryz.sizeOf52
 v31:=Tryz.zeroValue52
 t46:=Tryz.underlying99
 a46:=Tryz.isAgg99
 z46:=Tryz.sizeOf99
 v46:=Tryz.zeroValue99
 t51:=Tryz.underlying229
 a51:=Tryz.isAgg229
 z51:=Tryz.sizeOf229
 v51:=Tryz.zeroValue229
 t105:=Tryz.underlying425
 a105:=Tryz.isAgg425
 z105:=Tryz.sizeOf425
 v105:=Tryz.zeroValue425
 t119:=Tryz.underlying442
 a119:=Tryz.isAgg442
 z119:=Tryz.sizeOf442
 t138:=Tryz.underlying444
 a138:=Tryz.isAgg444
 z138:=Tryz.sizeOf444
 v138:=Tryz.zeroValue444
 t139:=Tryz.underlying445
 a139:=Tryz.isAgg445
 z139:=Tryz.sizeOf445
 v139:=Tryz.zeroValue445
 t146:=Tryz.underlying349
 a146:=Tryz.isAgg349
 z146:=Tryz.sizeOf349
 v146:=Tryz.zeroValue349
 g1:=by kernel_rfl
 g3:=by kernel_rfl
 g4:=by kernel_rfl }
def Tryz.layLast_ren:Go.Shelf.Ren:=⟨fun | 148=>234 | 222=>288 | 223=>289 | 269=>324 | n=>n,fun | 9=>9 | 3=>3 | 4=>4 | 5=>5 | 146=>349 | 51=>229 | 46=>99 | n=>n,fun | n=>n⟩
theorem Tryz.layLast:Go.Proofs.Lays.n148 Tryz.prog Tryz.layLast_ren:={
 mixed:=by kernel_rfl
 f148:=Tryz.func234.trans (congrArg some Go.Eng.Wk)
 f222:=Tryz.func288.trans (congrArg some Go.Eng.Wk)
 f223:=Tryz.func289.trans (congrArg some Go.Eng.Wk)
 f269:=Tryz.func324.trans (congrArg some Go.Eng.Wk)
 t3:=Tryz.underlying3
 a3:=Tryz.isAgg3
 z3:=Tryz.sizeOf3
 v3:=Tryz.zeroValue3
 t4:=Tryz.underlying4
 a4:=Tryz.isAgg4
 z4:=Tryz.sizeOf4
 v4:=Tryz.zeroValue4
 t5:=Tryz.underlying5
 a5:=Tryz.isAgg5
 z5:=Tryz.sizeOf5
 v5:=Tryz.zeroValue5
 t9:=Tryz.underlying9
 a9:=Tryz.isAgg9
 z9:=Tryz.sizeOf9
 v9:=Tryz.zeroValue9
 t46:=Tryz.underlying99
 a46:=Tryz.isAgg99
 z46:=Tryz.sizeOf99
 v46:=Tryz.zeroValue99
 t51:=Tryz.underlying229
 a51:=Tryz.isAgg229
 z51:=Tryz.sizeOf229
 v51:=Tryz.zeroValue229
 t146:=Tryz.underlying349
 a146:=Tryz.isAgg349
 z146:=Tryz.sizeOf349
 v146:=Tryz.zeroValue349 }
def Tryz.layCut_ren:Go.Shelf.Ren:=⟨fun | 103=>321 | 210=>356 | 206=>269 | n=>n,fun | 9=>9 | 4=>4 | 24=>370 | 3=>3 | n=>n,fun | n=>n⟩
theorem Tryz.layCut:Go.Proofs.Lays.n103 Tryz.prog Tryz.layCut_ren:={
 mixed:=by kernel_rfl
 f103:=Tryz.func321.trans (congrArg some Go.Eng.Wk)
 f206:=Tryz.func269.trans (congrArg some Go.Eng.Wk)
 f210:=Tryz.func356.trans (congrArg some Go.Eng.Wk)
 t3:=Tryz.underlying3
 a3:=Tryz.isAgg3
 z3:=Tryz.sizeOf3
 v3:=Tryz.zeroValue3
 t4:=Tryz.underlying4
 a4:=Tryz.isAgg4
 z4:=Tryz.sizeOf4
 v4:=Tryz.zeroValue4
 t9:=Tryz.underlying9
 a9:=Tryz.isAgg9
 z9:=Tryz.sizeOf9
 v9:=Tryz.zeroValue9
 t24:=Tryz.underlying370
 a24:=Tryz.isAgg370
 z24:=Tryz.sizeOf370
 v24:=Tryz.zeroValue370 }
def Tryz.layCont_ren:Go.Shelf.Ren:=⟨fun | 144=>358 | 143=>355 | 219=>373 | 217=>387 | 225=>388 | 224=>389 | 267=>390 | 266=>404 | 314=>405 | n=>n,fun | 9=>9 | 4=>4 | 3=>3 | 5=>5 | 46=>99 | 146=>349 | 51=>229 | n=>n,fun | 1=>0 | n=>n⟩
theorem Tryz.layCont:Go.Proofs.Lays.n144 Tryz.prog Tryz.layCont_ren:={
 mixed:=by kernel_rfl
 f143:=Tryz.func355.trans (congrArg some Go.Eng.Wk)
 f144:=Tryz.func358.trans (congrArg some Go.Eng.Wk)
 f217:=Tryz.func387.trans (congrArg some Go.Eng.Wk)
 f219:=Tryz.func373.trans (congrArg some Go.Eng.Wk)
 f224:=Tryz.func389.trans (congrArg some Go.Eng.Wk)
 f225:=Tryz.func388.trans (congrArg some Go.Eng.Wk)
 f266:=Tryz.func404.trans (congrArg some Go.Eng.Wk)
 f267:=Tryz.func390.trans (congrArg some Go.Eng.Wk)
 f314:=Tryz.func405.trans (congrArg some Go.Eng.Wk)
 t3:=Tryz.underlying3
 a3:=Tryz.isAgg3
 z3:=Tryz.sizeOf3
 v3:=Tryz.zeroValue3
 t4:=Tryz.underlying4
 a4:=Tryz.isAgg4
 z4:=Tryz.sizeOf4
 v4:=Tryz.zeroValue4
 t5:=Tryz.underlying5
 a5:=Tryz.isAgg5
 z5:=Tryz.sizeOf5
 v5:=Tryz.zeroValue5
 t9:=Tryz.underlying9
 a9:=Tryz.isAgg9
 z9:=Tryz.sizeOf9
 v9:=Tryz.zeroValue9
 t46:=Tryz.underlying99
 a46:=Tryz.isAgg99
 z46:=Tryz.sizeOf99
 v46:=Tryz.zeroValue99
 t51:=Tryz.underlying229
 a51:=Tryz.isAgg229
 z51:=Tryz.sizeOf229
 v51:=Tryz.zeroValue229
 t146:=Tryz.underlying349
 a146:=Tryz.isAgg349
 z146:=Tryz.sizeOf349
 v146:=Tryz.zeroValue349
 g1:=by kernel_rfl }
end Go.Proofs
namespace Go.Eng
open Go.Proofs
variable {y:Sl}{a:AV}(x:List Rl)(s:ByteArray)(l:List Rl)(ifs:List (List AV))(p:ByteArray)
abbrev bO:ByteArray:=⟨#[47]⟩
abbrev BZ:List ByteArray:=Go.Lib.splitB bO 0 (Go.Lib.countB s bO) s
theorem Qg:(BZ s).map (·.data.toList)=FC 47 s.data.toList:=jq s 47
abbrev QP:List AV:=[vs s]
theorem wl(hs:F7 s):PC 281 [vs s,vs bO] (sl QP (BZ s)):=by
 unfold F7 at hs;have h:=jb (P:=Tryz.prog) (f:=281) (args:=[vs s,vs bO]) [.string s,.string bO] ((BZ s).map Value.string) 9 (Zy 281 Tryz.func281 Wk rfl) rfl (fun x hx=>by
  obtain⟨y,_,rfl⟩:=Ag.1 hx;rfl) (fun w hm=>by
  obtain⟨m,hm⟩:=hm;have hl:(BZ s).length=Go.Lib.countB s bO+1:=Go.Lib.splitB_all bO Cl 0 _ s rfl;refine(Any.strings_Split Tryz.laySplit Wk s bO m w ch hm Cl).mono ?_
  rintro e w' ⟨rfl,rfl⟩
  exact⟨by rw[Lm,hl],rfl⟩)
 rw[Bo]at h;exact h
theorem Aaz(hs:F7 s):PC 234 [vs s,vs p] (vi (Go.Lib.lastIndex s.data.toList p.data.toList)):=by
 unfold F7 at hs;exact Kc [.string s,.string p] (.int .i64 (Go.Lib.lastIndex s.data.toList p.data.toList)) (Zy 234 Tryz.func234 Wk rfl) rfl (fun g w=>.v _ _) fun w _=>Any.strings_LastIndex Tryz.layLast s p ch w
theorem AaI:PC 321 [vs s,vs p] (.tup [vs ⟨(Go.Lib.trimPrefix s.data.toList p.data.toList).toArray⟩,vb (Go.Lib.hasPrefix s.data.toList p.data.toList)]):=by
 exact Kc [.string s,.string p] _ (Zy 321 Tryz.func321 Wk rfl) rfl (fun g w=>mW [.string ⟨(Go.Lib.trimPrefix s.data.toList p.data.toList).toArray⟩,.bool (Go.Lib.hasPrefix s.data.toList p.data.toList)]) fun w _=>Any.strings_CutPrefix Tryz.layCut s p w
theorem AaO(hs:F7 s):PC 358 [vs s,vs p] (vb (Go.Lib.contains s.data.toList p.data.toList)):=by
 unfold F7 at hs;exact Kc [.string s,.string p] (.bool (Go.Lib.contains s.data.toList p.data.toList)) (Zy 358 Tryz.func358 Wk rfl) rfl (fun g w=>.v _ _) fun w hm=>by
  obtain⟨m,hm⟩:=hm;exact Any.strings_Contains Tryz.layCont s p m w ch hm
theorem fE:∀x y:List UInt8,jh x y=x.isPrefixOf y
 | [],_=>by simp[jh]
 |_::_,[]=>rfl
 |a::x,b::y=>by
  rw[jh,List.isPrefixOf_cons_cons,fE x y]
  rfl
theorem lQ(x:List UInt8):∀y:List UInt8,zP x y=Go.Lib.contains y x
 | []=>by
  unfold Go.Lib.contains Go.Lib.index;cases x<;>rfl
 |b::y=>by
  rw[zP,fE,lQ x y];unfold Go.Lib.contains;have hg:=Go.Lib.index_ge y x
  conv=>rhs;unfold Go.Lib.index
  cases h:x.isPrefixOf (b::y)with
  |true=>simp
  |false =>
   simp only[MB,Dh,Gl]
   by_cases h0:Go.Lib.index y x=-1
   .rw[h0];rfl
   .have h1:(Go.Lib.index y x == -1)=false:=by simpa using h0
    rw[h1];simp only[Dh,Gl];rw[Ax ch,Ax ch]
theorem Uq:∀(l:List UInt8) (h:0<l.length),l.headD 0=l[0]
 | [],h=>by simp at h
 |_::_,_=>rfl
abbrev rM:ByteArray:=⟨⟨lZ⟩⟩
theorem AaK(hs:F7 s):PC 323 [vs s] (vb (cM s.data.toList)):=by
 unfold F7 at hs;have hc:=AaO rM ((⟨#[32]⟩++s)++⟨#[32]⟩) (Gq Wk);have e:Go.Lib.contains rM.data.toList ((⟨#[32]⟩++s:ByteArray)++⟨#[32]⟩).data.toList=cM s.data.toList:=by
  unfold cM;rw[lQ]
  congr 1
 rw[e]at hc;refine Ps Ee Tryz.func323 rfl (Nz rfl) (Yi (by show(((1+s.size:Nat)):Int)<=_;omega) ?_);refine Yi (by show(((⟨#[32]⟩++s:ByteArray).size+1:Nat):Int)<=_;rw[Cj];show(((1+s.size)+1:Nat):Int)<=_;omega) ?_;refine Xi .pure (Xi _ (Yi (hc) ?_));exact .refl _
theorem AaF(hs:F7 s):PC 283 [vs s] (vb (IS s.data.toList)):=by
 have hk:=AaK s hs;have hw:=sO s 322 Ng AaJ (by unfold F7 at hs;simp;omega);have EM:s.size=s.data.toList.length:=by simp
 have en:IS s.data.toList=(!s.data.toList.isEmpty&&decide (s.data.toList.length<=32)&&HF (s.data.toList.headD 0)&&s.data.toList.all Ng&&!cM s.data.toList):=rfl
 by_cases h0:s=⟨#[]⟩
 .subst h0;refine Ps Ee Tryz.func283 rfl (Nz rfl) (Yi ?_ ?_)
  .intro h;exact absurd rfl (show(⟨#[]⟩:ByteArray)≠⟨#[]⟩from h)
  .intro _;exact .refl _
 have h0' : s.data.toList≠[]:=fun e=>h0 (by
  have:s.data=#[]:=by rw[<-Jf];exact e
  cases s;simp_all)
 have CL:0<s.data.toList.length:=He.2 h0';have VK:s.data.toList.isEmpty=false:=by
  cases hl:s.data.toList with
  |nil=>exact absurd hl h0'
  |cons a l=>rfl
 have hhd:s.data.toList.headD 0=s.data.toList[0]:=Uq _ CL;have oo:=sP s.data.toList[0];refine Ps Ee Tryz.func283 rfl (Nz rfl) (Yi ?_ ?_)
 rotate_left
 .intro h;exact absurd h0 h
 intro _;refine Yi ?_ ?_
 rotate_left
 .intro h;exact .of_eq (Aa vb (show false=IS s.data.toList by rw[en,AB (by omega:¬s.data.toList.length<=32)];simp))
 intro h;refine Xi s.data.toList[0] (Yi ⟨Bs _,dP s 0 CL⟩ (B8 (Bt (HF s.data.toList[0])) (fun e1=>?_) (fun e1=>?_)))
 rotate_left
 .rw[e1]at oo;refine Xi .pure (Xi _ (Yi (oo) ?_));exact .of_eq (Aa vb (show false=IS s.data.toList by rw[en,hhd,e1];simp))
 rw[e1]at oo;refine Xi .pure (Xi _ (Yi (oo) (B8 (Bt (s.data.toList.all Ng)) (fun e2=>?_) (fun e2=>?_))))
 rotate_left
 .rw[e2]at hw;refine Xi .pure (Xi _ (Yi (hw) ?_));exact .of_eq (Aa vb (show false=IS s.data.toList by rw[en,e2];simp))
 rw[e2]at hw;refine Xi .pure (Xi _ (Yi (hw) ?_));have ef:IS s.data.toList=!cM s.data.toList:=by rw[en,VK,hhd,e1,e2,Ax (by omega:s.data.toList.length<=32)];rfl
 refine B8 (Bt (cM s.data.toList)) (fun e3=>?_) (fun e3=>?_)
 .rw[e3]at hk;refine Xi .pure (Xi _ (Yi (hk) ?_));exact .of_eq (Aa vb (show false=IS s.data.toList by rw[ef,e3];rfl))
 .rw[e3]at hk;refine Xi .pure (Xi _ (Yi (hk) ?_));exact .of_eq (Aa vb (show true=IS s.data.toList by rw[ef,e3];rfl))
abbrev YO:Option Int->AV
 |some n=>.tup [vi n,vb true]
 |none=>.tup [vi 0,vb false]
theorem fZ{z:Int}(h0:0<=z)(h1:z<256):IntKind.u8.wrap z=z:=by
 show z % 256=z;omega
theorem WC{c:UInt8}(h:Fi c=true):48<=c.toNat/\c.toNat<=57:=by
 unfold Fi at h;simp only[Ae,AA]at h;exact⟨Mg.1 h.1,Mg.1 h.2⟩
theorem Xb(r:List UInt8)(i:Nat)(h:i<r.length):G2 (r.take (i+1))=10*G2 (r.take i)+((r[i].toNat:Int)-48):=by
 unfold G2;rw[Bi,Ge h,Em];rfl
theorem AaE(hs:F7 s):PC 282 [vs s] (YO (Mz s.data.toList)):=by
 unfold F7 at hs;have hc:=AaI s ⟨#[118]⟩
 by_cases hp:∃r,s.data.toList=118::r
 .obtain⟨r,hr⟩:=hp;have e1:Go.Lib.hasPrefix s.data.toList (⟨#[118]⟩:ByteArray).data.toList=true:=by rw[hr];rfl
  have e2:Go.Lib.trimPrefix s.data.toList (⟨#[118]⟩:ByteArray).data.toList=r:=by unfold Go.Lib.trimPrefix;rw[e1,Al rfl,hr];rfl
  rw[e1,e2]at hc;have hv:Mz s.data.toList=if(r.isEmpty||decide (3<r.length)||(decide (1<r.length)&&decide (r.headD 0=48))||!r.all Fi)=true then none else some (G2 r):=by rw[hr];rfl
  have hrl:r.length<s.size:=by
   have:s.size=s.data.toList.length:=by simp
   rw[this,hr];simp
  generalize hB:(⟨r.toArray⟩:ByteArray)=rB at hc;have pm:rB.data.toList=r:=by rw[<-hB]
  have wM:rB.size=r.length:=by rw[<-hB];rfl
  have hw:=sO rB 287 Fi sQ (by rw[pm];omega);rw[pm]at hw;have no:∀{b:Bool},b=true->(if b=true then none else some (G2 r))=(none:Option Int):=fun h=>Al h;refine Ps (Kf []) Tryz.func282 rfl (Nz rfl) (Xi .pure (Xi _ (Yi (hc) (Yi ?_ ?_))))
  .intro h
   have:r=[]:=by rw[<-pm,h]
   exact .of_eq (Aa YO (show(none:Option Int)=Mz s.data.toList by rw[hv,this];rfl))
  intro h;have Dy:r≠[]:=fun e=>h (by rw[<-hB,e]);have CL:0<r.length:=He.2 Dy;have VK:r.isEmpty=false:=by
   cases hl:r with
   |nil=>exact absurd hl Dy
   |cons a l=>rfl
  refine Yi ?_ ?_
  .intro h2;exact .of_eq (Aa YO (show(none:Option Int)=Mz s.data.toList by rw[hv,no];rw[Ax (by omega:3<r.length)];simp))
  intro h2;have zE:r.length<=3:=by omega
  have d3:decide (3<r.length)=false:=AB ch;refine Yi ?_ ?_
  .intro h3;have Abn:rB.data[(0:Int).toNat]?=some r[0]:=by
    show rB.data[0]?=_;rw[<-A3,pm];exact Ge CL
   refine Xi r[0] (Yi ⟨Bs _,Abn⟩ ?_);have hh:=Uq r CL;refine Yi ?_ ?_
   .intro h4
    have:r[0]=48:=UInt8.toNat_inj.1 (by show r[0].toNat=48;omega)
    exact .of_eq (Aa YO (show(none:Option Int)=Mz s.data.toList by rw[hv,hh,this,Ax (by omega:1<r.length)];simp))
   intro h4;have eo:(decide (1<r.length)&&decide (r.headD 0=48))=false:=by rw[hh,AB (show ¬r[0]=48 from fun e=>h4 (by rw[e];rfl)),Dn]
   have tL:Mz s.data.toList=if(!r.all Fi)=true then none else some (G2 r):=by rw[hv,VK,d3,eo];rfl
   refine B8 (Bt (r.all Fi)) (fun e3=>?_) (fun e3=>?_)
   rotate_left
   .rw[e3]at hw;refine Xi .pure (Xi _ (Yi (hw) ?_));exact .of_eq (Aa YO (show(none:Option Int)=Mz s.data.toList by rw[tL,e3];rfl))
   rw[e3]at hw;refine Xi .pure (Xi _ (Yi (hw) ?_));have hv3:Mz s.data.toList=some (G2 r):=by rw[tL,e3];rfl
   have z0:G2 (r.take 0)=0:=rfl;refine Xi {i:Nat // i<=r.length/\0<=G2 (r.take i)/\(i=0->G2 (r.take i)<=0)/\(i<=1->G2 (r.take i)<=9)/\(i<=2->G2 (r.take i)<=99)/\G2 (r.take i)<=999} (Xi (fun i=>⟨[(0,vs rB),(5,vi (G2 (r.take i.1))),(39,vi rB.size),(40,vi i.1)],[],Af⟩) (Xi (fun i=>r.length-i.1) (Yi (Xi ⟨0,AE _,by omega,fun _=>by omega,fun _=>by omega,fun _=>by omega,by omega⟩ ?_) ?_)))
   .exact⟨Z4,Tv,Fh,Tv⟩
   intro⟨i,i1,i2,i3,i4,i5,i6⟩;refine Yi ?_ ?_
   .intro h;have h:(i:Int)<(rB.size:Nat):=h;have h:i<r.length:=by omega
    have hdg:Fi r[i]=true:=Bc.1 e3 _ (Aq h);have vD:=WC hdg;have hnx:=Xb r i h;have tM:IntKind.u8.wrap ((r[i].toNat:Int)-48)=(r[i].toNat:Int)-48:=fZ ch ch;have rp:rB.data[((i:Nat):Int).toNat]?=some r[i]:=by rw[Cb,<-A3,pm];exact Ge h
    refine Yi (by show A7 (10*G2 (r.take i));unfold A7;omega) (Xi r[i] (Yi ⟨by show(0:Int)<=i;omega,rp⟩ ?_));refine Yi (by show A7 (IntKind.u8.wrap ((r[i].toNat:Int)-48));rw[tM];unfold A7;omega) ?_;refine Yi (by show A7 (10*G2 (r.take i)+IntKind.u8.wrap ((r[i].toNat:Int)-48));rw[tM];unfold A7;omega) ?_;refine Yi (Ii i ch) ?_;have e5:vi (10*G2 (r.take i)+IntKind.u8.wrap ((r[i].toNat:Int)-48))=vi (G2 (r.take (i+1))):=by rw[tM,hnx]
    refine Xi ⟨i+1,by omega,by omega,fun _=>by omega,fun _=>by omega,fun _=>by omega,by omega⟩ ?_;exact⟨Dl r.length i ch,⟨Zr,⟨e5,rfl⟩,Zr,Zr,Tv⟩,Tv,Fh,Tv⟩
   .intro h;have h:¬(i:Int)<(rB.size:Nat):=h;have e6:AV.tup [vi (G2 (r.take i)),vb true]=YO (Mz s.data.toList):=by rw[hv3,As ch]
    exact .of_eq e6
  .intro h3;have h3:¬(1:Int)<((rB.size:Nat):Int):=h3;have eo:(decide (1<r.length)&&decide (r.headD 0=48))=false:=by rw[AB (by omega:¬1<r.length)];rfl
   have tL:Mz s.data.toList=if(!r.all Fi)=true then none else some (G2 r):=by rw[hv,VK,d3,eo];rfl
   refine B8 (Bt (r.all Fi)) (fun e3=>?_) (fun e3=>?_)
   rotate_left
   .rw[e3]at hw;refine Xi .pure (Xi _ (Yi (hw) ?_));exact .of_eq (Aa YO (show(none:Option Int)=Mz s.data.toList by rw[tL,e3];rfl))
   rw[e3]at hw;refine Xi .pure (Xi _ (Yi (hw) ?_));have hv3:Mz s.data.toList=some (G2 r):=by rw[tL,e3];rfl
   have z0:G2 (r.take 0)=0:=rfl;refine Xi {i:Nat // i<=r.length/\0<=G2 (r.take i)/\(i=0->G2 (r.take i)<=0)/\(i<=1->G2 (r.take i)<=9)/\(i<=2->G2 (r.take i)<=99)/\G2 (r.take i)<=999} (Xi (fun i=>⟨[(0,vs rB),(5,vi (G2 (r.take i.1))),(39,vi rB.size),(40,vi i.1)],[],Af⟩) (Xi (fun i=>r.length-i.1) (Yi (Xi ⟨0,AE _,by omega,fun _=>by omega,fun _=>by omega,fun _=>by omega,by omega⟩ ?_) ?_)))
   .exact⟨Z4,Tv,Fh,Tv⟩
   intro⟨i,i1,i2,i3,i4,i5,i6⟩;refine Yi ?_ ?_
   .intro h;have h:(i:Int)<(rB.size:Nat):=h;have h:i<r.length:=by omega
    have hdg:Fi r[i]=true:=Bc.1 e3 _ (Aq h);have vD:=WC hdg;have hnx:=Xb r i h;have tM:IntKind.u8.wrap ((r[i].toNat:Int)-48)=(r[i].toNat:Int)-48:=fZ ch ch;have rp:rB.data[((i:Nat):Int).toNat]?=some r[i]:=by rw[Cb,<-A3,pm];exact Ge h
    refine Yi (by show A7 (10*G2 (r.take i));unfold A7;omega) (Xi r[i] (Yi ⟨by show(0:Int)<=i;omega,rp⟩ ?_));refine Yi (by show A7 (IntKind.u8.wrap ((r[i].toNat:Int)-48));rw[tM];unfold A7;omega) ?_;refine Yi (by show A7 (10*G2 (r.take i)+IntKind.u8.wrap ((r[i].toNat:Int)-48));rw[tM];unfold A7;omega) ?_;refine Yi (Ii i ch) ?_;have e5:vi (10*G2 (r.take i)+IntKind.u8.wrap ((r[i].toNat:Int)-48))=vi (G2 (r.take (i+1))):=by rw[tM,hnx]
    refine Xi ⟨i+1,by omega,by omega,fun _=>by omega,fun _=>by omega,fun _=>by omega,by omega⟩ ?_;exact⟨Dl r.length i ch,⟨Zr,⟨e5,rfl⟩,Zr,Zr,Tv⟩,Tv,Fh,Tv⟩
   .intro h;have h:¬(i:Int)<(rB.size:Nat):=h;have e6:AV.tup [vi (G2 (r.take i)),vb true]=YO (Mz s.data.toList):=by rw[hv3,As ch]
    exact .of_eq e6
 .have e1:Go.Lib.hasPrefix s.data.toList (⟨#[118]⟩:ByteArray).data.toList=false:=by
   cases hl:s.data.toList with
   |nil=>rfl
   |cons a l =>
    have:a≠118:=fun e=>hp ⟨l,by rw[hl,e]⟩
    show(List.isPrefixOf [118] (a::l))=false;rw[List.isPrefixOf_cons_cons]
    have:((118:UInt8) == a)=false:=by rw[beq_eq_false_iff_ne];exact fun e=>this e.symm
    rw[this];rfl
  have hv:Mz s.data.toList=none:=by
   cases hl:s.data.toList with
   |nil=>rfl
   |cons a l =>
    have:a≠118:=fun e=>hp ⟨l,by rw[hl,e]⟩
    show(if a=118 then _ else none)=none;rw[Ai this]
  rw[e1]at hc;refine Ps Ee Tryz.func282 rfl (Nz rfl) (Xi .pure (Xi _ (Yi (hc) ?_)));exact .of_eq (Aa YO hv.symm)
abbrev cP:Option Int->AV
 |some n=>.tup [vi n,vi 0]
 |none=>.tup [vi 0,vi 4]
theorem Vn(c:UInt8):∀(s x:List UInt8),x∈FC c s->x.length<=s.length
 | [],x,h=>by
  rw[FC]at h;rw[Ap.1 h];exact Aj _
 |b::r,x,h=>by
  have ih:=Vn c r;rw[FC]at h;split at h
  .rcases Az.1 h with rfl | h
   .exact AE _
   .have:=ih x h;rw[Ak];omega
  .split at h
   .rw[Ap.1 h];rw[Ak];simp
   .rename_i y l e;rcases Az.1 h with rfl | h
    .have:=ih y (by rw[e];exact Ab ..);rw[Ak,Ak];omega
    .have:=ih x (by rw[e];exact Ah _ h);rw[Ak];omega
theorem mK{p x:ByteArray}(hp:F7 p)(hx:x∈BZ p):F7 x:=by
 have h:x.data.toList∈FC 47 p.data.toList:=by rw[<-Qg];exact Ag.2 ⟨x,hx,rfl⟩
 have:=Vn 47 _ _ h
 unfold F7 at *
 have e1:x.size=x.data.toList.length:=by simp
 have e2:p.size=p.data.toList.length:=by simp
 omega
theorem i7:(BZ p).length=(FC 47 p.data.toList).length:=by rw[<-Qg,Lm]
theorem ja:0<(BZ p).length:=by
 rw[show(BZ p).length=Go.Lib.countB p bO+1 from Go.Lib.splitB_all bO Cl 0 _ p rfl];omega
theorem iZ:(BZ p).length<=p.size+1:=by
 rw[show(BZ p).length=Go.Lib.countB p bO+1 from Go.Lib.splitB_all bO Cl 0 _ p rfl]
 have:=Go.Lib.countB_le bO Cl p.size p (Aj _);omega
theorem da(h:(BZ p).length-1<(BZ p).length):(FC 47 p.data.toList).getLastD []=((BZ p)[(BZ p).length-1]).data.toList:=by
 rw[<-Qg,List.getLastD_eq_getLast?,List.getLast?_eq_getElem?,Lm,AG,Ge h];rfl
theorem iY:(FC 47 p.data.toList).all Oc=(BZ p).all fun x=>Oc x.data.toList:=by
 rw[<-Qg,List.all_map];rfl
theorem wj(hp:F7 p):PC 232 [vs p] (cP (CB p)):=by
 have hps:=iZ p;have cH:=ja p;have hp1:(BZ p).length-1<(BZ p).length:=by omega
 have EM:p.size=p.data.toList.length:=by simp
 have hfp:∀{x},x∈BZ p->F7 x:=fun h=>mK hp h;unfold F7 at hp;have VL:((BZ p).map QP)[((((BZ p).map QP).length:Int)-1).toNat]?=some (QP (BZ p)[(BZ p).length-1]):=by
  rw[Lm,show(((BZ p).length:Int)-1).toNat=(BZ p).length-1 by omega];exact Ed (Ge hp1)
 have hv:=AaE (BZ p)[(BZ p).length-1] (hfp (Aq hp1));have em:CB p=match Mz ((BZ p)[(BZ p).length-1]).data.toList with
  |none=>none
  |some n=>if(decide (64<p.data.toList.length)||decide ((BZ p).length<2))=true then none else if((BZ p).all fun x=>Oc x.data.toList)=true then some n else none:=by
  unfold CB cQ;rw[da p hp1,iY,<-i7];cases Mz ((BZ p)[(BZ p).length-1]).data.toList with
  |none=>rfl
  |some n=>rfl
 cases hve:Mz ((BZ p)[(BZ p).length-1]).data.toList with
 |none =>
  rw[hve]at hv em;refine Ps (Kf []) Tryz.func232 rfl (Nz rfl) (Xi .pure (Xi _ (Yi (wl p hp) (Yi (by show A7 ((((BZ p).map QP).length:Int)-1);unfold A7;rw[Lm];omega) ?_))));refine Xi (QP (BZ p)[(BZ p).length-1]) (Yi (Yi (by show(0:Int)<=(((BZ p).map QP).length:Int)-1;rw[Lm];omega) VL) (Yi rfl ?_));refine Xi .pure (Xi _ (Yi (hv) ?_));exact .of_eq (Aa cP em.symm)
 |some n =>
  rw[hve]at hv em;refine Ps (Kf []) Tryz.func232 rfl (Nz rfl) (Xi .pure (Xi _ (Yi (wl p hp) (Yi (by show A7 ((((BZ p).map QP).length:Int)-1);unfold A7;rw[Lm];omega) ?_))));refine Xi (QP (BZ p)[(BZ p).length-1]) (Yi (Yi (by show(0:Int)<=(((BZ p).map QP).length:Int)-1;rw[Lm];omega) VL) (Yi rfl ?_));refine Xi .pure (Xi _ (Yi (hv) (Yi ?_ ?_)))
  .intro h;exact .of_eq (Aa cP (show(none:Option Int)=CB p by rw[em,Ax (by omega:64<p.data.toList.length)];rfl))
  intro h;have d1:decide (64<p.data.toList.length)=false:=AB ch;refine Yi ?_ ?_
  .intro h2;rw[Lm]at h2;exact .of_eq (Aa cP (show(none:Option Int)=CB p by rw[em,d1,Ax (by omega:(BZ p).length<2)];rfl))
  intro h2;have d2:decide ((BZ p).length<2)=false:=AB (by rw[Lm]at h2;omega);have em2:CB p=if((BZ p).all fun x=>Oc x.data.toList)=true then some n else none:=by rw[em,d1,d2];rfl
  refine Xi {i:Nat // i<=(BZ p).length/\∀j (hj:j<(BZ p).length),j<i->Oc ((BZ p)[j]).data.toList=true} (Xi (fun i=>⟨[(5,vi n),(33,sl QP (BZ p)),(34,vi ((BZ p).map QP).length),(35,vi i.1)],[],Af⟩) (Xi (fun i=>(BZ p).length-i.1) (Yi (Xi ⟨0,AE _,fun j _ h=>by omega⟩ ?_) ?_)))
  .exact⟨Z4,Tv,Fh,Tv⟩
  intro⟨i,i1,i2⟩;refine Yi ?_ ?_
  .intro h;have h:i<(BZ p).length:=by simpa using h
   have hg:(BZ p)[i]?=some (BZ p)[i]:=Ge h;refine Xi (QP (BZ p)[i]) (Yi (Yi (Nn i) (by simp[hg])) (Yi rfl ?_));have zC:=hfp (Aq h);have hn:=AaF (BZ p)[i] zC;have ha:=sO (BZ p)[i] 285 dw AaG (by unfold F7 at zC;have e1:(BZ p)[i].size=(BZ p)[i].data.toList.length:=B0;omega);have no:Oc ((BZ p)[i]).data.toList=false->(none:Option Int)=CB p:=fun e=>by
    rw[em2,Ai];intro Gw
    have:=Bc.1 Gw _ (Aq h)
    rw[e]at this;cases this
   refine B8 (Bt (IS ((BZ p)[i]).data.toList)) (fun e1=>?_) (fun e1=>?_)
   rotate_left
   .rw[e1]at hn;refine Xi .pure (Xi _ (Yi (hn) ?_));exact .of_eq (Aa cP (no (by unfold Oc;rw[e1];rfl)))
   rw[e1]at hn;refine Xi .pure (Xi _ (Yi (hn) (B8 (Bt (((BZ p)[i]).data.toList.all dw)) (fun e2=>?_) (fun e2=>?_))))
   rotate_left
   .rw[e2]at ha;refine Xi .pure (Xi _ (Yi (ha) ?_));exact .of_eq (Aa cP (no (by unfold Oc;rw[e1];exact e2)))
   rw[e2]at ha;refine Xi .pure (Xi _ (Yi (ha) (Yi (Ii i ch) (Xi ⟨i+1,by omega,fun j hj JG=>?_⟩ ?_))))
   .rcases DQ j i with z | z
    .exact i2 j hj z
    .have:j=i:=by omega
     subst this;unfold Oc;rw[e1];exact e2
   .exact⟨by show(BZ p).length-(i+1)<(BZ p).length-i;omega,Z4,Tv,Fh,Tv⟩
  .intro h;have h:¬i<(BZ p).length:=by simpa using h
   have e:some n=CB p:=by
    rw[em2,Al];exact Bc.2 fun x hx=>by
     obtain⟨j,hj,rfl⟩:=Jy hx;exact i2 j hj ch
   exact .of_eq (Aa cP e)
theorem Aay(hp:F7 p):PC 233 [vs p] (vb (CB p).isSome):=by
 have hc:=wj p hp;cases h:CB p with
 |none =>
  rw[h]at hc;refine Ps Ee Tryz.func233 rfl (Nz rfl) (Xi .pure (Xi _ (Yi (hc) (Yi ?_ ?_))))
  .intro h;exact absurd (show(4:Int)=0 from h) Cl
  .intro _;exact .refl _
 |some n =>
  rw[h]at hc;refine Ps Ee Tryz.func233 rfl (Nz rfl) (Xi .pure (Xi _ (Yi (hc) (Yi ?_ ?_))))
  .intro _;exact .refl _
  .intro h;exact absurd rfl h
theorem Vo(c:UInt8):∀s:List UInt8,2<=(FC c s).length->c∈s
 | [],h=>by rw[FC]at h;simp at h
 |b::r,h=>by
  rw[FC]at h
  by_cases e:b=c
  .exact e▸Ab ..
  .rw[Ai e]at h;refine Ah _ (Vo c r ?_);cases hs:FC c r with
   |nil=>rw[hs]at h;simp at h
   |cons x l=>rw[hs]at h;simpa using h
theorem l5{p:ByteArray}{m:Int}(h:CB p=some m):0<=Go.Lib.lastIndex p.data.toList [47]/\Go.Lib.lastIndex p.data.toList [47]<=p.size:=by
 have h2:2<=(FC 47 p.data.toList).length:=by
  unfold CB cQ at h;split at h
  .cases h
  .split at h
   .cases h
   .rename_i hn;simp only[CJ,AA]at hn;omega
 have hm:=Vo 47 _ h2;obtain⟨i,hi,e⟩:=Jy hm;have EM:p.size=p.data.toList.length:=by simp
 unfold Go.Lib.lastIndex;rw[Al (by simp only[Bb];omega)];have AbS:Go.Lib.occAt p.data.toList [47] i=true:=by
  unfold Go.Lib.occAt;rw[AH hi,e];simp
 rcases Go.Lib.lastOcc_spec p.data.toList [47] (p.data.toList.length - [(47:UInt8)].length+1)with ⟨_,h3⟩ | ⟨j,h3,h4,_⟩
 .have:=h3 i (by simp only[Bb];omega)
  rw[AbS]at this;cases this
 .rw[h4];simp only[Bb]at h3;omega
abbrev t6:ByteArray:=p.extract 0 (Go.Lib.lastIndex p.data.toList [47]).toNat
theorem VH:VB t6:=by
 intro p hp;have hc:=wj p hp;have hi:=Aay p hp;unfold eX;cases h:CB p with
 |none =>
  rw[h]at hc hi;refine Ps Ee Tryz.func167 rfl (Nz rfl) (Xi .pure (Xi _ (Yi (hc) (Xi .pure (Xi _ (Yi (hi) ?_))))));exact .refl _
 |some n =>
  rw[h]at hc hi;obtain⟨l1,l2⟩:=l5 h;have hl:PC 234 [vs p,vs bO] (vi (Go.Lib.lastIndex p.data.toList [47])):=Aaz p bO hp;refine Ps Ee Tryz.func167 rfl (Nz rfl) (Xi .pure (Xi _ (Yi (hc) (Xi .pure (Xi _ (Yi (hi) (Yi ?_ ?_)))))))
  .intro h;exact absurd rfl h
  intro _;refine Xi .pure (Xi _ (Yi (hl) (Yi ⟨Bs _,l1,l2⟩ ?_)));exact .refl _
theorem Qk{l:List Rq}(h:BI l=0):l.length<=16:=by
 unfold BI at h;split at h
 .cases h
 .omega
theorem L3{x:List Rl}(h:A4 x=0):x.length<=256/\∀r∈x,r.reqs.length<=16:=by
 have h1:x.length<=256:=by
  unfold A4 at h;split at h
  .cases h
  .omega
 exact⟨h1,fun r hr=>Qk ((Cw h).1 r hr).reqs⟩
theorem kT{x:List Rl}(h:∀r∈x,r.reqs.length<=16):((x.map (·.reqs)).flatten).length<=x.length*16:=by
 induction x with
 |nil=>simp
 |cons r x ih =>
  rw[AI,BB,Ac,Ak]
  have:=h r (Ab ..)
  have:=ih fun s hs=>h s (Ah _ hs)
  omega
theorem df{x:List Rl}{roots:List Rq}{l:List Nf}(h1:A4 x=0)(h2:BI roots=0)(h3:l.length<=65536):(K3 x roots l).length<=100000:=by
 obtain⟨a,b⟩:=L3 h1
 have:=kT b
 have:=Qk h2
 unfold K3;simp only[Ac,Lm];omega
theorem VZ.fewI{U:List ByteArray}{t:List Tm}(h:VZ U t)(hu:U.length<=100000):sc t :=
 ⟨by have:=h.len;omega,fun u hu=>Pz (h.1.canon u hu)⟩
abbrev Mo:AV:=.agg (Ic x ifs)
abbrev Y2:E2:=⟨true,[.str,.int .i64,.int .i64,.int .i64]⟩
abbrev Sf(y:Sl):Value:=.agg #[.string y.path,.int .i64 y.ver.a,.int .i64 y.ver.b,.int .i64 y.ver.c]
abbrev Vw(r:Rl):Value×AV:=(Sf (Gc r),.agg (AF r))
def AW:List Rl->List ByteArray->List ByteArray
 | [],acc=>acc
 |r::x,acc=>AW x (if acc.any (fun p=>decide (p=r.path))then acc else acc++[r.path])
abbrev pP:Value×AV:=(.string p,sl AF (x.filter fun r=>decide (r.path=p)))
abbrev VW:AV:=if A4 x=0 then .tup [.agg [.cmap Y2 (x.map Vw),.cmap Cm ((AW x []).map (pP x))],vi 0]else .tup [.agg [.cmap Y2 [],.cmap Cm []],vi (A4 x)]
abbrev jE:Prop:=PC 82 [Mo x ifs] (VW x)
theorem AaS:PC 83 [.agg r6] (.agg r6):=by
 refine Ps Ee Tryz.func83 rfl (Nz rfl) (yN (Xi Unit (Xi (fun _=>⟨[(1,.ref 1 0),(2,.ref 2 0),(10,vi 0),(11,vi 0)],[(1,.cells r6),(2,.cells r6)],Af⟩) (Xi (fun _=>0) (Yi (Xi () ?_) ?_)))))
 .exact⟨Z4,Z2,Fh,Tv⟩
 intro _;refine Yi ?_ ?_
 .intro h;exact absurd (show(0:Int)<0 from h) Cl
 .intro _;refine Yi (Nz rfl) (Yi (Nz rfl) (yN ?_));exact .refl _
theorem pL{z:Sl}(h:Sf y=Sf z):y=z:=by
 obtain⟨p,⟨a,b,c⟩⟩:=y;obtain⟨q,⟨d,e,f⟩⟩:=z;simp only[Sf,Value.agg.injEq,Array.mk.injEq,E7,Value.string.injEq,Value.int.injEq,true_and,and_true]at h;obtain⟨rfl,rfl,rfl,rfl⟩:=h
 rfl
theorem eT{x:List Rl}(h:(Sf y,a)∈x.map Vw):∃r∈x,Gc r=y/\a=.agg (AF r):=by
 obtain⟨r,h1,h2⟩:=Ag.1 h;simp only[Vw,F4]at h2;exact⟨r,h1,pL h2.1,h2.2.symm⟩
theorem kS{x:List Rl}(hx:A4 x=0){r:Rl}(hr:r∈x):Db x (Gc r)=some r:=by
 unfold Db;rw[Ai ch];cases h:x.find? (fun s=>decide (Gc s=Gc r))with
 |none =>
  rw[DO]at h;exact absurd B0 (h r hr)
 |some s =>
  have h1:=DJ h;simp only[AA]at h1;have hs:=BE h;have hp:=(Cw hx).2;rcases Cf.1 hr with ⟨i,hi,e1⟩;rcases Cf.1 hs with ⟨j,hj,e2⟩;rcases Nat.lt_trichotomy i j with PO | PO | PO
  .have:=(AX.1 hp) i j hi hj PO
   rw[e1,e2]at this;exact(HD this h1.symm).elim
  .subst PO;rw[<-e1,<-e2]
  .have:=(AX.1 hp) j i hj hi PO
   rw[e1,e2]at this;exact(HD this h1).elim
theorem c53(v:Ver)(ct:jE x ifs)(hx:∀r∈x,Eu r):PC 42 [Mo x ifs,vs p,.agg (DF v)] (fw (Db x ⟨p,v⟩)):=by
 have hz:=AaS
 by_cases h0:A4 x=0
 .have ct:PC 82 [Mo x ifs] (.tup [.agg [.cmap Y2 (x.map Vw),.cmap Cm ((AW x []).map (pP x))],vi 0]):=by
   have:=ct;unfold jE VW at this;rw[Al h0]at this;exact this
  refine Ps (Kf []) Tryz.func42 rfl (Nz rfl) (yN (Xi .pure (Xi _ (Yi (ct) (yN (yN (Yi ?_ ?_)))))))
  .intro a ha;refine CN (eT (y:=⟨p,v⟩) ha) (fun r hr=>?_);have e:=hr.2.2;subst e;have hf:Db x ⟨p,v⟩=some r:=by rw[<-hr.2.1];exact kS h0 hr.1
   have xG:=(L3 h0).2 r hr.1;have hc:=zr r ch (fun q hq=>((hx r hr.1).2 q hq).1);refine yN (yN (Xi .pure (Xi _ (Yi (hc) (Yi (Nz rfl) (yN ?_))))));exact .of_eq (show AV.tup [.agg (AF r),vb true]=fw (Db x ⟨p,v⟩) by rw[hf])
  .intro hn;have hf:Db x ⟨p,v⟩=none:=by
    cases h:Db x ⟨p,v⟩with
    |none=>rfl
    |some r =>
     obtain⟨_,h2,h3⟩:=JL h;exact absurd (Ag.2 ⟨r,h2,by rw[show Vw r=(Sf (Gc r),AV.agg (AF r))from rfl,h3]⟩) (hn (.agg (AF r)))
   refine yN (yN (Xi .pure (Xi _ (Yi (hz) (Yi (Nz rfl) (yN ?_))))));exact .of_eq (show AV.tup [.agg r6,vb false]=fw (Db x ⟨p,v⟩) by rw[hf])
 .have ct:PC 82 [Mo x ifs] (.tup [.agg [.cmap Y2 [],.cmap Cm []],vi (A4 x)]):=by
   have:=ct;unfold jE VW at this;rw[Ai h0]at this;exact this
  have hf:Db x ⟨p,v⟩=none:=by unfold Db;rw[Al h0]
  refine Ps (Kf []) Tryz.func42 rfl (Nz rfl) (yN (Xi .pure (Xi _ (Yi (ct) (yN (yN (Yi ?_ ?_)))))))
  .intro a ha;cases ha
  .intro _;refine yN (yN (Xi .pure (Xi _ (Yi (hz) (Yi (Nz rfl) (yN ?_))))));exact .of_eq (show AV.tup [.agg r6,vb false]=fw (Db x ⟨p,v⟩) by rw[hf])
abbrev EQ:Bu:=(l.filter fun r=>!r.yanked).map fun r=>(plc r.ver,plc r.ver+1)
theorem dA:(EQ l).length<=l.length:=by
 unfold EQ;rw[Lm];exact Bq _ _
theorem eQ{x:List Rl}{ps:List ByteArray}{p:ByteArray}(h:(Value.string p,a)∈ps.map (pP x)):a=sl AF (x.filter fun r=>decide (r.path=p)):=by
 obtain⟨q,_,h2⟩:=Ag.1 h;simp only[pP,F4,Value.string.injEq]at h2;rw[<-h2.2,h2.1]
theorem Pc{acc:List ByteArray}{p:ByteArray}:(acc.any fun q=>decide (q=p))=true↔p∈acc:=by
 rw[Bd];constructor
 .rintro⟨q,h1,h2⟩;rw[<-AU h2];exact h1
 .intro h;exact⟨p,h,by simp⟩
theorem GQ:∀(x:List Rl) (acc:List ByteArray) (p:ByteArray),p∈AW x acc↔p∈acc\/∃r∈x,r.path=p
 | [],acc,p=>by simp[AW]
 |r::x,acc,p=>by
  rw[AW,GQ x];constructor
  .rintro(h | ⟨s,h1,h2⟩)
   .split at h
    .exact .inl h
    .rcases AO.1 h with h | h
     .exact .inl h
     .exact .inr ⟨r,Ab ..,(Ap.1 h).symm⟩
   .exact .inr ⟨s,Ah _ h1,h2⟩
  .rintro(h | ⟨s,h1,h2⟩)
   .left
    split
    .exact h
    .exact BC _ h
   .rcases Az.1 h1 with rfl | h1
    .left
     split
     .rename_i hh;rw[<-h2];exact Pc.1 hh
     .rw[<-h2];exact Br _ (Ap.2 rfl)
    .exact .inr ⟨s,h1,h2⟩
abbrev rQ:SB:=(pT [] [(7,2)] [])
theorem Wr(L:List Rl)(i:Nat)(h:i<L.length):EQ (L.take (i+1))=EQ (L.take i)++(if L[i].yanked then []else [(plc L[i].ver,plc L[i].ver+1)]):=by
 unfold EQ;rw[Bi,Ge h,EE,Ar]
 congr 1
 cases hy:L[i].yanked<;>simp[hy]
theorem AaC(ct:jE x ifs):PC 185 [Mo x ifs,vs p] (sl AC (Ch x p)):=by
 by_cases h0:A4 x=0
 .have ct:PC 82 [Mo x ifs] (.tup [.agg [.cmap Y2 (x.map Vw),.cmap Cm ((AW x []).map (pP x))],vi 0]):=by
   have:=ct;unfold jE VW at this;rw[Al h0]at this;exact this
  have rK:=(L3 h0).1;obtain⟨L,cu⟩:∃L,L=x.filter fun r=>decide (r.path=p):=⟨_,rfl⟩;have hL:KY x p=L:=by unfold KY;rw[Ai ch,cu]
  have hLl:L.length<=256:=by have:=Bq (fun r:Rl=>decide (r.path=p)) x;rw[cu];omega
  refine Ps rQ Tryz.func185 rfl (Nz rfl) (yN (Xi .pure (Xi _ (Yi (ct) (yN (Yi ?_ ?_))))))
  .intro a ha;have ea:a=sl AF L:=by rw[cu];exact eQ ha
   subst ea;refine Xi {i:Nat // i<=L.length} (Xi (fun i=>⟨[(7,.slice (.id 7 2) ((EQ (L.take i.1)).map AC)),(18,sl AF L),(19,vi (L.map AF).length),(20,vi i.1)],[(7,.tok 2 ((EQ (L.take i.1)).map AC).length)],Af⟩) (Xi (fun i=>L.length-i.1) (Yi (Xi ⟨0,AE _⟩ ?_) ?_)))
   .exact⟨Z4,Z1,Fh,Tv⟩
   intro⟨i,i1⟩;have Sa:=dA (L.take i);rw[Av]at Sa;refine Yi ?_ ?_
   .intro h;have h:i<L.length:=by simpa using h
    have hg:L[i]?=some L[i]:=Ge h;refine Xi (AF L[i]) (Yi (Yi (Nn i) (by simp[hg])) (Yi rfl ?_));refine Yi (Nz rfl) (yN (Yi ?_ ?_))
    .intro hy;refine Yi (Ii i ch) ?_;have es:EQ (L.take (i+1))=EQ (L.take i):=by rw[Wr L i h,hy];simp
     have e1:AV.slice (.id 7 2) ((EQ (L.take i)).map AC)=.slice (.id 7 2) ((EQ (L.take (i+1))).map AC):=by rw[es]
     have e2:HO.tok 2 ((EQ (L.take i)).map AC).length=.tok 2 ((EQ (L.take (i+1))).map AC).length:=by rw[es]
     refine Xi ⟨i+1,by omega⟩ ?_;exact⟨Dl L.length i ch,⟨⟨e1,rfl⟩,Zr,Zr,Zr,Tv⟩,⟨⟨e2,rfl⟩,Tv⟩,Fh,Tv⟩
    .intro hy;have pz:=qm L[i].ver;refine yN (Xi _ (Yi (c88 L[i]) (yN (Xi _ (Yi (c88 L[i]) (Yi (by show A7 (plc L[i].ver+1);unfold A7;omega) ?_))))));have Ho:Cn 2 [[vi (plc L[i].ver),vi (plc L[i].ver+1)]]/\((EQ (L.take i)).map AC).length=((EQ (L.take i)).map AC).length/\(((EQ (L.take i)).map AC).length+[[vi (plc L[i].ver),vi (plc L[i].ver+1)]].length)*16<=140737488355328/\((EQ (L.take i)).map AC).length+[[vi (plc L[i].ver),vi (plc L[i].ver+1)]].length<=9223372036854775807 :=
      ⟨⟨rfl,trivial⟩,rfl,by rw[Lm,Bb];omega,by rw[Lm,Bb];omega⟩
     refine Yi Ho (Yi Wk (Yi (Ii i ch) ?_));have es:EQ (L.take (i+1))=EQ (L.take i)++[(plc L[i].ver,plc L[i].ver+1)]:=by rw[Wr L i h,hy];simp
     have e1:AV.slice (.id 7 2) ((EQ (L.take i)).map AC++[[vi (plc L[i].ver),vi (plc L[i].ver+1)]])=.slice (.id 7 2) ((EQ (L.take (i+1))).map AC):=by rw[es,Ar];rfl
     have e2:HO.tok 2 (((EQ (L.take i)).map AC).length+[[vi (plc L[i].ver),vi (plc L[i].ver+1)]].length)=.tok 2 ((EQ (L.take (i+1))).map AC).length:=by rw[es,Ar,Ac];rfl
     refine Xi ⟨i+1,by omega⟩ ?_;exact⟨Dl L.length i ch,⟨⟨e1,rfl⟩,Zr,Zr,Zr,Tv⟩,⟨⟨e2,rfl⟩,Tv⟩,Fh,Tv⟩
   .intro h;have h:¬i<L.length:=by simpa using h
    have et:L.take i=L:=As ch;have hc:PC 169 [sl AC (EQ (L.take i))] (sl AC (canon (EQ (L.take i)))):=XV _ (by unfold B9;omega);refine Xi .pure (Xi _ (Yi (hc) ?_));exact .of_eq (show sl AC (canon (EQ (L.take i)))=sl AC (Ch x p) by rw[et];unfold Ch;rw[hL])
  .intro hn;have hL:KY x p=[]:=by
    rw[hL,cu,HZ];intro r hr he;have he:=AU he;exact hn _ (Ag.2 ⟨p,(GQ x [] p).2 (.inr ⟨r,hr,he⟩),rfl⟩)
   refine Xi Unit (Xi (fun _=>⟨[(7,.slice (.id 7 2) []),(19,vi 0),(20,vi 0)],[(7,.tok 2 0)],Af⟩) (Xi (fun _=>0) (Yi (Xi () ?_) ?_)))
   .exact⟨Z3,Z1,Fh,Tv⟩
   intro _;refine Yi ?_ ?_
   .intro h;exact absurd (show(0:Int)<0 from h) Cl
   intro _;have hc:PC 169 [sl AC []] (sl AC (canon [])):=XV [] (by unfold B9;simp);refine Xi .pure (Xi _ (Yi (hc) ?_));exact .of_eq (show sl AC (canon [])=sl AC (Ch x p) by unfold Ch;rw[hL];rfl)
 .have ct:PC 82 [Mo x ifs] (.tup [.agg [.cmap Y2 [],.cmap Cm []],vi (A4 x)]):=by
   have:=ct;unfold jE VW at this;rw[Ai h0]at this;exact this
  have hL:KY x p=[]:=by unfold KY;rw[Al h0]
  refine Ps rQ Tryz.func185 rfl (Nz rfl) (yN (Xi .pure (Xi _ (Yi (ct) (yN (Yi ?_ ?_))))))
  .intro a ha;cases ha
  .intro _;refine Xi Unit (Xi (fun _=>⟨[(7,.slice (.id 7 2) []),(19,vi 0),(20,vi 0)],[(7,.tok 2 0)],Af⟩) (Xi (fun _=>0) (Yi (Xi () ?_) ?_)))
   .exact⟨Z3,Z1,Fh,Tv⟩
   intro _;refine Yi ?_ ?_
   .intro h;exact absurd (show(0:Int)<0 from h) Cl
   intro _;have hc:PC 169 [sl AC []] (sl AC (canon [])):=XV [] (by unfold B9;simp);refine Xi .pure (Xi _ (Yi (hc) ?_));exact .of_eq (show sl AC (canon [])=sl AC (Ch x p) by unfold Ch;rw[hL];rfl)
theorem TN:B9 (Ch x p):=by
 unfold Ch B9
 have:=IF (Cv (((KY x p).filter fun r=>!r.yanked).map fun r=>(plc r.ver,plc r.ver+1)));omega
end Go.Eng
