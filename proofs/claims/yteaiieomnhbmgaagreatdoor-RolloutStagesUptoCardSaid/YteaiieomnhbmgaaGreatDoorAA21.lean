/- Lemmas 21. -/
import Derived.Test.YteaiieomnhbmgaaGreatDoorAA20
import Derived.Shelf.Strings.SplitShaped
import Derived.Shelf.Strings.LastIndexAll
import Derived.Shelf.Strings.Search3
import Derived.Shelf.Small.Wraps
import Derived.Ground.NamesProg
import Derived.Lib.LastIndexLaws
namespace Go.Eng
open Go.Proofs
variable (a c:UInt8)(s:ByteArray)(n:Nat)
abbrev vc:AV:=.v (.int .u8 c.toNat)
theorem oN(h:n<256):decide (UInt8.ofNat n<=a)=decide ((n:Int)<=(a.toNat:Int)):=by
 rw[B3,AC,AC,MF,show(UInt8.ofNat n).toNat=n by simp;omega];omega
theorem oM(h:n<256):decide (a<=UInt8.ofNat n)=decide ((a.toNat:Int)<=(n:Int)):=by
 rw[B3,AC,AC,MF,show(UInt8.ofNat n).toNat=n by simp;omega];omega
theorem ua:PC 286 [vc c] (vb (HY c)):=by
 refine Ps El Tryz.func286 rfl (Nz rfl) ?_;have e1:decide ((97:UInt8)<=c)=decide ((97:Int)<=(c.toNat:Int)):=oN c 97 Cl;have e2:decide (c<=(122:UInt8))=decide ((c.toNat:Int)<=(122:Int)):=oM c 122 Cl;have es:HY c=(decide ((97:Int)<=(c.toNat:Int))&&decide ((c.toNat:Int)<=(122:Int))):=by unfold HY;rw[e1,e2]
 refine Yi ?_ ?_
 .intro h;refine Yi ?_ ?_
  .intro h2;exact .of_eq (Aa vb (show true=HY c by rw[es,Ay h,Ay h2];rfl))
  .intro h2;exact .of_eq (Aa vb (show false=HY c by rw[es,AD h2,Dw]))
 .intro h;exact .of_eq (Aa vb (show false=HY c by rw[es,AD h];rfl))
theorem ub:PC 287 [vc c] (vb (Fx c)):=by
 refine Ps El Tryz.func287 rfl (Nz rfl) ?_;have e1:decide ((48:UInt8)<=c)=decide ((48:Int)<=(c.toNat:Int)):=oN c 48 Cl;have e2:decide (c<=(57:UInt8))=decide ((c.toNat:Int)<=(57:Int)):=oM c 57 Cl;have es:Fx c=(decide ((48:Int)<=(c.toNat:Int))&&decide ((c.toNat:Int)<=(57:Int))):=by unfold Fx;rw[e1,e2]
 refine Yi ?_ ?_
 .intro h;refine Yi ?_ ?_
  .intro h2;exact .of_eq (Aa vb (show true=Fx c by rw[es,Ay h,Ay h2];rfl))
  .intro h2;exact .of_eq (Aa vb (show false=Fx c by rw[es,AD h2,Dw]))
 .intro h;exact .of_eq (Aa vb (show false=Fx c by rw[es,AD h];rfl))
theorem AbY:PC 357 [vc c] (vb (YC c)):=by
 refine Ps El Tryz.func357 rfl (Nz rfl) ?_;have e1:decide ((65:UInt8)<=c)=decide ((65:Int)<=(c.toNat:Int)):=oN c 65 Cl;have e2:decide (c<=(90:UInt8))=decide ((c.toNat:Int)<=(90:Int)):=oM c 90 Cl;have es:YC c=(decide ((65:Int)<=(c.toNat:Int))&&decide ((c.toNat:Int)<=(90:Int))):=by unfold YC;rw[e1,e2]
 refine Yi ?_ ?_
 .intro h;refine Yi ?_ ?_
  .intro h2;exact .of_eq (Aa vb (show true=YC c by rw[es,Ay h,Ay h2];rfl))
  .intro h2;exact .of_eq (Aa vb (show false=YC c by rw[es,AD h2,Dw]))
 .intro h;exact .of_eq (Aa vb (show false=YC c by rw[es,AD h];rfl))
abbrev eH:Bool:=HY c||Fx c
theorem AbR:PC 285 [vc c] (vb (eH c)):=by
 have h1:=ua c;have h2:=ub c;rcases Bt (HY c)with e | e
 .rw[e]at h1;refine Ps El Tryz.func285 rfl (Nz rfl) (Xi .pure (Xi _ (Yi (h1) ?_)));exact .of_eq (Aa vb (show true=eH c by unfold eH;rw[e];rfl))
 .rw[e]at h1;refine Ps El Tryz.func285 rfl (Nz rfl) (Xi .pure (Xi _ (Yi (h1) (Xi .pure (Xi _ (Yi (h2) ?_))))));exact .of_eq (Aa vb (show Fx c=eH c by unfold eH;rw[e];rfl))
theorem AbU:PC 322 [vc c] (vb (NH c)):=by
 have h1:=ua c;have h2:=AbY c;have h3:=ub c;have ew:NH c=(HY c||YC c||Fx c||decide (c=95)):=rfl;rcases Bt (HY c)with e | e
 .rw[e]at h1;refine Ps El Tryz.func322 rfl (Nz rfl) (Xi .pure (Xi _ (Yi (h1) ?_)));exact .of_eq (Aa vb (show true=NH c by rw[ew,e];rfl))
 rw[e]at h1;rcases Bt (YC c)with e2 | e2
 .rw[e2]at h2;refine Ps El Tryz.func322 rfl (Nz rfl) (Xi .pure (Xi _ (Yi (h1) (Xi .pure (Xi _ (Yi (h2) ?_))))));exact .of_eq (Aa vb (show true=NH c by rw[ew,e,e2];rfl))
 rw[e2]at h2;rcases Bt (Fx c)with e3 | e3
 .rw[e3]at h3;refine Ps El Tryz.func322 rfl (Nz rfl) (Xi .pure (Xi _ (Yi (h1) (Xi .pure (Xi _ (Yi (h2) (Xi .pure (Xi _ (Yi (h3) ?_)))))))));exact .of_eq (Aa vb (show true=NH c by rw[ew,e,e2,e3];rfl))
 rw[e3]at h3;refine Ps El Tryz.func322 rfl (Nz rfl) (Xi .pure (Xi _ (Yi (h1) (Xi .pure (Xi _ (Yi (h2) (Xi .pure (Xi _ (Yi (h3) ?_)))))))));have eb:decide (c=95)=decide ((c.toNat:Int)=95):=by
  rw[B3,AC,AC];constructor
  .intro h;subst h;rfl
  .intro h;exact UInt8.toNat_inj.1 (by show c.toNat=95;omega)
 refine Yi ?_ ?_
 .intro h;exact .of_eq (Aa vb (show true=NH c by rw[ew,e,e2,e3,eb,Ay h];rfl))
 .intro h;exact .of_eq (Aa vb (show false=NH c by rw[ew,e,e2,e3,eb,AD h];rfl))
theorem fj(i:Nat)(h:i<s.data.toList.length):s.data[i]?=some s.data.toList[i]:=by
 rw[<-A4];exact Ge h
theorem t8(f:Nat)(q:UInt8->Bool)(hf:∀c,PC f [vc c] (vb (q c)))(hs:s.data.toList.length<4611686018427387904):PC 284 [vs s,.v (YQ f)] (vb (s.data.toList.all q)):=by
 have EZ:s.size=s.data.toList.length:=by simp
 refine Ps El Tryz.func284 rfl (Nz rfl) (Xi {i:Nat // i<=s.data.toList.length/\∀j (hj:j<s.data.toList.length),j<i->q s.data.toList[j]=true} (Xi (fun i=>⟨[(0,vs s),(1,.v (YQ f)),(7,vi s.size),(8,vi i.1)],[],Ae⟩) (Xi (fun i=>s.data.toList.length-i.1) (Yi (Xi ⟨0,Ax _,fun j _ h=>by omega⟩ ?_) ?_))))
 .exact⟨Z4,Tv,Fh,Tv⟩
 intro⟨i,h1,h2⟩;refine Yi ?_ ?_
 .intro h;have h:(i:Int)<(s.size:Nat):=h;have h:i<s.data.toList.length:=by omega
  refine Xi s.data.toList[i] (Yi ⟨by show(0:Int)<=i;omega,by show s.data[((i:Nat):Int).toNat]?=_;rw[BL];exact fj s i h⟩ ?_);have hc:=hf s.data.toList[i];refine Cf (Bt (q s.data.toList[i])) (fun e=>?_) (fun e=>?_)
  .rw[e]at hc;refine Xi .pure (Xi _ (Yi (hc) (Yi (Ii i ch) (Xi ⟨i+1,by omega,fun j hj JX=>?_⟩ ?_))))
   .rcases D1 j i with z | z
    .exact h2 j hj z
    .have:j=i:=by omega
     subst this;exact e
   .exact⟨Dl s.data.toList.length i ch,Z4,Tv,Fh,Tv⟩
  .rw[e]at hc;refine Xi .pure (Xi _ (Yi (hc) ?_));have er:s.data.toList.all q=false:=by
    rw[AM];intro ha
    have:=Bd.1 ha _ (Aq h)
    rw[e]at this;cases this
   exact .of_eq (Aa vb er.symm)
 .intro h;have h:¬(i:Int)<(s.size:Nat):=h;have er:s.data.toList.all q=true:=Bd.2 fun c hc=>by
   obtain⟨j,hj,rfl⟩:=JP hc;exact h2 j hj ch
  exact .of_eq (Aa vb er.symm)
end Go.Eng
namespace Go.Proofs
open Go.Shelf
def Tryz.laySplit_ren:Go.Shelf.Ren:=⟨fun | 146=>281 | 221=>320 | 268=>353 | 138=>354 | 143=>355 | 195=>370 | 197=>371 | 218=>372 | 219=>373 | 260=>386 | 217=>387 | 225=>388 | 224=>389 | 267=>390 | 266=>404 | 314=>405 | n=>n,fun | 9=>9 | 31=>52 | 3=>3 | 4=>4 | 0=>0 | 105=>425 | 21=>21 | 5=>5 | 46=>99 | 119=>442 | 139=>445 | 138=>444 | 146=>349 | 51=>229 | n=>n,fun | 1=>0 | 3=>4 | 4=>5 | n=>n⟩
theorem Tryz.laySplit:Go.Proofs.Lays.n146 Tryz.prog Tryz.laySplit_ren:={
 mixed:=by kernel_rfl
 f138:=Tryz.func354.trans (congrArg some Go.Eng.Wk)
 f143:=Tryz.func355.trans (congrArg some Go.Eng.Wk)
 f146:=Tryz.func281.trans (congrArg some Go.Eng.Wk)
 f195:=Tryz.func370.trans (congrArg some Go.Eng.Wk)
 f197:=Tryz.func371.trans (congrArg some Go.Eng.Wk)
 f217:=Tryz.func387.trans (congrArg some Go.Eng.Wk)
 f218:=Tryz.func372.trans (congrArg some Go.Eng.Wk)
 f219:=Tryz.func373.trans (congrArg some Go.Eng.Wk)
 f221:=Tryz.func320.trans (congrArg some Go.Eng.Wk)
 f224:=Tryz.func389.trans (congrArg some Go.Eng.Wk)
 f225:=Tryz.func388.trans (congrArg some Go.Eng.Wk)
 f260:=Tryz.func386.trans (congrArg some Go.Eng.Wk)
 f266:=Tryz.func404.trans (congrArg some Go.Eng.Wk)
 f267:=Tryz.func390.trans (congrArg some Go.Eng.Wk)
 f268:=Tryz.func353.trans (congrArg some Go.Eng.Wk)
 f314:=Tryz.func405.trans (congrArg some Go.Eng.Wk)
 t0:=Tryz.underlying0
 a0:=Tryz.isAgg0
 z0:=Tryz.sizeOf0
 v0:=Tryz.zeroValue0
 t3:=Tryz.underlying3
 a3:=Tryz.isAgg3
 z3:=Tryz.sizeOf3
 v3:=Tryz.zeroValue3
 t4:=Tryz.underlying4
 a4:=Tryz.isAgg4
 z4:=Tryz.sizeOf4
 v4:=Tryz.zeroValue4
 t5:=Tryz.underlying5
 a5:=Tryz.isAgg5
 z5:=Tryz.sizeOf5
 v5:=Tryz.zeroValue5
 t9:=Tryz.underlying9
 a9:=Tryz.isAgg9
 z9:=Tryz.sizeOf9
 v9:=Tryz.zeroValue9
 t21:=Tryz.underlying21
 a21:=Tryz.isAgg21
 z21:=Tryz.sizeOf21
 v21:=Tryz.zeroValue21
 t31:=Tryz.underlying52
 a31:=Tryz.isAgg52
 z31:=Tryz.sizeOf52
 v31:=Tryz.zeroValue52
 t46:=Tryz.underlying99
 a46:=Tryz.isAgg99
 z46:=Tryz.sizeOf99
 v46:=Tryz.zeroValue99
 t51:=Tryz.underlying229
 a51:=Tryz.isAgg229
 z51:=Tryz.sizeOf229
 v51:=Tryz.zeroValue229
 t105:=Tryz.underlying425
 a105:=Tryz.isAgg425
 z105:=Tryz.sizeOf425
 v105:=Tryz.zeroValue425
 t119:=Tryz.underlying442
 a119:=Tryz.isAgg442
 z119:=Tryz.sizeOf442
 t138:=Tryz.underlying444
 a138:=Tryz.isAgg444
 z138:=Tryz.sizeOf444
 v138:=Tryz.zeroValue444
 t139:=Tryz.underlying445
 a139:=Tryz.isAgg445
 z139:=Tryz.sizeOf445
 v139:=Tryz.zeroValue445
 t146:=Tryz.underlying349
 a146:=Tryz.isAgg349
 z146:=Tryz.sizeOf349
 v146:=Tryz.zeroValue349
 g1:=by kernel_rfl
 g3:=by kernel_rfl
 g4:=by kernel_rfl }
def Tryz.layLast_ren:Go.Shelf.Ren:=⟨fun | 148=>234 | 222=>288 | 223=>289 | 269=>324 | n=>n,fun | 9=>9 | 3=>3 | 4=>4 | 5=>5 | 146=>349 | 51=>229 | 46=>99 | n=>n,fun | n=>n⟩
theorem Tryz.layLast:Go.Proofs.Lays.n148 Tryz.prog Tryz.layLast_ren:={
 mixed:=by kernel_rfl
 f148:=Tryz.func234.trans (congrArg some Go.Eng.Wk)
 f222:=Tryz.func288.trans (congrArg some Go.Eng.Wk)
 f223:=Tryz.func289.trans (congrArg some Go.Eng.Wk)
 f269:=Tryz.func324.trans (congrArg some Go.Eng.Wk)
 t3:=Tryz.underlying3
 a3:=Tryz.isAgg3
 z3:=Tryz.sizeOf3
 v3:=Tryz.zeroValue3
 t4:=Tryz.underlying4
 a4:=Tryz.isAgg4
 z4:=Tryz.sizeOf4
 v4:=Tryz.zeroValue4
 t5:=Tryz.underlying5
 a5:=Tryz.isAgg5
 z5:=Tryz.sizeOf5
 v5:=Tryz.zeroValue5
 t9:=Tryz.underlying9
 a9:=Tryz.isAgg9
 z9:=Tryz.sizeOf9
 v9:=Tryz.zeroValue9
 t46:=Tryz.underlying99
 a46:=Tryz.isAgg99
 z46:=Tryz.sizeOf99
 v46:=Tryz.zeroValue99
 t51:=Tryz.underlying229
 a51:=Tryz.isAgg229
 z51:=Tryz.sizeOf229
 v51:=Tryz.zeroValue229
 t146:=Tryz.underlying349
 a146:=Tryz.isAgg349
 z146:=Tryz.sizeOf349
 v146:=Tryz.zeroValue349 }
def Tryz.layCut_ren:Go.Shelf.Ren:=⟨fun | 103=>321 | 210=>356 | 206=>269 | n=>n,fun | 9=>9 | 4=>4 | 24=>370 | 3=>3 | n=>n,fun | n=>n⟩
theorem Tryz.layCut:Go.Proofs.Lays.n103 Tryz.prog Tryz.layCut_ren:={
 mixed:=by kernel_rfl
 f103:=Tryz.func321.trans (congrArg some Go.Eng.Wk)
 f206:=Tryz.func269.trans (congrArg some Go.Eng.Wk)
 f210:=Tryz.func356.trans (congrArg some Go.Eng.Wk)
 t3:=Tryz.underlying3
 a3:=Tryz.isAgg3
 z3:=Tryz.sizeOf3
 v3:=Tryz.zeroValue3
 t4:=Tryz.underlying4
 a4:=Tryz.isAgg4
 z4:=Tryz.sizeOf4
 v4:=Tryz.zeroValue4
 t9:=Tryz.underlying9
 a9:=Tryz.isAgg9
 z9:=Tryz.sizeOf9
 v9:=Tryz.zeroValue9
 t24:=Tryz.underlying370
 a24:=Tryz.isAgg370
 z24:=Tryz.sizeOf370
 v24:=Tryz.zeroValue370 }
def Tryz.layCont_ren:Go.Shelf.Ren:=⟨fun | 144=>358 | 143=>355 | 219=>373 | 217=>387 | 225=>388 | 224=>389 | 267=>390 | 266=>404 | 314=>405 | n=>n,fun | 9=>9 | 4=>4 | 3=>3 | 5=>5 | 46=>99 | 146=>349 | 51=>229 | n=>n,fun | 1=>0 | n=>n⟩
theorem Tryz.layCont:Go.Proofs.Lays.n144 Tryz.prog Tryz.layCont_ren:={
 mixed:=by kernel_rfl
 f143:=Tryz.func355.trans (congrArg some Go.Eng.Wk)
 f144:=Tryz.func358.trans (congrArg some Go.Eng.Wk)
 f217:=Tryz.func387.trans (congrArg some Go.Eng.Wk)
 f219:=Tryz.func373.trans (congrArg some Go.Eng.Wk)
 f224:=Tryz.func389.trans (congrArg some Go.Eng.Wk)
 f225:=Tryz.func388.trans (congrArg some Go.Eng.Wk)
 f266:=Tryz.func404.trans (congrArg some Go.Eng.Wk)
 f267:=Tryz.func390.trans (congrArg some Go.Eng.Wk)
 f314:=Tryz.func405.trans (congrArg some Go.Eng.Wk)
 t3:=Tryz.underlying3
 a3:=Tryz.isAgg3
 z3:=Tryz.sizeOf3
 v3:=Tryz.zeroValue3
 t4:=Tryz.underlying4
 a4:=Tryz.isAgg4
 z4:=Tryz.sizeOf4
 v4:=Tryz.zeroValue4
 t5:=Tryz.underlying5
 a5:=Tryz.isAgg5
 z5:=Tryz.sizeOf5
 v5:=Tryz.zeroValue5
 t9:=Tryz.underlying9
 a9:=Tryz.isAgg9
 z9:=Tryz.sizeOf9
 v9:=Tryz.zeroValue9
 t46:=Tryz.underlying99
 a46:=Tryz.isAgg99
 z46:=Tryz.sizeOf99
 v46:=Tryz.zeroValue99
 t51:=Tryz.underlying229
 a51:=Tryz.isAgg229
 z51:=Tryz.sizeOf229
 v51:=Tryz.zeroValue229
 t146:=Tryz.underlying349
 a146:=Tryz.isAgg349
 z146:=Tryz.sizeOf349
 v146:=Tryz.zeroValue349
 g1:=by kernel_rfl }
end Go.Proofs
namespace Go.Eng
open Go.Proofs
variable {y:Sl}{a:AV}(x:List Rl)(s:ByteArray)(l:List Rl)(ifs:List (List AV))(p:ByteArray)
abbrev cP:ByteArray:=⟨#[47]⟩
abbrev B2:List ByteArray:=Go.Lib.splitB cP 0 (Go.Lib.countB s cP) s
theorem QO:(B2 s).map (·.data.toList)=FR 47 s.data.toList:=kf s 47
abbrev Ry:List AV:=[vs s]
theorem xA(hs:Gp s):PC 281 [vs s,vs cP] (sl Ry (B2 s)):=by
 unfold Gp at hs;have h:=jU (P:=Tryz.prog) (f:=281) (args:=[vs s,vs cP]) [.string s,.string cP] ((B2 s).map Value.string) 9 (au 281 Tryz.func281 Wk rfl) rfl (fun x hx=>by
  obtain⟨y,_,rfl⟩:=Ai.1 hx;rfl) (fun w hm=>by
  obtain⟨m,hm⟩:=hm;have hl:(B2 s).length=Go.Lib.countB s cP+1:=Go.Lib.splitB_all cP Cl 0 _ s rfl;refine(Any.strings_Split Tryz.laySplit Wk s cP m w ch hm Cl).mono ?_
  rintro e w' ⟨rfl,rfl⟩
  exact⟨by rw[Lm,hl],rfl⟩)
 rw[Bs]at h;exact h
theorem AbK(hs:Gp s):PC 234 [vs s,vs p] (vi (Go.Lib.lastIndex s.data.toList p.data.toList)):=by
 unfold Gp at hs;exact Kt [.string s,.string p] (.int .i64 (Go.Lib.lastIndex s.data.toList p.data.toList)) (au 234 Tryz.func234 Wk rfl) rfl (fun g w=>.v _ _) fun w _=>Any.strings_LastIndex Tryz.layLast s p ch w
theorem AbT:PC 321 [vs s,vs p] (.tup [vs ⟨(Go.Lib.trimPrefix s.data.toList p.data.toList).toArray⟩,vb (Go.Lib.hasPrefix s.data.toList p.data.toList)]):=by
 exact Kt [.string s,.string p] _ (au 321 Tryz.func321 Wk rfl) rfl (fun g w=>oc [.string ⟨(Go.Lib.trimPrefix s.data.toList p.data.toList).toArray⟩,.bool (Go.Lib.hasPrefix s.data.toList p.data.toList)]) fun w _=>Any.strings_CutPrefix Tryz.layCut s p w
theorem AbZ(hs:Gp s):PC 358 [vs s,vs p] (vb (Go.Lib.contains s.data.toList p.data.toList)):=by
 unfold Gp at hs;exact Kt [.string s,.string p] (.bool (Go.Lib.contains s.data.toList p.data.toList)) (au 358 Tryz.func358 Wk rfl) rfl (fun g w=>.v _ _) fun w hm=>by
  obtain⟨m,hm⟩:=hm;exact Any.strings_Contains Tryz.layCont s p m w ch hm
theorem gF:∀x y:List UInt8,j7 x y=x.isPrefixOf y
 | [],_=>by simp[j7]
 |_::_,[]=>rfl
 |a::x,b::y=>by
  rw[j7,List.isPrefixOf_cons_cons,gF x y]
  rfl
theorem mS(x:List UInt8):∀y:List UInt8,inL x y=Go.Lib.contains y x
 | []=>by
  unfold Go.Lib.contains Go.Lib.index;cases x<;>rfl
 |b::y=>by
  rw[inL,gF,mS x y];unfold Go.Lib.contains;have hg:=Go.Lib.index_ge y x
  conv=>rhs;unfold Go.Lib.index
  cases h:x.isPrefixOf (b::y)with
  |true=>simp
  |false=>
   simp only[MX,Dp,GB]
   by_cases h0:Go.Lib.index y x=-1
   .rw[h0];rfl
   .have h1:(Go.Lib.index y x == -1)=false:=by simpa using h0
    rw[h1];simp only[Dp,GB];rw[Ay ch,Ay ch]
theorem U0:∀(l:List UInt8) (h:0<l.length),l.headD 0=l[0]
 | [],h=>by simp at h
 |_::_,_=>rfl
abbrev sX:ByteArray:=⟨⟨m6⟩⟩
theorem AbV(hs:Gp s):PC 323 [vs s] (vb (dM s.data.toList)):=by
 unfold Gp at hs;have hc:=AbZ sX ((⟨#[32]⟩++s)++⟨#[32]⟩) (GG Wk);have e:Go.Lib.contains sX.data.toList ((⟨#[32]⟩++s:ByteArray)++⟨#[32]⟩).data.toList=dM s.data.toList:=by
  unfold dM;rw[mS]
  congr 1
 rw[e]at hc;refine Ps El Tryz.func323 rfl (Nz rfl) (Yi (by show(((1+s.size:Nat)):Int)<=_;omega) ?_);refine Yi (by show(((⟨#[32]⟩++s:ByteArray).size+1:Nat):Int)<=_;rw[A2];show(((1+s.size)+1:Nat):Int)<=_;omega) ?_;refine Xi .pure (Xi _ (Yi (hc) ?_));exact .refl _
theorem AbQ(hs:Gp s):PC 283 [vs s] (vb (I7 s.data.toList)):=by
 have hk:=AbV s hs;have hw:=t8 s 322 NH AbU (by unfold Gp at hs;simp;omega);have EZ:s.size=s.data.toList.length:=by simp
 have en:I7 s.data.toList=(!s.data.toList.isEmpty&&decide (s.data.toList.length<=32)&&HY (s.data.toList.headD 0)&&s.data.toList.all NH&&!dM s.data.toList):=rfl
 by_cases h0:s=⟨#[]⟩
 .subst h0;refine Ps El Tryz.func283 rfl (Nz rfl) (Yi ?_ ?_)
  .intro h;exact absurd rfl (show(⟨#[]⟩:ByteArray)≠⟨#[]⟩from h)
  .intro _;exact .refl _
 have h0' : s.data.toList≠[]:=fun e=>h0 (by
  have:s.data=#[]:=by rw[<-Jv];exact e
  cases s;simp_all)
 have CQ:0<s.data.toList.length:=Hu.2 h0';have WA:s.data.toList.isEmpty=false:=by
  cases hl:s.data.toList with
  |nil=>exact absurd hl h0'
  |cons a l=>rfl
 have hhd:s.data.toList.headD 0=s.data.toList[0]:=U0 _ CQ;have pB:=ua s.data.toList[0];refine Ps El Tryz.func283 rfl (Nz rfl) (Yi ?_ ?_)
 rotate_left
 .intro h;exact absurd h0 h
 intro _;refine Yi ?_ ?_
 rotate_left
 .intro h;exact .of_eq (Aa vb (show false=I7 s.data.toList by rw[en,AD (by omega:¬s.data.toList.length<=32)];simp))
 intro h;refine Xi s.data.toList[0] (Yi ⟨Bu _,fj s 0 CQ⟩ (Cf (Bt (HY s.data.toList[0])) (fun e1=>?_) (fun e1=>?_)))
 rotate_left
 .rw[e1]at pB;refine Xi .pure (Xi _ (Yi (pB) ?_));exact .of_eq (Aa vb (show false=I7 s.data.toList by rw[en,hhd,e1];simp))
 rw[e1]at pB;refine Xi .pure (Xi _ (Yi (pB) (Cf (Bt (s.data.toList.all NH)) (fun e2=>?_) (fun e2=>?_))))
 rotate_left
 .rw[e2]at hw;refine Xi .pure (Xi _ (Yi (hw) ?_));exact .of_eq (Aa vb (show false=I7 s.data.toList by rw[en,e2];simp))
 rw[e2]at hw;refine Xi .pure (Xi _ (Yi (hw) ?_));have ef:I7 s.data.toList=!dM s.data.toList:=by rw[en,WA,hhd,e1,e2,Ay (by omega:s.data.toList.length<=32)];rfl
 refine Cf (Bt (dM s.data.toList)) (fun e3=>?_) (fun e3=>?_)
 .rw[e3]at hk;refine Xi .pure (Xi _ (Yi (hk) ?_));exact .of_eq (Aa vb (show false=I7 s.data.toList by rw[ef,e3];rfl))
 .rw[e3]at hk;refine Xi .pure (Xi _ (Yi (hk) ?_));exact .of_eq (Aa vb (show true=I7 s.data.toList by rw[ef,e3];rfl))
abbrev Zv:Option Int->AV
 |some n=>.tup [vi n,vb true]
 |none=>.tup [vi 0,vb false]
theorem gZ{z:Int}(h0:0<=z)(h1:z<256):IntKind.u8.wrap z=z:=by
 show z % 256=z;omega
theorem Xr{c:UInt8}(h:Fx c=true):48<=c.toNat/\c.toNat<=57:=by
 unfold Fx at h;simp only[Af,AC]at h;exact⟨MF.1 h.1,MF.1 h.2⟩
theorem XP(r:List UInt8)(i:Nat)(h:i<r.length):Hh (r.take (i+1))=10*Hh (r.take i)+((r[i].toNat:Int)-48):=by
 unfold Hh;rw[Bj,Ge h,Ef];rfl
theorem AbP(hs:Gp s):PC 282 [vs s] (Zv (MW s.data.toList)):=by
 unfold Gp at hs;have hc:=AbT s ⟨#[118]⟩
 by_cases hp:∃r,s.data.toList=118::r
 .obtain⟨r,hr⟩:=hp;have e1:Go.Lib.hasPrefix s.data.toList (⟨#[118]⟩:ByteArray).data.toList=true:=by rw[hr];rfl
  have e2:Go.Lib.trimPrefix s.data.toList (⟨#[118]⟩:ByteArray).data.toList=r:=by unfold Go.Lib.trimPrefix;rw[e1,Al rfl,hr];rfl
  rw[e1,e2]at hc;have hv:MW s.data.toList=if(r.isEmpty||decide (3<r.length)||(decide (1<r.length)&&decide (r.headD 0=48))||!r.all Fx)=true then none else some (Hh r):=by rw[hr];rfl
  have hrl:r.length<s.size:=by
   have:s.size=s.data.toList.length:=by simp
   rw[this,hr];simp
  generalize hB:(⟨r.toArray⟩:ByteArray)=rB at hc;have qv:rB.data.toList=r:=by rw[<-hB]
  have xY:rB.size=r.length:=by rw[<-hB];rfl
  have hw:=t8 rB 287 Fx ub (by rw[qv];omega);rw[qv]at hw;have no:∀{b:Bool},b=true->(if b=true then none else some (Hh r))=(none:Option Int):=fun h=>Al h;refine Ps (Kv []) Tryz.func282 rfl (Nz rfl) (Xi .pure (Xi _ (Yi (hc) (Yi ?_ ?_))))
  .intro h
   have:r=[]:=by rw[<-qv,h]
   exact .of_eq (Aa Zv (show(none:Option Int)=MW s.data.toList by rw[hv,this];rfl))
  intro h;have DH:r≠[]:=fun e=>h (by rw[<-hB,e]);have CQ:0<r.length:=Hu.2 DH;have WA:r.isEmpty=false:=by
   cases hl:r with
   |nil=>exact absurd hl DH
   |cons a l=>rfl
  refine Yi ?_ ?_
  .intro h2;exact .of_eq (Aa Zv (show(none:Option Int)=MW s.data.toList by rw[hv,no];rw[Ay (by omega:3<r.length)];simp))
  intro h2;have hl3:r.length<=3:=by omega
  have d3:decide (3<r.length)=false:=AD ch;refine Yi ?_ ?_
  .intro h3;have AcA:rB.data[(0:Int).toNat]?=some r[0]:=by
    show rB.data[0]?=_;rw[<-A4,qv];exact Ge CQ
   refine Xi r[0] (Yi ⟨Bu _,AcA⟩ ?_);have hh:=U0 r CQ;refine Yi ?_ ?_
   .intro h4
    have:r[0]=48:=UInt8.toNat_inj.1 (by show r[0].toNat=48;omega)
    exact .of_eq (Aa Zv (show(none:Option Int)=MW s.data.toList by rw[hv,hh,this,Ay (by omega:1<r.length)];simp))
   intro h4;have eo:(decide (1<r.length)&&decide (r.headD 0=48))=false:=by rw[hh,AD (show ¬r[0]=48 from fun e=>h4 (by rw[e];rfl)),Dw]
   have uR:MW s.data.toList=if(!r.all Fx)=true then none else some (Hh r):=by rw[hv,WA,d3,eo];rfl
   refine Cf (Bt (r.all Fx)) (fun e3=>?_) (fun e3=>?_)
   rotate_left
   .rw[e3]at hw;refine Xi .pure (Xi _ (Yi (hw) ?_));exact .of_eq (Aa Zv (show(none:Option Int)=MW s.data.toList by rw[uR,e3];rfl))
   rw[e3]at hw;refine Xi .pure (Xi _ (Yi (hw) ?_));have y9:MW s.data.toList=some (Hh r):=by rw[uR,e3];rfl
   have z0:Hh (r.take 0)=0:=rfl;refine Xi {i:Nat // i<=r.length/\0<=Hh (r.take i)/\(i=0->Hh (r.take i)<=0)/\(i<=1->Hh (r.take i)<=9)/\(i<=2->Hh (r.take i)<=99)/\Hh (r.take i)<=999} (Xi (fun i=>⟨[(0,vs rB),(5,vi (Hh (r.take i.1))),(39,vi rB.size),(40,vi i.1)],[],Ae⟩) (Xi (fun i=>r.length-i.1) (Yi (Xi ⟨0,Ax _,by omega,fun _=>by omega,fun _=>by omega,fun _=>by omega,by omega⟩ ?_) ?_)))
   .exact⟨Z4,Tv,Fh,Tv⟩
   intro⟨i,i1,i2,i3,i4,i5,i6⟩;refine Yi ?_ ?_
   .intro h;have h:(i:Int)<(rB.size:Nat):=h;have h:i<r.length:=by omega
    have hdg:Fx r[i]=true:=Bd.1 e3 _ (Aq h);have wV:=Xr hdg;have hnx:=XP r i h;have uS:IntKind.u8.wrap ((r[i].toNat:Int)-48)=(r[i].toNat:Int)-48:=gZ ch ch;have sD:rB.data[((i:Nat):Int).toNat]?=some r[i]:=by rw[BL,<-A4,qv];exact Ge h
    refine Yi (by show AX (10*Hh (r.take i));unfold AX;omega) (Xi r[i] (Yi ⟨by show(0:Int)<=i;omega,sD⟩ ?_));refine Yi (by show AX (IntKind.u8.wrap ((r[i].toNat:Int)-48));rw[uS];unfold AX;omega) ?_;refine Yi (by show AX (10*Hh (r.take i)+IntKind.u8.wrap ((r[i].toNat:Int)-48));rw[uS];unfold AX;omega) ?_;refine Yi (Ii i ch) ?_;have e5:vi (10*Hh (r.take i)+IntKind.u8.wrap ((r[i].toNat:Int)-48))=vi (Hh (r.take (i+1))):=by rw[uS,hnx]
    refine Xi ⟨i+1,by omega,by omega,fun _=>by omega,fun _=>by omega,fun _=>by omega,by omega⟩ ?_;exact⟨Dl r.length i ch,⟨Zr,⟨e5,rfl⟩,Zr,Zr,Tv⟩,Tv,Fh,Tv⟩
   .intro h;have h:¬(i:Int)<(rB.size:Nat):=h;have e6:AV.tup [vi (Hh (r.take i)),vb true]=Zv (MW s.data.toList):=by rw[y9,At ch]
    exact .of_eq e6
  .intro h3;have h3:¬(1:Int)<((rB.size:Nat):Int):=h3;have eo:(decide (1<r.length)&&decide (r.headD 0=48))=false:=by rw[AD (by omega:¬1<r.length)];rfl
   have uR:MW s.data.toList=if(!r.all Fx)=true then none else some (Hh r):=by rw[hv,WA,d3,eo];rfl
   refine Cf (Bt (r.all Fx)) (fun e3=>?_) (fun e3=>?_)
   rotate_left
   .rw[e3]at hw;refine Xi .pure (Xi _ (Yi (hw) ?_));exact .of_eq (Aa Zv (show(none:Option Int)=MW s.data.toList by rw[uR,e3];rfl))
   rw[e3]at hw;refine Xi .pure (Xi _ (Yi (hw) ?_));have y9:MW s.data.toList=some (Hh r):=by rw[uR,e3];rfl
   have z0:Hh (r.take 0)=0:=rfl;refine Xi {i:Nat // i<=r.length/\0<=Hh (r.take i)/\(i=0->Hh (r.take i)<=0)/\(i<=1->Hh (r.take i)<=9)/\(i<=2->Hh (r.take i)<=99)/\Hh (r.take i)<=999} (Xi (fun i=>⟨[(0,vs rB),(5,vi (Hh (r.take i.1))),(39,vi rB.size),(40,vi i.1)],[],Ae⟩) (Xi (fun i=>r.length-i.1) (Yi (Xi ⟨0,Ax _,by omega,fun _=>by omega,fun _=>by omega,fun _=>by omega,by omega⟩ ?_) ?_)))
   .exact⟨Z4,Tv,Fh,Tv⟩
   intro⟨i,i1,i2,i3,i4,i5,i6⟩;refine Yi ?_ ?_
   .intro h;have h:(i:Int)<(rB.size:Nat):=h;have h:i<r.length:=by omega
    have hdg:Fx r[i]=true:=Bd.1 e3 _ (Aq h);have wV:=Xr hdg;have hnx:=XP r i h;have uS:IntKind.u8.wrap ((r[i].toNat:Int)-48)=(r[i].toNat:Int)-48:=gZ ch ch;have sD:rB.data[((i:Nat):Int).toNat]?=some r[i]:=by rw[BL,<-A4,qv];exact Ge h
    refine Yi (by show AX (10*Hh (r.take i));unfold AX;omega) (Xi r[i] (Yi ⟨by show(0:Int)<=i;omega,sD⟩ ?_));refine Yi (by show AX (IntKind.u8.wrap ((r[i].toNat:Int)-48));rw[uS];unfold AX;omega) ?_;refine Yi (by show AX (10*Hh (r.take i)+IntKind.u8.wrap ((r[i].toNat:Int)-48));rw[uS];unfold AX;omega) ?_;refine Yi (Ii i ch) ?_;have e5:vi (10*Hh (r.take i)+IntKind.u8.wrap ((r[i].toNat:Int)-48))=vi (Hh (r.take (i+1))):=by rw[uS,hnx]
    refine Xi ⟨i+1,by omega,by omega,fun _=>by omega,fun _=>by omega,fun _=>by omega,by omega⟩ ?_;exact⟨Dl r.length i ch,⟨Zr,⟨e5,rfl⟩,Zr,Zr,Tv⟩,Tv,Fh,Tv⟩
   .intro h;have h:¬(i:Int)<(rB.size:Nat):=h;have e6:AV.tup [vi (Hh (r.take i)),vb true]=Zv (MW s.data.toList):=by rw[y9,At ch]
    exact .of_eq e6
 .have e1:Go.Lib.hasPrefix s.data.toList (⟨#[118]⟩:ByteArray).data.toList=false:=by
   cases hl:s.data.toList with
   |nil=>rfl
   |cons a l=>
    have:a≠118:=fun e=>hp ⟨l,by rw[hl,e]⟩
    show(List.isPrefixOf [118] (a::l))=false;rw[List.isPrefixOf_cons_cons]
    have:((118:UInt8) == a)=false:=by rw[beq_eq_false_iff_ne];exact fun e=>this e.symm
    rw[this];rfl
  have hv:MW s.data.toList=none:=by
   cases hl:s.data.toList with
   |nil=>rfl
   |cons a l=>
    have:a≠118:=fun e=>hp ⟨l,by rw[hl,e]⟩
    show(if a=118 then _ else none)=none;rw[Aj this]
  rw[e1]at hc;refine Ps El Tryz.func282 rfl (Nz rfl) (Xi .pure (Xi _ (Yi (hc) ?_)));exact .of_eq (Aa Zv hv.symm)
abbrev dP:Option Int->AV
 |some n=>.tup [vi n,vi 0]
 |none=>.tup [vi 0,vi 4]
theorem VZ(c:UInt8):∀(s x:List UInt8),x∈FR c s->x.length<=s.length
 | [],x,h=>by
  rw[FR]at h;rw[Ar.1 h];exact Ak _
 |b::r,x,h=>by
  have ih:=VZ c r;rw[FR]at h;split at h
  .rcases AA.1 h with rfl | h
   .exact Ax _
   .have:=ih x h;rw[Ag];omega
  .split at h
   .rw[Ar.1 h];rw[Ag];simp
   .rename_i y l e;rcases AA.1 h with rfl | h
    .have:=ih y (by rw[e];exact Ab ..);rw[Ag,Ag];omega
    .have:=ih x (by rw[e];exact Ah _ h);rw[Ag];omega
theorem nQ{p x:ByteArray}(hp:Gp p)(hx:x∈B2 p):Gp x:=by
 have h:x.data.toList∈FR 47 p.data.toList:=by rw[<-QO];exact Ai.2 ⟨x,hx,rfl⟩
 have:=VZ 47 _ _ h
 unfold Gp at *
 have e1:x.size=x.data.toList.length:=by simp
 have e2:p.size=p.data.toList.length:=by simp
 omega
theorem jS:(B2 p).length=(FR 47 p.data.toList).length:=by rw[<-QO,Lm]
theorem jT:0<(B2 p).length:=by
 rw[show(B2 p).length=Go.Lib.countB p cP+1 from Go.Lib.splitB_all cP Cl 0 _ p rfl];omega
theorem jR:(B2 p).length<=p.size+1:=by
 rw[show(B2 p).length=Go.Lib.countB p cP+1 from Go.Lib.splitB_all cP Cl 0 _ p rfl]
 have:=Go.Lib.countB_le cP Cl p.size p (Ak _);omega
theorem dZ(h:(B2 p).length-1<(B2 p).length):(FR 47 p.data.toList).getLastD []=((B2 p)[(B2 p).length-1]).data.toList:=by
 rw[<-QO,List.getLastD_eq_getLast?,List.getLast?_eq_getElem?,Lm,AG,Ge h];rfl
theorem jQ:(FR 47 p.data.toList).all OH=(B2 p).all fun x=>OH x.data.toList:=by
 rw[<-QO,List.all_map];rfl
theorem xy(hp:Gp p):PC 232 [vs p] (dP (CE p)):=by
 have hps:=jR p;have dH:=jT p;have hp1:(B2 p).length-1<(B2 p).length:=by omega
 have EZ:p.size=p.data.toList.length:=by simp
 have hfp:∀{x},x∈B2 p->Gp x:=fun h=>nQ hp h;unfold Gp at hp;have WB:((B2 p).map Ry)[((((B2 p).map Ry).length:Int)-1).toNat]?=some (Ry (B2 p)[(B2 p).length-1]):=by
  rw[Lm,show(((B2 p).length:Int)-1).toNat=(B2 p).length-1 by omega];exact Eo (Ge hp1)
 have hv:=AbP (B2 p)[(B2 p).length-1] (hfp (Aq hp1));have em:CE p=match MW ((B2 p)[(B2 p).length-1]).data.toList with
  |none=>none
  |some n=>if(decide (64<p.data.toList.length)||decide ((B2 p).length<2))=true then none else if((B2 p).all fun x=>OH x.data.toList)=true then some n else none:=by
  unfold CE dQ;rw[dZ p hp1,jQ,<-jS];cases MW ((B2 p)[(B2 p).length-1]).data.toList with
  |none=>rfl
  |some n=>rfl
 cases hve:MW ((B2 p)[(B2 p).length-1]).data.toList with
 |none=>
  rw[hve]at hv em;refine Ps (Kv []) Tryz.func232 rfl (Nz rfl) (Xi .pure (Xi _ (Yi (xA p hp) (Yi (by show AX ((((B2 p).map Ry).length:Int)-1);unfold AX;rw[Lm];omega) ?_))));refine Xi (Ry (B2 p)[(B2 p).length-1]) (Yi (Yi (by show(0:Int)<=(((B2 p).map Ry).length:Int)-1;rw[Lm];omega) WB) (Yi rfl ?_));refine Xi .pure (Xi _ (Yi (hv) ?_));exact .of_eq (Aa dP em.symm)
 |some n=>
  rw[hve]at hv em;refine Ps (Kv []) Tryz.func232 rfl (Nz rfl) (Xi .pure (Xi _ (Yi (xA p hp) (Yi (by show AX ((((B2 p).map Ry).length:Int)-1);unfold AX;rw[Lm];omega) ?_))));refine Xi (Ry (B2 p)[(B2 p).length-1]) (Yi (Yi (by show(0:Int)<=(((B2 p).map Ry).length:Int)-1;rw[Lm];omega) WB) (Yi rfl ?_));refine Xi .pure (Xi _ (Yi (hv) (Yi ?_ ?_)))
  .intro h;exact .of_eq (Aa dP (show(none:Option Int)=CE p by rw[em,Ay (by omega:64<p.data.toList.length)];rfl))
  intro h;have d1:decide (64<p.data.toList.length)=false:=AD ch;refine Yi ?_ ?_
  .intro h2;rw[Lm]at h2;exact .of_eq (Aa dP (show(none:Option Int)=CE p by rw[em,d1,Ay (by omega:(B2 p).length<2)];rfl))
  intro h2;have d2:decide ((B2 p).length<2)=false:=AD (by rw[Lm]at h2;omega);have em2:CE p=if((B2 p).all fun x=>OH x.data.toList)=true then some n else none:=by rw[em,d1,d2];rfl
  refine Xi {i:Nat // i<=(B2 p).length/\∀j (hj:j<(B2 p).length),j<i->OH ((B2 p)[j]).data.toList=true} (Xi (fun i=>⟨[(5,vi n),(33,sl Ry (B2 p)),(34,vi ((B2 p).map Ry).length),(35,vi i.1)],[],Ae⟩) (Xi (fun i=>(B2 p).length-i.1) (Yi (Xi ⟨0,Ax _,fun j _ h=>by omega⟩ ?_) ?_)))
  .exact⟨Z4,Tv,Fh,Tv⟩
  intro⟨i,i1,i2⟩;refine Yi ?_ ?_
  .intro h;have h:i<(B2 p).length:=by simpa using h
   have hg:(B2 p)[i]?=some (B2 p)[i]:=Ge h;refine Xi (Ry (B2 p)[i]) (Yi (Yi (Nn i) (by simp[hg])) (Yi rfl ?_));have hfi:=hfp (Aq h);have hn:=AbQ (B2 p)[i] hfi;have ha:=t8 (B2 p)[i] 285 eH AbR (by unfold Gp at hfi;have e1:(B2 p)[i].size=(B2 p)[i].data.toList.length:=B0;omega);have no:OH ((B2 p)[i]).data.toList=false->(none:Option Int)=CE p:=fun e=>by
    rw[em2,Aj];intro GL
    have:=Bd.1 GL _ (Aq h)
    rw[e]at this;cases this
   refine Cf (Bt (I7 ((B2 p)[i]).data.toList)) (fun e1=>?_) (fun e1=>?_)
   rotate_left
   .rw[e1]at hn;refine Xi .pure (Xi _ (Yi (hn) ?_));exact .of_eq (Aa dP (no (by unfold OH;rw[e1];rfl)))
   rw[e1]at hn;refine Xi .pure (Xi _ (Yi (hn) (Cf (Bt (((B2 p)[i]).data.toList.all eH)) (fun e2=>?_) (fun e2=>?_))))
   rotate_left
   .rw[e2]at ha;refine Xi .pure (Xi _ (Yi (ha) ?_));exact .of_eq (Aa dP (no (by unfold OH;rw[e1];exact e2)))
   rw[e2]at ha;refine Xi .pure (Xi _ (Yi (ha) (Yi (Ii i ch) (Xi ⟨i+1,by omega,fun j hj JX=>?_⟩ ?_))))
   .rcases D1 j i with z | z
    .exact i2 j hj z
    .have:j=i:=by omega
     subst this;unfold OH;rw[e1];exact e2
   .exact⟨by show(B2 p).length-(i+1)<(B2 p).length-i;omega,Z4,Tv,Fh,Tv⟩
  .intro h;have h:¬i<(B2 p).length:=by simpa using h
   have e:some n=CE p:=by
    rw[em2,Al];exact Bd.2 fun x hx=>by
     obtain⟨j,hj,rfl⟩:=JP hx;exact i2 j hj ch
   exact .of_eq (Aa dP e)
theorem AbJ(hp:Gp p):PC 233 [vs p] (vb (CE p).isSome):=by
 have hc:=xy p hp;cases h:CE p with
 |none=>
  rw[h]at hc;refine Ps El Tryz.func233 rfl (Nz rfl) (Xi .pure (Xi _ (Yi (hc) (Yi ?_ ?_))))
  .intro h;exact absurd (show(4:Int)=0 from h) Cl
  .intro _;exact .refl _
 |some n=>
  rw[h]at hc;refine Ps El Tryz.func233 rfl (Nz rfl) (Xi .pure (Xi _ (Yi (hc) (Yi ?_ ?_))))
  .intro _;exact .refl _
  .intro h;exact absurd rfl h
theorem Wa(c:UInt8):∀s:List UInt8,2<=(FR c s).length->c∈s
 | [],h=>by rw[FR]at h;simp at h
 |b::r,h=>by
  rw[FR]at h
  by_cases e:b=c
  .exact e▸Ab ..
  .rw[Aj e]at h;refine Ah _ (Wa c r ?_);cases hs:FR c r with
   |nil=>rw[hs]at h;simp at h
   |cons x l=>rw[hs]at h;simpa using h
theorem m7{p:ByteArray}{m:Int}(h:CE p=some m):0<=Go.Lib.lastIndex p.data.toList [47]/\Go.Lib.lastIndex p.data.toList [47]<=p.size:=by
 have h2:2<=(FR 47 p.data.toList).length:=by
  unfold CE dQ at h;split at h
  .cases h
  .split at h
   .cases h
   .rename_i hn;simp only[CN,AC]at hn;omega
 have hm:=Wa 47 _ h2;obtain⟨i,hi,e⟩:=JP hm;have EZ:p.size=p.data.toList.length:=by simp
 unfold Go.Lib.lastIndex;rw[Al (by simp only[Bh];omega)];have Ad4:Go.Lib.occAt p.data.toList [47] i=true:=by
  unfold Go.Lib.occAt;rw[AH hi,e];simp
 rcases Go.Lib.lastOcc_spec p.data.toList [47] (p.data.toList.length - [(47:UInt8)].length+1)with ⟨_,h3⟩ | ⟨j,h3,h4,_⟩
 .have:=h3 i (by simp only[Bh];omega)
  rw[Ad4]at this;cases this
 .rw[h4];simp only[Bh]at h3;omega
abbrev vd:ByteArray:=p.extract 0 (Go.Lib.lastIndex p.data.toList [47]).toNat
theorem Ww:Wp vd:=by
 intro p hp;have hc:=xy p hp;have hi:=AbJ p hp;unfold fY;cases h:CE p with
 |none=>
  rw[h]at hc hi;refine Ps El Tryz.func167 rfl (Nz rfl) (Xi .pure (Xi _ (Yi (hc) (Xi .pure (Xi _ (Yi (hi) ?_))))));exact .refl _
 |some n=>
  rw[h]at hc hi;obtain⟨l1,l2⟩:=m7 h;have hl:PC 234 [vs p,vs cP] (vi (Go.Lib.lastIndex p.data.toList [47])):=AbK p cP hp;refine Ps El Tryz.func167 rfl (Nz rfl) (Xi .pure (Xi _ (Yi (hc) (Xi .pure (Xi _ (Yi (hi) (Yi ?_ ?_)))))))
  .intro h;exact absurd rfl h
  intro _;refine Xi .pure (Xi _ (Yi (hl) (Yi ⟨Bu _,l1,l2⟩ ?_)));exact .refl _
theorem QT{l:List Rq}(h:BN l=0):l.length<=16:=by
 unfold BN at h;split at h
 .cases h
 .omega
theorem Mn{x:List Rl}(h:A5 x=0):x.length<=256/\∀r∈x,r.reqs.length<=16:=by
 have h1:x.length<=256:=by
  unfold A5 at h;split at h
  .cases h
  .omega
 exact⟨h1,fun r hr=>QT ((CA h).1 r hr).reqs⟩
theorem l5{x:List Rl}(h:∀r∈x,r.reqs.length<=16):((x.map (·.reqs)).flatten).length<=x.length*16:=by
 induction x with
 |nil=>simp
 |cons r x ih=>
  rw[AK,BD,Ac,Ag]
  have:=h r (Ab ..)
  have:=ih fun s hs=>h s (Ah _ hs)
  omega
theorem d6{x:List Rl}{roots:List Rq}{l:List Nf}(h1:A5 x=0)(h2:BN roots=0)(h3:l.length<=65536):(Lo x roots l).length<=100000:=by
 obtain⟨a,b⟩:=Mn h1
 have:=l5 b
 have:=QT h2
 unfold Lo;simp only[Ac,Lm];omega
theorem WS.fewI{U:List ByteArray}{t:List Tm}(h:WS U t)(hu:U.length<=100000):tu t:=
 ⟨by have:=h.len;omega,fun u hu=>Qe (h.1.canon u hu)⟩
abbrev MU:AV:=.agg (Ic x ifs)
abbrev ZJ:Fg:=⟨true,[.str,.int .i64,.int .i64,.int .i64]⟩
abbrev SV(y:Sl):Value:=.agg #[.string y.path,.int .i64 y.ver.a,.int .i64 y.ver.b,.int .i64 y.ver.c]
abbrev Wm(r:Rl):Value×AV:=(SV (Gu r),.agg (AF r))
def AW:List Rl->List ByteArray->List ByteArray
 | [],acc=>acc
 |r::x,acc=>AW x (if acc.any (fun p=>decide (p=r.path))then acc else acc++[r.path])
abbrev qQ:Value×AV:=(.string p,sl AF (x.filter fun r=>decide (r.path=p)))
abbrev WO:AV:=if A5 x=0 then .tup [.agg [.cmap ZJ (x.map Wm),.cmap Cq ((AW x []).map (qQ x))],vi 0]else .tup [.agg [.cmap ZJ [],.cmap Cq []],vi (A5 x)]
abbrev kE:Prop:=PC 82 [MU x ifs] (WO x)
theorem Ac3:PC 83 [.agg tn] (.agg tn):=by
 refine Ps El Tryz.func83 rfl (Nz rfl) (yN (Xi Unit (Xi (fun _=>⟨[(1,.ref 1 0),(2,.ref 2 0),(10,vi 0),(11,vi 0)],[(1,.cells tn),(2,.cells tn)],Ae⟩) (Xi (fun _=>0) (Yi (Xi () ?_) ?_)))))
 .exact⟨Z4,Z2,Fh,Tv⟩
 intro _;refine Yi ?_ ?_
 .intro h;exact absurd (show(0:Int)<0 from h) Cl
 .intro _;refine Yi (Nz rfl) (Yi (Nz rfl) (yN ?_));exact .refl _
theorem qM{z:Sl}(h:SV y=SV z):y=z:=by
 obtain⟨p,⟨a,b,c⟩⟩:=y;obtain⟨q,⟨d,e,f⟩⟩:=z;simp only[SV,Value.agg.injEq,Array.mk.injEq,Fo,Value.string.injEq,Value.int.injEq,true_and,and_true]at h;obtain⟨rfl,rfl,rfl,rfl⟩:=h
 rfl
theorem fW{x:List Rl}(h:(SV y,a)∈x.map Wm):∃r∈x,Gu r=y/\a=.agg (AF r):=by
 obtain⟨r,h1,h2⟩:=Ai.1 h;simp only[Wm,Gl]at h2;exact⟨r,h1,qM h2.1,h2.2.symm⟩
theorem lZ{x:List Rl}(hx:A5 x=0){r:Rl}(hr:r∈x):Dj x (Gu r)=some r:=by
 unfold Dj;rw[Aj ch];cases h:x.find? (fun s=>decide (Gu s=Gu r))with
 |none=>
  rw[DZ]at h;exact absurd B0 (h r hr)
 |some s=>
  have h1:=DT h;simp only[AC]at h1;have hs:=BG h;have hp:=(CA hx).2;rcases Ck.1 hr with ⟨i,hi,e1⟩;rcases Ck.1 hs with ⟨j,hj,e2⟩;rcases Nat.lt_trichotomy i j with Qs | Qs | Qs
  .have:=(AY.1 hp) i j hi hj Qs
   rw[e1,e2]at this;exact(HU this h1.symm).elim
  .subst Qs;rw[<-e1,<-e2]
  .have:=(AY.1 hp) j i hj hi Qs
   rw[e1,e2]at this;exact(HU this h1).elim
theorem c53(v:Ver)(dw:kE x ifs)(hx:∀r∈x,EG r):PC 42 [MU x ifs,vs p,.agg (DO v)] (gy (Dj x ⟨p,v⟩)):=by
 have hz:=Ac3
 by_cases h0:A5 x=0
 .have dw:PC 82 [MU x ifs] (.tup [.agg [.cmap ZJ (x.map Wm),.cmap Cq ((AW x []).map (qQ x))],vi 0]):=by
   have:=dw;unfold kE WO at this;rw[Al h0]at this;exact this
  refine Ps (Kv []) Tryz.func42 rfl (Nz rfl) (yN (Xi .pure (Xi _ (Yi (dw) (yN (yN (Yi ?_ ?_)))))))
  .intro a ha;refine CT (fW (y:=⟨p,v⟩) ha) (fun r hr=>?_);have e:=hr.2.2;subst e;have hf:Dj x ⟨p,v⟩=some r:=by rw[<-hr.2.1];exact lZ h0 hr.1
   have yY:=(Mn h0).2 r hr.1;have hc:=c98 r ch (fun q hq=>((hx r hr.1).2 q hq).1);refine yN (yN (Xi .pure (Xi _ (Yi (hc) (Yi (Nz rfl) (yN ?_))))));exact .of_eq (show AV.tup [.agg (AF r),vb true]=gy (Dj x ⟨p,v⟩) by rw[hf])
  .intro hn;have hf:Dj x ⟨p,v⟩=none:=by
    cases h:Dj x ⟨p,v⟩with
    |none=>rfl
    |some r=>
     obtain⟨_,h2,h3⟩:=J5 h;exact absurd (Ai.2 ⟨r,h2,by rw[show Wm r=(SV (Gu r),AV.agg (AF r))from rfl,h3]⟩) (hn (.agg (AF r)))
   refine yN (yN (Xi .pure (Xi _ (Yi (hz) (Yi (Nz rfl) (yN ?_))))));exact .of_eq (show AV.tup [.agg tn,vb false]=gy (Dj x ⟨p,v⟩) by rw[hf])
 .have dw:PC 82 [MU x ifs] (.tup [.agg [.cmap ZJ [],.cmap Cq []],vi (A5 x)]):=by
   have:=dw;unfold kE WO at this;rw[Aj h0]at this;exact this
  have hf:Dj x ⟨p,v⟩=none:=by unfold Dj;rw[Al h0]
  refine Ps (Kv []) Tryz.func42 rfl (Nz rfl) (yN (Xi .pure (Xi _ (Yi (dw) (yN (yN (Yi ?_ ?_)))))))
  .intro a ha;cases ha
  .intro _;refine yN (yN (Xi .pure (Xi _ (Yi (hz) (Yi (Nz rfl) (yN ?_))))));exact .of_eq (show AV.tup [.agg tn,vb false]=gy (Dj x ⟨p,v⟩) by rw[hf])
abbrev E3:By:=(l.filter fun r=>!r.yanked).map fun r=>(plc r.ver,plc r.ver+1)
theorem eP:(E3 l).length<=l.length:=by
 unfold E3;rw[Lm];exact Bw _ _
theorem fV{x:List Rl}{ps:List ByteArray}{p:ByteArray}(h:(Value.string p,a)∈ps.map (qQ x)):a=sl AF (x.filter fun r=>decide (r.path=p)):=by
 obtain⟨q,_,h2⟩:=Ai.1 h;simp only[qQ,Gl,Value.string.injEq]at h2;rw[<-h2.2,h2.1]
theorem PJ{acc:List ByteArray}{p:ByteArray}:(acc.any fun q=>decide (q=p))=true↔p∈acc:=by
 rw[Be];constructor
 .rintro⟨q,h1,h2⟩;rw[<-AU h2];exact h1
 .intro h;exact⟨p,h,by simp⟩
theorem G6:∀(x:List Rl) (acc:List ByteArray) (p:ByteArray),p∈AW x acc↔p∈acc\/∃r∈x,r.path=p
 | [],acc,p=>by simp[AW]
 |r::x,acc,p=>by
  rw[AW,G6 x];constructor
  .rintro(h | ⟨s,h1,h2⟩)
   .split at h
    .exact .inl h
    .rcases AO.1 h with h | h
     .exact .inl h
     .exact .inr ⟨r,Ab ..,(Ar.1 h).symm⟩
   .exact .inr ⟨s,Ah _ h1,h2⟩
  .rintro(h | ⟨s,h1,h2⟩)
   .left
    split
    .exact h
    .exact BE _ h
   .rcases AA.1 h1 with rfl | h1
    .left
     split
     .rename_i hh;rw[<-h2];exact PJ.1 hh
     .rw[<-h2];exact Bx _ (Ar.2 rfl)
    .exact .inr ⟨s,h1,h2⟩
abbrev s7:Tn:=(pT [] [(7,2)] [])
theorem Xg(L:List Rl)(i:Nat)(h:i<L.length):E3 (L.take (i+1))=E3 (L.take i)++(if L[i].yanked then []else [(plc L[i].ver,plc L[i].ver+1)]):=by
 unfold E3;rw[Bj,Ge h,EP,As]
 congr 1
 cases hy:L[i].yanked<;>simp[hy]
theorem AbN(dw:kE x ifs):PC 185 [MU x ifs,vs p] (sl AE (Cn x p)):=by
 by_cases h0:A5 x=0
 .have dw:PC 82 [MU x ifs] (.tup [.agg [.cmap ZJ (x.map Wm),.cmap Cq ((AW x []).map (qQ x))],vi 0]):=by
   have:=dw;unfold kE WO at this;rw[Al h0]at this;exact this
  have sV:=(Mn h0).1;obtain⟨L,dx⟩:∃L,L=x.filter fun r=>decide (r.path=p):=⟨_,rfl⟩;have hL:Ll x p=L:=by unfold Ll;rw[Aj ch,dx]
  have hLl:L.length<=256:=by have:=Bw (fun r:Rl=>decide (r.path=p)) x;rw[dx];omega
  refine Ps s7 Tryz.func185 rfl (Nz rfl) (yN (Xi .pure (Xi _ (Yi (dw) (yN (Yi ?_ ?_))))))
  .intro a ha;have ea:a=sl AF L:=by rw[dx];exact fV ha
   subst ea;refine Xi {i:Nat // i<=L.length} (Xi (fun i=>⟨[(7,.slice (.id 7 2) ((E3 (L.take i.1)).map AE)),(18,sl AF L),(19,vi (L.map AF).length),(20,vi i.1)],[(7,.tok 2 ((E3 (L.take i.1)).map AE).length)],Ae⟩) (Xi (fun i=>L.length-i.1) (Yi (Xi ⟨0,Ax _⟩ ?_) ?_)))
   .exact⟨Z4,Z1,Fh,Tv⟩
   intro⟨i,i1⟩;have SN:=eP (L.take i);rw[Au]at SN;refine Yi ?_ ?_
   .intro h;have h:i<L.length:=by simpa using h
    have hg:L[i]?=some L[i]:=Ge h;refine Xi (AF L[i]) (Yi (Yi (Nn i) (by simp[hg])) (Yi rfl ?_));refine Yi (Nz rfl) (yN (Yi ?_ ?_))
    .intro hy;refine Yi (Ii i ch) ?_;have es:E3 (L.take (i+1))=E3 (L.take i):=by rw[Xg L i h,hy];simp
     have e1:AV.slice (.id 7 2) ((E3 (L.take i)).map AE)=.slice (.id 7 2) ((E3 (L.take (i+1))).map AE):=by rw[es]
     have e2:HO.tok 2 ((E3 (L.take i)).map AE).length=.tok 2 ((E3 (L.take (i+1))).map AE).length:=by rw[es]
     refine Xi ⟨i+1,by omega⟩ ?_;exact⟨Dl L.length i ch,⟨⟨e1,rfl⟩,Zr,Zr,Zr,Tv⟩,⟨⟨e2,rfl⟩,Tv⟩,Fh,Tv⟩
    .intro hy;have pA:=ru L[i].ver;refine yN (Xi _ (Yi (c88 L[i]) (yN (Xi _ (Yi (c88 L[i]) (Yi (by show AX (plc L[i].ver+1);unfold AX;omega) ?_))))));have HC:B5 2 [[vi (plc L[i].ver),vi (plc L[i].ver+1)]]/\((E3 (L.take i)).map AE).length=((E3 (L.take i)).map AE).length/\(((E3 (L.take i)).map AE).length+[[vi (plc L[i].ver),vi (plc L[i].ver+1)]].length)*16<=140737488355328/\((E3 (L.take i)).map AE).length+[[vi (plc L[i].ver),vi (plc L[i].ver+1)]].length<=9223372036854775807:=
      ⟨⟨rfl,trivial⟩,rfl,by rw[Lm,Bh];omega,by rw[Lm,Bh];omega⟩
     refine Yi HC (Yi Wk (Yi (Ii i ch) ?_));have es:E3 (L.take (i+1))=E3 (L.take i)++[(plc L[i].ver,plc L[i].ver+1)]:=by rw[Xg L i h,hy];simp
     have e1:AV.slice (.id 7 2) ((E3 (L.take i)).map AE++[[vi (plc L[i].ver),vi (plc L[i].ver+1)]])=.slice (.id 7 2) ((E3 (L.take (i+1))).map AE):=by rw[es,As];rfl
     have e2:HO.tok 2 (((E3 (L.take i)).map AE).length+[[vi (plc L[i].ver),vi (plc L[i].ver+1)]].length)=.tok 2 ((E3 (L.take (i+1))).map AE).length:=by rw[es,As,Ac];rfl
     refine Xi ⟨i+1,by omega⟩ ?_;exact⟨Dl L.length i ch,⟨⟨e1,rfl⟩,Zr,Zr,Zr,Tv⟩,⟨⟨e2,rfl⟩,Tv⟩,Fh,Tv⟩
   .intro h;have h:¬i<L.length:=by simpa using h
    have et:L.take i=L:=At ch;have hc:PC 169 [sl AE (E3 (L.take i))] (sl AE (canon (E3 (L.take i)))):=YB _ (by unfold Cb;omega);refine Xi .pure (Xi _ (Yi (hc) ?_));exact .of_eq (show sl AE (canon (E3 (L.take i)))=sl AE (Cn x p) by rw[et];unfold Cn;rw[hL])
  .intro hn;have hL:Ll x p=[]:=by
    rw[hL,dx,Ih];intro r hr he;have he:=AU he;exact hn _ (Ai.2 ⟨p,(G6 x [] p).2 (.inr ⟨r,hr,he⟩),rfl⟩)
   refine Xi Unit (Xi (fun _=>⟨[(7,.slice (.id 7 2) []),(19,vi 0),(20,vi 0)],[(7,.tok 2 0)],Ae⟩) (Xi (fun _=>0) (Yi (Xi () ?_) ?_)))
   .exact⟨Z3,Z1,Fh,Tv⟩
   intro _;refine Yi ?_ ?_
   .intro h;exact absurd (show(0:Int)<0 from h) Cl
   intro _;have hc:PC 169 [sl AE []] (sl AE (canon [])):=YB [] (by unfold Cb;simp);refine Xi .pure (Xi _ (Yi (hc) ?_));exact .of_eq (show sl AE (canon [])=sl AE (Cn x p) by unfold Cn;rw[hL];rfl)
 .have dw:PC 82 [MU x ifs] (.tup [.agg [.cmap ZJ [],.cmap Cq []],vi (A5 x)]):=by
   have:=dw;unfold kE WO at this;rw[Aj h0]at this;exact this
  have hL:Ll x p=[]:=by unfold Ll;rw[Al h0]
  refine Ps s7 Tryz.func185 rfl (Nz rfl) (yN (Xi .pure (Xi _ (Yi (dw) (yN (Yi ?_ ?_))))))
  .intro a ha;cases ha
  .intro _;refine Xi Unit (Xi (fun _=>⟨[(7,.slice (.id 7 2) []),(19,vi 0),(20,vi 0)],[(7,.tok 2 0)],Ae⟩) (Xi (fun _=>0) (Yi (Xi () ?_) ?_)))
   .exact⟨Z3,Z1,Fh,Tv⟩
   intro _;refine Yi ?_ ?_
   .intro h;exact absurd (show(0:Int)<0 from h) Cl
   intro _;have hc:PC 169 [sl AE []] (sl AE (canon [])):=YB [] (by unfold Cb;simp);refine Xi .pure (Xi _ (Yi (hc) ?_));exact .of_eq (show sl AE (canon [])=sl AE (Cn x p) by unfold Cn;rw[hL];rfl)
theorem Ul:Cb (Cn x p):=by
 unfold Cn Cb
 have:=IV (Cz (((Ll x p).filter fun r=>!r.yanked).map fun r=>(plc r.ver,plc r.ver+1)));omega
end Go.Eng
