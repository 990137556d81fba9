/- Lemmas 21. -/
import Derived.Test.YteaiieomnhbmgaaGreatDoorFA20
import Derived.Shelf.Strings.SplitShaped
import Derived.Shelf.Strings.LastIndexAll
import Derived.Shelf.Strings.Search3
import Derived.Shelf.Small.Wraps
import Derived.Ground.NamesProg
import Derived.Lib.LastIndexLaws
namespace Go.Eng
open Go.Proofs
variable (a c:UInt8)(s:ByteArray)(n:Nat)
abbrev vc:AV:=.v (.int .u8 c.toNat)
theorem pp(h:n<256):decide (UInt8.ofNat n<=a)=decide ((n:Int)<=(a.toNat:Int)):=by
 rw[Ca,AA,AA,MR,show(UInt8.ofNat n).toNat=n by simp;omega];omega
theorem po(h:n<256):decide (a<=UInt8.ofNat n)=decide ((a.toNat:Int)<=(n:Int)):=by
 rw[Ca,AA,AA,MR,show(UInt8.ofNat n).toNat=n by simp;omega];omega
theorem uD:PC 286 [vc c] (vb (H4 c)):=by
 refine Ps Ej Tryz.func286 rfl (Nz rfl) ?_;have e1:decide ((97:UInt8)<=c)=decide ((97:Int)<=(c.toNat:Int)):=pp c 97 Cl;have e2:decide (c<=(122:UInt8))=decide ((c.toNat:Int)<=(122:Int)):=po c 122 Cl;have es:H4 c=(decide ((97:Int)<=(c.toNat:Int))&&decide ((c.toNat:Int)<=(122:Int))):=by unfold H4;rw[e1,e2]
 refine Yi ?_ ?_
 .intro h;refine Yi ?_ ?_
  .intro h2;exact .of_eq (Aa vb (show true=H4 c by rw[es,Ak h,Ak h2];rfl))
  .intro h2;exact .of_eq (Aa vb (show false=H4 c by rw[es,Ae h2,Cp]))
 .intro h;exact .of_eq (Aa vb (show false=H4 c by rw[es,Ae h];rfl))
theorem uE:PC 287 [vc c] (vb (Fs c)):=by
 refine Ps Ej Tryz.func287 rfl (Nz rfl) ?_;have e1:decide ((48:UInt8)<=c)=decide ((48:Int)<=(c.toNat:Int)):=pp c 48 Cl;have e2:decide (c<=(57:UInt8))=decide ((c.toNat:Int)<=(57:Int)):=po c 57 Cl;have es:Fs c=(decide ((48:Int)<=(c.toNat:Int))&&decide ((c.toNat:Int)<=(57:Int))):=by unfold Fs;rw[e1,e2]
 refine Yi ?_ ?_
 .intro h;refine Yi ?_ ?_
  .intro h2;exact .of_eq (Aa vb (show true=Fs c by rw[es,Ak h,Ak h2];rfl))
  .intro h2;exact .of_eq (Aa vb (show false=Fs c by rw[es,Ae h2,Cp]))
 .intro h;exact .of_eq (Aa vb (show false=Fs c by rw[es,Ae h];rfl))
theorem Acz:PC 357 [vc c] (vb (YM c)):=by
 refine Ps Ej Tryz.func357 rfl (Nz rfl) ?_;have e1:decide ((65:UInt8)<=c)=decide ((65:Int)<=(c.toNat:Int)):=pp c 65 Cl;have e2:decide (c<=(90:UInt8))=decide ((c.toNat:Int)<=(90:Int)):=po c 90 Cl;have es:YM c=(decide ((65:Int)<=(c.toNat:Int))&&decide ((c.toNat:Int)<=(90:Int))):=by unfold YM;rw[e1,e2]
 refine Yi ?_ ?_
 .intro h;refine Yi ?_ ?_
  .intro h2;exact .of_eq (Aa vb (show true=YM c by rw[es,Ak h,Ak h2];rfl))
  .intro h2;exact .of_eq (Aa vb (show false=YM c by rw[es,Ae h2,Cp]))
 .intro h;exact .of_eq (Aa vb (show false=YM c by rw[es,Ae h];rfl))
abbrev fy:Bool:=H4 c||Fs c
theorem Acr:PC 285 [vc c] (vb (fy c)):=by
 have h1:=uD c;have h2:=uE c;rcases Bt (H4 c)with e|e
 .rw[e]at h1;refine Ps Ej Tryz.func285 rfl (Nz rfl) (Xi .pure (Xi _ (Yi (h1) ?_)));exact .of_eq (Aa vb (show true=fy c by unfold fy;rw[e];rfl))
 .rw[e]at h1;refine Ps Ej Tryz.func285 rfl (Nz rfl) (Xi .pure (Xi _ (Yi (h1) (Xi .pure (Xi _ (Yi (h2) ?_))))));exact .of_eq (Aa vb (show Fs c=fy c by unfold fy;rw[e];rfl))
theorem Acv:PC 322 [vc c] (vb (NR c)):=by
 have h1:=uD c;have h2:=Acz c;have h3:=uE c;have ew:NR c=(H4 c||YM c||Fs c||decide (c=95)):=rfl;rcases Bt (H4 c)with e|e
 .rw[e]at h1;refine Ps Ej Tryz.func322 rfl (Nz rfl) (Xi .pure (Xi _ (Yi (h1) ?_)));exact .of_eq (Aa vb (show true=NR c by rw[ew,e];rfl))
 rw[e]at h1;rcases Bt (YM c)with e2|e2
 .rw[e2]at h2;refine Ps Ej Tryz.func322 rfl (Nz rfl) (Xi .pure (Xi _ (Yi (h1) (Xi .pure (Xi _ (Yi (h2) ?_))))));exact .of_eq (Aa vb (show true=NR c by rw[ew,e,e2];rfl))
 rw[e2]at h2;rcases Bt (Fs c)with e3|e3
 .rw[e3]at h3;refine Ps Ej Tryz.func322 rfl (Nz rfl) (Xi .pure (Xi _ (Yi (h1) (Xi .pure (Xi _ (Yi (h2) (Xi .pure (Xi _ (Yi (h3) ?_)))))))));exact .of_eq (Aa vb (show true=NR c by rw[ew,e,e2,e3];rfl))
 rw[e3]at h3;refine Ps Ej Tryz.func322 rfl (Nz rfl) (Xi .pure (Xi _ (Yi (h1) (Xi .pure (Xi _ (Yi (h2) (Xi .pure (Xi _ (Yi (h3) ?_)))))))));have eb:decide (c=95)=decide ((c.toNat:Int)=95):=by
  rw[Ca,AA,AA];constructor
  .intro h;subst h;rfl
  .intro h;exact UInt8.toNat_inj.1 (by show c.toNat=95;omega)
 refine Yi ?_ ?_
 .intro h;exact .of_eq (Aa vb (show true=NR c by rw[ew,e,e2,e3,eb,Ak h];rfl))
 .intro h;exact .of_eq (Aa vb (show false=NR c by rw[ew,e,e2,e3,eb,Ae h];rfl))
theorem fV(i:Nat)(h:i<s.data.toList.length):s.data[i]?=some s.data.toList[i]:=by
 rw[<-A5];exact Ge h
theorem uC(f:Nat)(q:UInt8->Bool)(hf:∀c,PC f [vc c] (vb (q c)))(hs:s.data.toList.length<4611686018427387904):PC 284 [vs s,.v (Y2 f)] (vb (s.data.toList.all q)):=by
 have ES:s.size=s.data.toList.length:=by simp
 refine Ps Ej Tryz.func284 rfl (Nz rfl) (Xi {i:Nat // i<=s.data.toList.length/\∀j (hj:j<s.data.toList.length),j<i->q s.data.toList[j]=true} (Xi (fun i=>⟨[(0,vs s),(1,.v (Y2 f)),(7,vi s.size),(8,vi i.1)],[],Ag⟩) (Xi (fun i=>s.data.toList.length-i.1) (Yi (Xi ⟨0,AB _,fun j _ h=>by omega⟩ ?_) ?_))))
 .exact⟨Z4,Tv,Fh,Tv⟩
 intro⟨i,h1,h2⟩;refine Yi ?_ ?_
 .intro h;have h:(i:Int)<(s.size:Nat):=h;have h:i<s.data.toList.length:=by omega
  refine Xi s.data.toList[i] (Yi ⟨by show(0:Int)<=i;omega,by show s.data[((i:Nat):Int).toNat]?=_;rw[Cb];exact fV s i h⟩ ?_);have hc:=hf s.data.toList[i];refine BX (Bt (q s.data.toList[i])) (fun e=>?_) (fun e=>?_)
  .rw[e]at hc;refine Xi .pure (Xi _ (Yi (hc) (Yi (Ii i ch) (Xi ⟨i+1,by omega,fun j hj I6=>?_⟩ ?_))))
   .rcases CR j i with z|z
    .exact h2 j hj z
    .have:j=i:=by omega
     subst this;exact e
   .exact⟨Dl s.data.toList.length i ch,Z4,Tv,Fh,Tv⟩
  .rw[e]at hc;refine Xi .pure (Xi _ (Yi (hc) ?_));have er:s.data.toList.all q=false:=by
    rw[AM];intro ha
    have:=A1.1 ha _ (Ao h)
    rw[e]at this;cases this
   exact .of_eq (Aa vb er.symm)
 .intro h;have h:¬(i:Int)<(s.size:Nat):=h;have er:s.data.toList.all q=true:=A1.2 fun c hc=>by
   obtain⟨j,hj,rfl⟩:=F4 hc;exact h2 j hj ch
  exact .of_eq (Aa vb er.symm)
end Go.Eng
namespace Go.Proofs
open Go.Shelf
def Tryz.laySplit_ren:Go.Shelf.Ren:=⟨fun|146=>281|221=>320|268=>353|138=>354|143=>355|195=>370|197=>371|218=>372|219=>373|260=>386|217=>387|225=>388|224=>389|267=>390|266=>404|314=>405|n=>n,fun|9=>9|31=>52|3=>3|4=>4|0=>0|105=>425|21=>21|5=>5|46=>99|119=>442|139=>445|138=>444|146=>349|51=>229|n=>n,fun|1=>0|3=>4|4=>5|n=>n⟩
theorem Tryz.laySplit:Go.Proofs.Lays.n146 Tryz.prog Tryz.laySplit_ren:={
 mixed:=by kernel_rfl
 f138:=Tryz.func354.trans (congrArg some Go.Eng.Wk)
 f143:=Tryz.func355.trans (congrArg some Go.Eng.Wk)
 f146:=Tryz.func281.trans (congrArg some Go.Eng.Wk)
 f195:=Tryz.func370.trans (congrArg some Go.Eng.Wk)
 f197:=Tryz.func371.trans (congrArg some Go.Eng.Wk)
 f217:=Tryz.func387.trans (congrArg some Go.Eng.Wk)
 f218:=Tryz.func372.trans (congrArg some Go.Eng.Wk)
 f219:=Tryz.func373.trans (congrArg some Go.Eng.Wk)
 f221:=Tryz.func320.trans (congrArg some Go.Eng.Wk)
 f224:=Tryz.func389.trans (congrArg some Go.Eng.Wk)
 f225:=Tryz.func388.trans (congrArg some Go.Eng.Wk)
 f260:=Tryz.func386.trans (congrArg some Go.Eng.Wk)
 f266:=Tryz.func404.trans (congrArg some Go.Eng.Wk)
 f267:=Tryz.func390.trans (congrArg some Go.Eng.Wk)
 f268:=Tryz.func353.trans (congrArg some Go.Eng.Wk)
 f314:=Tryz.func405.trans (congrArg some Go.Eng.Wk)
 t0:=Tryz.underlying0
 a0:=Tryz.isAgg0
 z0:=Tryz.sizeOf0
 v0:=Tryz.zeroValue0
 t3:=Tryz.underlying3
 a3:=Tryz.isAgg3
 z3:=Tryz.sizeOf3
 v3:=Tryz.zeroValue3
 t4:=Tryz.underlying4
 a4:=Tryz.isAgg4
 z4:=Tryz.sizeOf4
 v4:=Tryz.zeroValue4
 t5:=Tryz.underlying5
 a5:=Tryz.isAgg5
 z5:=Tryz.sizeOf5
 v5:=Tryz.zeroValue5
 t9:=Tryz.underlying9
 a9:=Tryz.isAgg9
 z9:=Tryz.sizeOf9
 v9:=Tryz.zeroValue9
 t21:=Tryz.underlying21
 a21:=Tryz.isAgg21
 z21:=Tryz.sizeOf21
 v21:=Tryz.zeroValue21
 t31:=Tryz.underlying52
 a31:=Tryz.isAgg52
 z31:=Tryz.sizeOf52
 v31:=Tryz.zeroValue52
 t46:=Tryz.underlying99
 a46:=Tryz.isAgg99
 z46:=Tryz.sizeOf99
 v46:=Tryz.zeroValue99
 t51:=Tryz.underlying229
 a51:=Tryz.isAgg229
 z51:=Tryz.sizeOf229
 v51:=Tryz.zeroValue229
 t105:=Tryz.underlying425
 a105:=Tryz.isAgg425
 z105:=Tryz.sizeOf425
 v105:=Tryz.zeroValue425
 t119:=Tryz.underlying442
 a119:=Tryz.isAgg442
 z119:=Tryz.sizeOf442
 t138:=Tryz.underlying444
 a138:=Tryz.isAgg444
 z138:=Tryz.sizeOf444
 v138:=Tryz.zeroValue444
 t139:=Tryz.underlying445
 a139:=Tryz.isAgg445
 z139:=Tryz.sizeOf445
 v139:=Tryz.zeroValue445
 t146:=Tryz.underlying349
 a146:=Tryz.isAgg349
 z146:=Tryz.sizeOf349
 v146:=Tryz.zeroValue349
 g1:=by kernel_rfl
 g3:=by kernel_rfl
 g4:=by kernel_rfl }
def Tryz.layLast_ren:Go.Shelf.Ren:=⟨fun|148=>234|222=>288|223=>289|269=>324|n=>n,fun|9=>9|3=>3|4=>4|5=>5|146=>349|51=>229|46=>99|n=>n,fun|n=>n⟩
theorem Tryz.layLast:Go.Proofs.Lays.n148 Tryz.prog Tryz.layLast_ren:={
 mixed:=by kernel_rfl
 f148:=Tryz.func234.trans (congrArg some Go.Eng.Wk)
 f222:=Tryz.func288.trans (congrArg some Go.Eng.Wk)
 f223:=Tryz.func289.trans (congrArg some Go.Eng.Wk)
 f269:=Tryz.func324.trans (congrArg some Go.Eng.Wk)
 t3:=Tryz.underlying3
 a3:=Tryz.isAgg3
 z3:=Tryz.sizeOf3
 v3:=Tryz.zeroValue3
 t4:=Tryz.underlying4
 a4:=Tryz.isAgg4
 z4:=Tryz.sizeOf4
 v4:=Tryz.zeroValue4
 t5:=Tryz.underlying5
 a5:=Tryz.isAgg5
 z5:=Tryz.sizeOf5
 v5:=Tryz.zeroValue5
 t9:=Tryz.underlying9
 a9:=Tryz.isAgg9
 z9:=Tryz.sizeOf9
 v9:=Tryz.zeroValue9
 t46:=Tryz.underlying99
 a46:=Tryz.isAgg99
 z46:=Tryz.sizeOf99
 v46:=Tryz.zeroValue99
 t51:=Tryz.underlying229
 a51:=Tryz.isAgg229
 z51:=Tryz.sizeOf229
 v51:=Tryz.zeroValue229
 t146:=Tryz.underlying349
 a146:=Tryz.isAgg349
 z146:=Tryz.sizeOf349
 v146:=Tryz.zeroValue349 }
def Tryz.layCut_ren:Go.Shelf.Ren:=⟨fun|103=>321|210=>356|206=>269|n=>n,fun|9=>9|4=>4|24=>370|3=>3|n=>n,fun|n=>n⟩
theorem Tryz.layCut:Go.Proofs.Lays.n103 Tryz.prog Tryz.layCut_ren:={
 mixed:=by kernel_rfl
 f103:=Tryz.func321.trans (congrArg some Go.Eng.Wk)
 f206:=Tryz.func269.trans (congrArg some Go.Eng.Wk)
 f210:=Tryz.func356.trans (congrArg some Go.Eng.Wk)
 t3:=Tryz.underlying3
 a3:=Tryz.isAgg3
 z3:=Tryz.sizeOf3
 v3:=Tryz.zeroValue3
 t4:=Tryz.underlying4
 a4:=Tryz.isAgg4
 z4:=Tryz.sizeOf4
 v4:=Tryz.zeroValue4
 t9:=Tryz.underlying9
 a9:=Tryz.isAgg9
 z9:=Tryz.sizeOf9
 v9:=Tryz.zeroValue9
 t24:=Tryz.underlying370
 a24:=Tryz.isAgg370
 z24:=Tryz.sizeOf370
 v24:=Tryz.zeroValue370 }
def Tryz.layCont_ren:Go.Shelf.Ren:=⟨fun|144=>358|143=>355|219=>373|217=>387|225=>388|224=>389|267=>390|266=>404|314=>405|n=>n,fun|9=>9|4=>4|3=>3|5=>5|46=>99|146=>349|51=>229|n=>n,fun|1=>0|n=>n⟩
theorem Tryz.layCont:Go.Proofs.Lays.n144 Tryz.prog Tryz.layCont_ren:={
 mixed:=by kernel_rfl
 f143:=Tryz.func355.trans (congrArg some Go.Eng.Wk)
 f144:=Tryz.func358.trans (congrArg some Go.Eng.Wk)
 f217:=Tryz.func387.trans (congrArg some Go.Eng.Wk)
 f219:=Tryz.func373.trans (congrArg some Go.Eng.Wk)
 f224:=Tryz.func389.trans (congrArg some Go.Eng.Wk)
 f225:=Tryz.func388.trans (congrArg some Go.Eng.Wk)
 f266:=Tryz.func404.trans (congrArg some Go.Eng.Wk)
 f267:=Tryz.func390.trans (congrArg some Go.Eng.Wk)
 f314:=Tryz.func405.trans (congrArg some Go.Eng.Wk)
 t3:=Tryz.underlying3
 a3:=Tryz.isAgg3
 z3:=Tryz.sizeOf3
 v3:=Tryz.zeroValue3
 t4:=Tryz.underlying4
 a4:=Tryz.isAgg4
 z4:=Tryz.sizeOf4
 v4:=Tryz.zeroValue4
 t5:=Tryz.underlying5
 a5:=Tryz.isAgg5
 z5:=Tryz.sizeOf5
 v5:=Tryz.zeroValue5
 t9:=Tryz.underlying9
 a9:=Tryz.isAgg9
 z9:=Tryz.sizeOf9
 v9:=Tryz.zeroValue9
 t46:=Tryz.underlying99
 a46:=Tryz.isAgg99
 z46:=Tryz.sizeOf99
 v46:=Tryz.zeroValue99
 t51:=Tryz.underlying229
 a51:=Tryz.isAgg229
 z51:=Tryz.sizeOf229
 v51:=Tryz.zeroValue229
 t146:=Tryz.underlying349
 a146:=Tryz.isAgg349
 z146:=Tryz.sizeOf349
 v146:=Tryz.zeroValue349
 g1:=by kernel_rfl }
end Go.Proofs
namespace Go.Eng
open Go.Proofs
variable {y:Sl}{a:AV}(x:List Rl)(s:ByteArray)(l:List Rl)(ifs:List (List AV))(p:ByteArray)
abbrev dw:ByteArray:=⟨#[47]⟩
abbrev B6:List ByteArray:=Go.Lib.splitB dw 0 (Go.Lib.countB s dw) s
theorem QW:(B6 s).map (·.data.toList)=FM 47 s.data.toList:=kQ s 47
abbrev RE:List AV:=[vs s]
theorem yh(hs:Gq s):PC 281 [vs s,vs dw] (sl RE (B6 s)):=by
 unfold Gq at hs;have h:=kw (P:=Tryz.prog) (f:=281) (args:=[vs s,vs dw]) [.string s,.string dw] ((B6 s).map Value.string) 9 (aN 281 Tryz.func281 Wk rfl) rfl (fun x hx=>by
  obtain⟨y,_,rfl⟩:=Ai.1 hx;rfl) (fun w hm=>by
  obtain⟨m,hm⟩:=hm;have hl:(B6 s).length=Go.Lib.countB s dw+1:=Go.Lib.splitB_all dw Cl 0 _ s rfl;refine(Any.strings_Split Tryz.laySplit Wk s dw m w ch hm Cl).mono ?_
  rintro e w' ⟨rfl,rfl⟩
  exact⟨by rw[Lm,hl],rfl⟩)
 rw[Bq]at h;exact h
theorem Ack(hs:Gq s):PC 234 [vs s,vs p] (vi (Go.Lib.lastIndex s.data.toList p.data.toList)):=by
 unfold Gq at hs;exact KK [.string s,.string p] (.int .i64 (Go.Lib.lastIndex s.data.toList p.data.toList)) (aN 234 Tryz.func234 Wk rfl) rfl (fun g w=>.v _ _) fun w _=>Any.strings_LastIndex Tryz.layLast s p ch w
theorem Acu:PC 321 [vs s,vs p] (.tup [vs ⟨(Go.Lib.trimPrefix s.data.toList p.data.toList).toArray⟩,vb (Go.Lib.hasPrefix s.data.toList p.data.toList)]):=by
 exact KK [.string s,.string p] _ (aN 321 Tryz.func321 Wk rfl) rfl (fun g w=>oO [.string ⟨(Go.Lib.trimPrefix s.data.toList p.data.toList).toArray⟩,.bool (Go.Lib.hasPrefix s.data.toList p.data.toList)]) fun w _=>Any.strings_CutPrefix Tryz.layCut s p w
theorem AcA(hs:Gq s):PC 358 [vs s,vs p] (vb (Go.Lib.contains s.data.toList p.data.toList)):=by
 unfold Gq at hs;exact KK [.string s,.string p] (.bool (Go.Lib.contains s.data.toList p.data.toList)) (aN 358 Tryz.func358 Wk rfl) rfl (fun g w=>.v _ _) fun w hm=>by
  obtain⟨m,hm⟩:=hm;exact Any.strings_Contains Tryz.layCont s p m w ch hm
theorem ic:∀x y:List UInt8,kF x y=x.isPrefixOf y
 | [],_=>by simp[kF]
 |_::_,[]=>rfl
 |a::x,b::y=>by
  rw[kF,List.isPrefixOf_cons_cons,ic x y]
  rfl
theorem ny(x:List UInt8):∀y:List UInt8,inL x y=Go.Lib.contains y x
 | []=>by
  unfold Go.Lib.contains Go.Lib.index;cases x<;>rfl
 |b::y=>by
  rw[inL,ic,ny x y];unfold Go.Lib.contains;have hg:=Go.Lib.index_ge y x
  conv=>rhs;unfold Go.Lib.index
  cases h:x.isPrefixOf (b::y)with
  |true=>simp
  |false=>
   simp only[Na,Dr,Gz]
   by_cases h0:Go.Lib.index y x=-1
   .rw[h0];rfl
   .have h1:(Go.Lib.index y x == -1)=false:=by simpa using h0
    rw[h1];simp only[Dr,Gz];rw[Ak ch,Ak ch]
theorem U7:∀(l:List UInt8) (h:0<l.length),l.headD 0=l[0]
 | [],h=>by simp at h
 |_::_,_=>rfl
abbrev tA:ByteArray:=⟨⟨nI⟩⟩
theorem Acw(hs:Gq s):PC 323 [vs s] (vb (eD s.data.toList)):=by
 unfold Gq at hs;have hc:=AcA tA ((⟨#[32]⟩++s)++⟨#[32]⟩) (GE Wk);have e:Go.Lib.contains tA.data.toList ((⟨#[32]⟩++s:ByteArray)++⟨#[32]⟩).data.toList=eD s.data.toList:=by
  unfold eD;rw[ny]
  congr 1
 rw[e]at hc;refine Ps Ej Tryz.func323 rfl (Nz rfl) (Yi (by show(((1+s.size:Nat)):Int)<=_;omega) ?_);refine Yi (by show(((⟨#[32]⟩++s:ByteArray).size+1:Nat):Int)<=_;rw[Da];show(((1+s.size)+1:Nat):Int)<=_;omega) ?_;refine Xi .pure (Xi _ (Yi (hc) ?_));exact .refl _
theorem Acq(hs:Gq s):PC 283 [vs s] (vb (Ji s.data.toList)):=by
 have hk:=Acw s hs;have hw:=uC s 322 NR Acv (by unfold Gq at hs;simp;omega);have ES:s.size=s.data.toList.length:=by simp
 have en:Ji s.data.toList=(!s.data.toList.isEmpty&&decide (s.data.toList.length<=32)&&H4 (s.data.toList.headD 0)&&s.data.toList.all NR&&!eD s.data.toList):=rfl
 by_cases h0:s=⟨#[]⟩
 .subst h0;refine Ps Ej Tryz.func283 rfl (Nz rfl) (Yi ?_ ?_)
  .intro h;exact absurd rfl (show(⟨#[]⟩:ByteArray)≠⟨#[]⟩from h)
  .intro _;exact .refl _
 have h0' : s.data.toList≠[]:=fun e=>h0 (by
  have:s.data=#[]:=by rw[<-JG];exact e
  cases s;simp_all)
 have CH:0<s.data.toList.length:=Hx.2 h0';have WI:s.data.toList.isEmpty=false:=by
  cases hl:s.data.toList with
  |nil=>exact absurd hl h0'
  |cons a l=>rfl
 have hhd:s.data.toList.headD 0=s.data.toList[0]:=U7 _ CH;have qa:=uD s.data.toList[0];refine Ps Ej Tryz.func283 rfl (Nz rfl) (Yi ?_ ?_)
 rotate_left
 .intro h;exact absurd h0 h
 intro _;refine Yi ?_ ?_
 rotate_left
 .intro h;exact .of_eq (Aa vb (show false=Ji s.data.toList by rw[en,Ae (by omega:¬s.data.toList.length<=32)];simp))
 intro h;refine Xi s.data.toList[0] (Yi ⟨Bs _,fV s 0 CH⟩ (BX (Bt (H4 s.data.toList[0])) (fun e1=>?_) (fun e1=>?_)))
 rotate_left
 .rw[e1]at qa;refine Xi .pure (Xi _ (Yi (qa) ?_));exact .of_eq (Aa vb (show false=Ji s.data.toList by rw[en,hhd,e1];simp))
 rw[e1]at qa;refine Xi .pure (Xi _ (Yi (qa) (BX (Bt (s.data.toList.all NR)) (fun e2=>?_) (fun e2=>?_))))
 rotate_left
 .rw[e2]at hw;refine Xi .pure (Xi _ (Yi (hw) ?_));exact .of_eq (Aa vb (show false=Ji s.data.toList by rw[en,e2];simp))
 rw[e2]at hw;refine Xi .pure (Xi _ (Yi (hw) ?_));have ef:Ji s.data.toList=!eD s.data.toList:=by rw[en,WI,hhd,e1,e2,Ak (by omega:s.data.toList.length<=32)];rfl
 refine BX (Bt (eD s.data.toList)) (fun e3=>?_) (fun e3=>?_)
 .rw[e3]at hk;refine Xi .pure (Xi _ (Yi (hk) ?_));exact .of_eq (Aa vb (show false=Ji s.data.toList by rw[ef,e3];rfl))
 .rw[e3]at hk;refine Xi .pure (Xi _ (Yi (hk) ?_));exact .of_eq (Aa vb (show true=Ji s.data.toList by rw[ef,e3];rfl))
abbrev ZL:Option Int->AV
 |some n=>.tup [vi n,vb true]
 |none=>.tup [vi 0,vb false]
theorem iJ{z:Int}(h0:0<=z)(h1:z<256):IntKind.u8.wrap z=z:=by
 show z % 256=z;omega
theorem XA{c:UInt8}(h:Fs c=true):48<=c.toNat/\c.toNat<=57:=by
 unfold Fs at h;simp only[Af,AA]at h;exact⟨MR.1 h.1,MR.1 h.2⟩
theorem X0(r:List UInt8)(i:Nat)(h:i<r.length):Hh (r.take (i+1))=10*Hh (r.take i)+((r[i].toNat:Int)-48):=by
 unfold Hh;rw[Bh,Ge h,Et];rfl
theorem Acp(hs:Gq s):PC 282 [vs s] (ZL (M9 s.data.toList)):=by
 unfold Gq at hs;have hc:=Acu s ⟨#[118]⟩
 by_cases hp:∃r,s.data.toList=118::r
 .obtain⟨r,hr⟩:=hp;have e1:Go.Lib.hasPrefix s.data.toList (⟨#[118]⟩:ByteArray).data.toList=true:=by rw[hr];rfl
  have e2:Go.Lib.trimPrefix s.data.toList (⟨#[118]⟩:ByteArray).data.toList=r:=by unfold Go.Lib.trimPrefix;rw[e1,Ap rfl,hr];rfl
  rw[e1,e2]at hc;have hv:M9 s.data.toList=if(r.isEmpty||decide (3<r.length)||(decide (1<r.length)&&decide (r.headD 0=48))||!r.all Fs)=true then none else some (Hh r):=by rw[hr];rfl
  have hrl:r.length<s.size:=by
   have:s.size=s.data.toList.length:=by simp
   rw[this,hr];simp
  generalize hB:(⟨r.toArray⟩:ByteArray)=rB at hc;have qT:rB.data.toList=r:=by rw[<-hB]
  have yH:rB.size=r.length:=by rw[<-hB];rfl
  have hw:=uC rB 287 Fs uE (by rw[qT];omega);rw[qT]at hw;have no:∀{b:Bool},b=true->(if b=true then none else some (Hh r))=(none:Option Int):=fun h=>Ap h;refine Ps (KM []) Tryz.func282 rfl (Nz rfl) (Xi .pure (Xi _ (Yi (hc) (Yi ?_ ?_))))
  .intro h
   have:r=[]:=by rw[<-qT,h]
   exact .of_eq (Aa ZL (show(none:Option Int)=M9 s.data.toList by rw[hv,this];rfl))
  intro h;have DJ:r≠[]:=fun e=>h (by rw[<-hB,e]);have CH:0<r.length:=Hx.2 DJ;have WI:r.isEmpty=false:=by
   cases hl:r with
   |nil=>exact absurd hl DJ
   |cons a l=>rfl
  refine Yi ?_ ?_
  .intro h2;exact .of_eq (Aa ZL (show(none:Option Int)=M9 s.data.toList by rw[hv,no];rw[Ak (by omega:3<r.length)];simp))
  intro h2;have hl3:r.length<=3:=by omega
  have d3:decide (3<r.length)=false:=Ae ch;refine Yi ?_ ?_
  .intro h3;have Ad8:rB.data[(0:Int).toNat]?=some r[0]:=by
    show rB.data[0]?=_;rw[<-A5,qT];exact Ge CH
   refine Xi r[0] (Yi ⟨Bs _,Ad8⟩ ?_);have hh:=U7 r CH;refine Yi ?_ ?_
   .intro h4
    have:r[0]=48:=UInt8.toNat_inj.1 (by show r[0].toNat=48;omega)
    exact .of_eq (Aa ZL (show(none:Option Int)=M9 s.data.toList by rw[hv,hh,this,Ak (by omega:1<r.length)];simp))
   intro h4;have eo:(decide (1<r.length)&&decide (r.headD 0=48))=false:=by rw[hh,Ae (show ¬r[0]=48 from fun e=>h4 (by rw[e];rfl)),Cp]
   have vI:M9 s.data.toList=if(!r.all Fs)=true then none else some (Hh r):=by rw[hv,WI,d3,eo];rfl
   refine BX (Bt (r.all Fs)) (fun e3=>?_) (fun e3=>?_)
   rotate_left
   .rw[e3]at hw;refine Xi .pure (Xi _ (Yi (hw) ?_));exact .of_eq (Aa ZL (show(none:Option Int)=M9 s.data.toList by rw[vI,e3];rfl))
   rw[e3]at hw;refine Xi .pure (Xi _ (Yi (hw) ?_));have hv3:M9 s.data.toList=some (Hh r):=by rw[vI,e3];rfl
   have z0:Hh (r.take 0)=0:=rfl;refine Xi {i:Nat // i<=r.length/\0<=Hh (r.take i)/\(i=0->Hh (r.take i)<=0)/\(i<=1->Hh (r.take i)<=9)/\(i<=2->Hh (r.take i)<=99)/\Hh (r.take i)<=999} (Xi (fun i=>⟨[(0,vs rB),(5,vi (Hh (r.take i.1))),(39,vi rB.size),(40,vi i.1)],[],Ag⟩) (Xi (fun i=>r.length-i.1) (Yi (Xi ⟨0,AB _,by omega,fun _=>by omega,fun _=>by omega,fun _=>by omega,by omega⟩ ?_) ?_)))
   .exact⟨Z4,Tv,Fh,Tv⟩
   intro⟨i,i1,i2,i3,i4,i5,i6⟩;refine Yi ?_ ?_
   .intro h;have h:(i:Int)<(rB.size:Nat):=h;have h:i<r.length:=by omega
    have hdg:Fs r[i]=true:=A1.1 e3 _ (Ao h);have xD:=XA hdg;have hnx:=X0 r i h;have vJ:IntKind.u8.wrap ((r[i].toNat:Int)-48)=(r[i].toNat:Int)-48:=iJ ch ch;have ta:rB.data[((i:Nat):Int).toNat]?=some r[i]:=by rw[Cb,<-A5,qT];exact Ge h
    refine Yi (by show Bc (10*Hh (r.take i));unfold Bc;omega) (Xi r[i] (Yi ⟨by show(0:Int)<=i;omega,ta⟩ ?_));refine Yi (by show Bc (IntKind.u8.wrap ((r[i].toNat:Int)-48));rw[vJ];unfold Bc;omega) ?_;refine Yi (by show Bc (10*Hh (r.take i)+IntKind.u8.wrap ((r[i].toNat:Int)-48));rw[vJ];unfold Bc;omega) ?_;refine Yi (Ii i ch) ?_;have e5:vi (10*Hh (r.take i)+IntKind.u8.wrap ((r[i].toNat:Int)-48))=vi (Hh (r.take (i+1))):=by rw[vJ,hnx]
    refine Xi ⟨i+1,by omega,by omega,fun _=>by omega,fun _=>by omega,fun _=>by omega,by omega⟩ ?_;exact⟨Dl r.length i ch,⟨Zr,⟨e5,rfl⟩,Zr,Zr,Tv⟩,Tv,Fh,Tv⟩
   .intro h;have h:¬(i:Int)<(rB.size:Nat):=h;have e6:AV.tup [vi (Hh (r.take i)),vb true]=ZL (M9 s.data.toList):=by rw[hv3,Av ch]
    exact .of_eq e6
  .intro h3;have h3:¬(1:Int)<((rB.size:Nat):Int):=h3;have eo:(decide (1<r.length)&&decide (r.headD 0=48))=false:=by rw[Ae (by omega:¬1<r.length)];rfl
   have vI:M9 s.data.toList=if(!r.all Fs)=true then none else some (Hh r):=by rw[hv,WI,d3,eo];rfl
   refine BX (Bt (r.all Fs)) (fun e3=>?_) (fun e3=>?_)
   rotate_left
   .rw[e3]at hw;refine Xi .pure (Xi _ (Yi (hw) ?_));exact .of_eq (Aa ZL (show(none:Option Int)=M9 s.data.toList by rw[vI,e3];rfl))
   rw[e3]at hw;refine Xi .pure (Xi _ (Yi (hw) ?_));have hv3:M9 s.data.toList=some (Hh r):=by rw[vI,e3];rfl
   have z0:Hh (r.take 0)=0:=rfl;refine Xi {i:Nat // i<=r.length/\0<=Hh (r.take i)/\(i=0->Hh (r.take i)<=0)/\(i<=1->Hh (r.take i)<=9)/\(i<=2->Hh (r.take i)<=99)/\Hh (r.take i)<=999} (Xi (fun i=>⟨[(0,vs rB),(5,vi (Hh (r.take i.1))),(39,vi rB.size),(40,vi i.1)],[],Ag⟩) (Xi (fun i=>r.length-i.1) (Yi (Xi ⟨0,AB _,by omega,fun _=>by omega,fun _=>by omega,fun _=>by omega,by omega⟩ ?_) ?_)))
   .exact⟨Z4,Tv,Fh,Tv⟩
   intro⟨i,i1,i2,i3,i4,i5,i6⟩;refine Yi ?_ ?_
   .intro h;have h:(i:Int)<(rB.size:Nat):=h;have h:i<r.length:=by omega
    have hdg:Fs r[i]=true:=A1.1 e3 _ (Ao h);have xD:=XA hdg;have hnx:=X0 r i h;have vJ:IntKind.u8.wrap ((r[i].toNat:Int)-48)=(r[i].toNat:Int)-48:=iJ ch ch;have ta:rB.data[((i:Nat):Int).toNat]?=some r[i]:=by rw[Cb,<-A5,qT];exact Ge h
    refine Yi (by show Bc (10*Hh (r.take i));unfold Bc;omega) (Xi r[i] (Yi ⟨by show(0:Int)<=i;omega,ta⟩ ?_));refine Yi (by show Bc (IntKind.u8.wrap ((r[i].toNat:Int)-48));rw[vJ];unfold Bc;omega) ?_;refine Yi (by show Bc (10*Hh (r.take i)+IntKind.u8.wrap ((r[i].toNat:Int)-48));rw[vJ];unfold Bc;omega) ?_;refine Yi (Ii i ch) ?_;have e5:vi (10*Hh (r.take i)+IntKind.u8.wrap ((r[i].toNat:Int)-48))=vi (Hh (r.take (i+1))):=by rw[vJ,hnx]
    refine Xi ⟨i+1,by omega,by omega,fun _=>by omega,fun _=>by omega,fun _=>by omega,by omega⟩ ?_;exact⟨Dl r.length i ch,⟨Zr,⟨e5,rfl⟩,Zr,Zr,Tv⟩,Tv,Fh,Tv⟩
   .intro h;have h:¬(i:Int)<(rB.size:Nat):=h;have e6:AV.tup [vi (Hh (r.take i)),vb true]=ZL (M9 s.data.toList):=by rw[hv3,Av ch]
    exact .of_eq e6
 .have e1:Go.Lib.hasPrefix s.data.toList (⟨#[118]⟩:ByteArray).data.toList=false:=by
   cases hl:s.data.toList with
   |nil=>rfl
   |cons a l=>
    have:a≠118:=fun e=>hp ⟨l,by rw[hl,e]⟩
    show(List.isPrefixOf [118] (a::l))=false;rw[List.isPrefixOf_cons_cons]
    have:((118:UInt8) == a)=false:=by rw[beq_eq_false_iff_ne];exact fun e=>this e.symm
    rw[this];rfl
  have hv:M9 s.data.toList=none:=by
   cases hl:s.data.toList with
   |nil=>rfl
   |cons a l=>
    have:a≠118:=fun e=>hp ⟨l,by rw[hl,e]⟩
    show(if a=118 then _ else none)=none;rw[Aj this]
  rw[e1]at hc;refine Ps Ej Tryz.func282 rfl (Nz rfl) (Xi .pure (Xi _ (Yi (hc) ?_)));exact .of_eq (Aa ZL hv.symm)
abbrev eH:Option Int->AV
 |some n=>.tup [vi n,vi 0]
 |none=>.tup [vi 0,vi 4]
theorem Wg(c:UInt8):∀(s x:List UInt8),x∈FM c s->x.length<=s.length
 | [],x,h=>by
  rw[FM]at h;rw[Ar.1 h];exact Am _
 |b::r,x,h=>by
  have ih:=Wg c r;rw[FM]at h;split at h
  .rcases Ay.1 h with rfl|h
   .exact AB _
   .have:=ih x h;rw[Al];omega
  .split at h
   .rw[Ar.1 h];rw[Al];simp
   .rename_i y l e;rcases Ay.1 h with rfl|h
    .have:=ih y (by rw[e];exact Ab ..);rw[Al,Al];omega
    .have:=ih x (by rw[e];exact Ah _ h);rw[Al];omega
theorem oA{p x:ByteArray}(hp:Gq p)(hx:x∈B6 p):Gq x:=by
 have h:x.data.toList∈FM 47 p.data.toList:=by rw[<-QW];exact Ai.2 ⟨x,hx,rfl⟩
 have:=Wg 47 _ _ h
 unfold Gq at *
 have e1:x.size=x.data.toList.length:=by simp
 have e2:p.size=p.data.toList.length:=by simp
 omega
theorem kr:(B6 p).length=(FM 47 p.data.toList).length:=by rw[<-QW,Lm]
theorem ku:0<(B6 p).length:=by
 rw[show(B6 p).length=Go.Lib.countB p dw+1 from Go.Lib.splitB_all dw Cl 0 _ p rfl];omega
theorem kq:(B6 p).length<=p.size+1:=by
 rw[show(B6 p).length=Go.Lib.countB p dw+1 from Go.Lib.splitB_all dw Cl 0 _ p rfl]
 have:=Go.Lib.countB_le dw Cl p.size p (Am _);omega
theorem eZ(h:(B6 p).length-1<(B6 p).length):(FM 47 p.data.toList).getLastD []=((B6 p)[(B6 p).length-1]).data.toList:=by
 rw[<-QW,List.getLastD_eq_getLast?,List.getLast?_eq_getElem?,Lm,AG,Ge h];rfl
theorem kp:(FM 47 p.data.toList).all OP=(B6 p).all fun x=>OP x.data.toList:=by
 rw[<-QW,List.all_map];rfl
theorem yf(hp:Gq p):PC 232 [vs p] (eH (CD p)):=by
 have hps:=kq p;have d8:=ku p;have hp1:(B6 p).length-1<(B6 p).length:=by omega
 have ES:p.size=p.data.toList.length:=by simp
 have hfp:∀{x},x∈B6 p->Gq x:=fun h=>oA hp h;unfold Gq at hp;have WJ:((B6 p).map RE)[((((B6 p).map RE).length:Int)-1).toNat]?=some (RE (B6 p)[(B6 p).length-1]):=by
  rw[Lm,show(((B6 p).length:Int)-1).toNat=(B6 p).length-1 by omega];exact Ek (Ge hp1)
 have hv:=Acp (B6 p)[(B6 p).length-1] (hfp (Ao hp1));have em:CD p=match M9 ((B6 p)[(B6 p).length-1]).data.toList with
  |none=>none
  |some n=>if(decide (64<p.data.toList.length)||decide ((B6 p).length<2))=true then none else if((B6 p).all fun x=>OP x.data.toList)=true then some n else none:=by
  unfold CD eI;rw[eZ p hp1,kp,<-kr];cases M9 ((B6 p)[(B6 p).length-1]).data.toList with
  |none=>rfl
  |some n=>rfl
 cases hve:M9 ((B6 p)[(B6 p).length-1]).data.toList with
 |none=>
  rw[hve]at hv em;refine Ps (KM []) Tryz.func232 rfl (Nz rfl) (Xi .pure (Xi _ (Yi (yh p hp) (Yi (by show Bc ((((B6 p).map RE).length:Int)-1);unfold Bc;rw[Lm];omega) ?_))));refine Xi (RE (B6 p)[(B6 p).length-1]) (Yi (Yi (by show(0:Int)<=(((B6 p).map RE).length:Int)-1;rw[Lm];omega) WJ) (Yi rfl ?_));refine Xi .pure (Xi _ (Yi (hv) ?_));exact .of_eq (Aa eH em.symm)
 |some n=>
  rw[hve]at hv em;refine Ps (KM []) Tryz.func232 rfl (Nz rfl) (Xi .pure (Xi _ (Yi (yh p hp) (Yi (by show Bc ((((B6 p).map RE).length:Int)-1);unfold Bc;rw[Lm];omega) ?_))));refine Xi (RE (B6 p)[(B6 p).length-1]) (Yi (Yi (by show(0:Int)<=(((B6 p).map RE).length:Int)-1;rw[Lm];omega) WJ) (Yi rfl ?_));refine Xi .pure (Xi _ (Yi (hv) (Yi ?_ ?_)))
  .intro h;exact .of_eq (Aa eH (show(none:Option Int)=CD p by rw[em,Ak (by omega:64<p.data.toList.length)];rfl))
  intro h;have d1:decide (64<p.data.toList.length)=false:=Ae ch;refine Yi ?_ ?_
  .intro h2;rw[Lm]at h2;exact .of_eq (Aa eH (show(none:Option Int)=CD p by rw[em,d1,Ak (by omega:(B6 p).length<2)];rfl))
  intro h2;have d2:decide ((B6 p).length<2)=false:=Ae (by rw[Lm]at h2;omega);have em2:CD p=if((B6 p).all fun x=>OP x.data.toList)=true then some n else none:=by rw[em,d1,d2];rfl
  refine Xi {i:Nat // i<=(B6 p).length/\∀j (hj:j<(B6 p).length),j<i->OP ((B6 p)[j]).data.toList=true} (Xi (fun i=>⟨[(5,vi n),(33,sl RE (B6 p)),(34,vi ((B6 p).map RE).length),(35,vi i.1)],[],Ag⟩) (Xi (fun i=>(B6 p).length-i.1) (Yi (Xi ⟨0,AB _,fun j _ h=>by omega⟩ ?_) ?_)))
  .exact⟨Z4,Tv,Fh,Tv⟩
  intro⟨i,i1,i2⟩;refine Yi ?_ ?_
  .intro h;have h:i<(B6 p).length:=by simpa using h
   have hg:(B6 p)[i]?=some (B6 p)[i]:=Ge h;refine Xi (RE (B6 p)[i]) (Yi (Yi (Nn i) (by simp[hg])) (Yi rfl ?_));have hfi:=hfp (Ao h);have hn:=Acq (B6 p)[i] hfi;have ha:=uC (B6 p)[i] 285 fy Acr (by unfold Gq at hfi;have e1:(B6 p)[i].size=(B6 p)[i].data.toList.length:=B0;omega);have no:OP ((B6 p)[i]).data.toList=false->(none:Option Int)=CD p:=fun e=>by
    rw[em2,Aj];intro GJ
    have:=A1.1 GJ _ (Ao h)
    rw[e]at this;cases this
   refine BX (Bt (Ji ((B6 p)[i]).data.toList)) (fun e1=>?_) (fun e1=>?_)
   rotate_left
   .rw[e1]at hn;refine Xi .pure (Xi _ (Yi (hn) ?_));exact .of_eq (Aa eH (no (by unfold OP;rw[e1];rfl)))
   rw[e1]at hn;refine Xi .pure (Xi _ (Yi (hn) (BX (Bt (((B6 p)[i]).data.toList.all fy)) (fun e2=>?_) (fun e2=>?_))))
   rotate_left
   .rw[e2]at ha;refine Xi .pure (Xi _ (Yi (ha) ?_));exact .of_eq (Aa eH (no (by unfold OP;rw[e1];exact e2)))
   rw[e2]at ha;refine Xi .pure (Xi _ (Yi (ha) (Yi (Ii i ch) (Xi ⟨i+1,by omega,fun j hj I6=>?_⟩ ?_))))
   .rcases CR j i with z|z
    .exact i2 j hj z
    .have:j=i:=by omega
     subst this;unfold OP;rw[e1];exact e2
   .exact⟨by show(B6 p).length-(i+1)<(B6 p).length-i;omega,Z4,Tv,Fh,Tv⟩
  .intro h;have h:¬i<(B6 p).length:=by simpa using h
   have e:some n=CD p:=by
    rw[em2,Ap];exact A1.2 fun x hx=>by
     obtain⟨j,hj,rfl⟩:=F4 hx;exact i2 j hj ch
   exact .of_eq (Aa eH e)
theorem Acj(hp:Gq p):PC 233 [vs p] (vb (CD p).isSome):=by
 have hc:=yf p hp;cases h:CD p with
 |none=>
  rw[h]at hc;refine Ps Ej Tryz.func233 rfl (Nz rfl) (Xi .pure (Xi _ (Yi (hc) (Yi ?_ ?_))))
  .intro h;exact absurd (show(4:Int)=0 from h) Cl
  .intro _;exact .refl _
 |some n=>
  rw[h]at hc;refine Ps Ej Tryz.func233 rfl (Nz rfl) (Xi .pure (Xi _ (Yi (hc) (Yi ?_ ?_))))
  .intro _;exact .refl _
  .intro h;exact absurd rfl h
theorem Wh(c:UInt8):∀s:List UInt8,2<=(FM c s).length->c∈s
 | [],h=>by rw[FM]at h;simp at h
 |b::r,h=>by
  rw[FM]at h
  by_cases e:b=c
  .exact e▸Ab ..
  .rw[Aj e]at h;refine Ah _ (Wh c r ?_);cases hs:FM c r with
   |nil=>rw[hs]at h;simp at h
   |cons x l=>rw[hs]at h;simpa using h
theorem nJ{p:ByteArray}{m:Int}(h:CD p=some m):0<=Go.Lib.lastIndex p.data.toList [47]/\Go.Lib.lastIndex p.data.toList [47]<=p.size:=by
 have h2:2<=(FM 47 p.data.toList).length:=by
  unfold CD eI at h;split at h
  .cases h
  .split at h
   .cases h
   .rename_i hn;simp only[CQ,AA]at hn;omega
 have hm:=Wh 47 _ h2;obtain⟨i,hi,e⟩:=F4 hm;have ES:p.size=p.data.toList.length:=by simp
 unfold Go.Lib.lastIndex;rw[Ap (by simp only[Be];omega)];have AdE:Go.Lib.occAt p.data.toList [47] i=true:=by
  unfold Go.Lib.occAt;rw[AI hi,e];simp
 rcases Go.Lib.lastOcc_spec p.data.toList [47] (p.data.toList.length - [(47:UInt8)].length+1)with ⟨_,h3⟩|⟨j,h3,h4,_⟩
 .have:=h3 i (by simp only[Be];omega)
  rw[AdE]at this;cases this
 .rw[h4];simp only[Be]at h3;omega
abbrev vV:ByteArray:=p.extract 0 (Go.Lib.lastIndex p.data.toList [47]).toNat
theorem WF:Wx vV:=by
 intro p hp;have hc:=yf p hp;have hi:=Acj p hp;unfold gL;cases h:CD p with
 |none=>
  rw[h]at hc hi;refine Ps Ej Tryz.func167 rfl (Nz rfl) (Xi .pure (Xi _ (Yi (hc) (Xi .pure (Xi _ (Yi (hi) ?_))))));exact .refl _
 |some n=>
  rw[h]at hc hi;obtain⟨l1,l2⟩:=nJ h;have hl:PC 234 [vs p,vs dw] (vi (Go.Lib.lastIndex p.data.toList [47])):=Ack p dw hp;refine Ps Ej Tryz.func167 rfl (Nz rfl) (Xi .pure (Xi _ (Yi (hc) (Xi .pure (Xi _ (Yi (hi) (Yi ?_ ?_)))))))
  .intro h;exact absurd rfl h
  intro _;refine Xi .pure (Xi _ (Yi (hl) (Yi ⟨Bs _,l1,l2⟩ ?_)));exact .refl _
theorem Q0{l:List Rq}(h:BH l=0):l.length<=16:=by
 unfold BH at h;split at h
 .cases h
 .omega
theorem My{x:List Rl}(h:A0 x=0):x.length<=256/\∀r∈x,r.reqs.length<=16:=by
 have h1:x.length<=256:=by
  unfold A0 at h;split at h
  .cases h
  .omega
 exact⟨h1,fun r hr=>Q0 ((CF h).1 r hr).reqs⟩
theorem mD{x:List Rl}(h:∀r∈x,r.reqs.length<=16):((x.map (·.reqs)).flatten).length<=x.length*16:=by
 induction x with
 |nil=>simp
 |cons r x ih=>
  rw[AJ,BE,Ac,Al]
  have:=h r (Ab ..)
  have:=ih fun s hs=>h s (Ah _ hs)
  omega
theorem fe{x:List Rl}{roots:List Rq}{l:List Nf}(h1:A0 x=0)(h2:BH roots=0)(h3:l.length<=65536):(LA x roots l).length<=100000:=by
 obtain⟨a,b⟩:=My h1
 have:=mD b
 have:=Q0 h2
 unfold LA;simp only[Ac,Lm];omega
theorem WY.fewI{U:List ByteArray}{t:List Tm}(h:WY U t)(hu:U.length<=100000):t6 t:=
 ⟨by have:=h.len;omega,fun u hu=>Qm (h.1.canon u hu)⟩
abbrev Iu:AV:=.agg (Ic x ifs)
abbrev ZZ:E8:=⟨true,[.str,.int .i64,.int .i64,.int .i64]⟩
abbrev SY(y:Sl):Value:=.agg #[.string y.path,.int .i64 y.ver.a,.int .i64 y.ver.b,.int .i64 y.ver.c]
abbrev Wt(r:Rl):Value×AV:=(SY (Fa r),.agg (AC r))
def AZ:List Rl->List ByteArray->List ByteArray
 | [],acc=>acc
 |r::x,acc=>AZ x (if acc.any (fun p=>decide (p=r.path))then acc else acc++[r.path])
abbrev rt:Value×AV:=(.string p,sl AC (x.filter fun r=>decide (r.path=p)))
abbrev WV:AV:=if A0 x=0 then .tup [.agg [.cmap ZZ (x.map Wt),.cmap Cu ((AZ x []).map (rt x))],vi 0]else .tup [.agg [.cmap ZZ [],.cmap Cu []],vi (A0 x)]
abbrev li:Prop:=PC 82 [Iu x ifs] (WV x)
theorem AcD:PC 83 [.agg tV] (.agg tV):=by
 refine Ps Ej Tryz.func83 rfl (Nz rfl) (yN (Xi Unit (Xi (fun _=>⟨[(1,.ref 1 0),(2,.ref 2 0),(10,vi 0),(11,vi 0)],[(1,.cells tV),(2,.cells tV)],Ag⟩) (Xi (fun _=>0) (Yi (Xi () ?_) ?_)))))
 .exact⟨Z4,Z2,Fh,Tv⟩
 intro _;refine Yi ?_ ?_
 .intro h;exact absurd (show(0:Int)<0 from h) Cl
 .intro _;refine Yi (Nz rfl) (Yi (Nz rfl) (yN ?_));exact .refl _
theorem rl{z:Sl}(h:SY y=SY z):y=z:=by
 obtain⟨p,⟨a,b,c⟩⟩:=y;obtain⟨q,⟨d,e,f⟩⟩:=z;simp only[SY,Value.agg.injEq,Array.mk.injEq,Fi,Value.string.injEq,Value.int.injEq,true_and,and_true]at h;obtain⟨rfl,rfl,rfl,rfl⟩:=h
 rfl
theorem gJ{x:List Rl}(h:(SY y,a)∈x.map Wt):∃r∈x,Fa r=y/\a=.agg (AC r):=by
 obtain⟨r,h1,h2⟩:=Ai.1 h;simp only[Wt,Gk]at h2;exact⟨r,h1,rl h2.1,h2.2.symm⟩
theorem mB{x:List Rl}(hx:A0 x=0){r:Rl}(hr:r∈x):CV x (Fa r)=some r:=by
 unfold CV;rw[Aj ch];cases h:x.find? (fun s=>decide (Fa s=Fa r))with
 |none=>
  rw[DI]at h;exact absurd B0 (h r hr)
 |some s=>
  have h1:=Dy h;simp only[AA]at h1;have hs:=BI h;have hp:=(CF hx).2;rcases Cc.1 hr with ⟨i,hi,e1⟩;rcases Cc.1 hs with ⟨j,hj,e2⟩;rcases Nat.lt_trichotomy i j with QC|QC|QC
  .have:=(AU.1 hp) i j hi hj QC
   rw[e1,e2]at this;exact(G2 this h1.symm).elim
  .subst QC;rw[<-e1,<-e2]
  .have:=(AU.1 hp) j i hj hi QC
   rw[e1,e2]at this;exact(G2 this h1).elim
theorem yo(v:Ver)(dU:li x ifs)(hx:∀r∈x,Ey r):PC 42 [Iu x ifs,vs p,.agg (DE v)] (X1 (CV x ⟨p,v⟩)):=by
 have hz:=AcD
 by_cases h0:A0 x=0
 .have dU:PC 82 [Iu x ifs] (.tup [.agg [.cmap ZZ (x.map Wt),.cmap Cu ((AZ x []).map (rt x))],vi 0]):=by
   have:=dU;unfold li WV at this;rw[Ap h0]at this;exact this
  refine Ps (KM []) Tryz.func42 rfl (Nz rfl) (yN (Xi .pure (Xi _ (Yi (dU) (yN (yN (Yi ?_ ?_)))))))
  .intro a ha;refine CL (gJ (y:=⟨p,v⟩) ha) (fun r hr=>?_);have e:=hr.2.2;subst e;have hf:CV x ⟨p,v⟩=some r:=by rw[<-hr.2.1];exact mB h0 hr.1
   have vC:=(My h0).2 r hr.1;have hc:=c98 r ch (fun q hq=>((hx r hr.1).2 q hq).1);refine yN (yN (Xi .pure (Xi _ (Yi (hc) (Yi (Nz rfl) (yN ?_))))));exact .of_eq (show AV.tup [.agg (AC r),vb true]=X1 (CV x ⟨p,v⟩) by rw[hf])
  .intro hn;have hf:CV x ⟨p,v⟩=none:=by
    cases h:CV x ⟨p,v⟩with
    |none=>rfl
    |some r=>
     obtain⟨_,h2,h3⟩:=Ki h;exact absurd (Ai.2 ⟨r,h2,by rw[show Wt r=(SY (Fa r),AV.agg (AC r))from rfl,h3]⟩) (hn (.agg (AC r)))
   refine yN (yN (Xi .pure (Xi _ (Yi (hz) (Yi (Nz rfl) (yN ?_))))));exact .of_eq (show AV.tup [.agg tV,vb false]=X1 (CV x ⟨p,v⟩) by rw[hf])
 .have dU:PC 82 [Iu x ifs] (.tup [.agg [.cmap ZZ [],.cmap Cu []],vi (A0 x)]):=by
   have:=dU;unfold li WV at this;rw[Aj h0]at this;exact this
  have hf:CV x ⟨p,v⟩=none:=by unfold CV;rw[Ap h0]
  refine Ps (KM []) Tryz.func42 rfl (Nz rfl) (yN (Xi .pure (Xi _ (Yi (dU) (yN (yN (Yi ?_ ?_)))))))
  .intro a ha;cases ha
  .intro _;refine yN (yN (Xi .pure (Xi _ (Yi (hz) (Yi (Nz rfl) (yN ?_))))));exact .of_eq (show AV.tup [.agg tV,vb false]=X1 (CV x ⟨p,v⟩) by rw[hf])
abbrev EW:Bz:=(l.filter fun r=>!r.yanked).map fun r=>(plc r.ver,plc r.ver+1)
theorem fE:(EW l).length<=l.length:=by
 unfold EW;rw[Lm];exact Bx _ _
theorem gI{x:List Rl}{ps:List ByteArray}{p:ByteArray}(h:(Value.string p,a)∈ps.map (rt x)):a=sl AC (x.filter fun r=>decide (r.path=p)):=by
 obtain⟨q,_,h2⟩:=Ai.1 h;simp only[rt,Gk,Value.string.injEq]at h2;rw[<-h2.2,h2.1]
theorem PR{acc:List ByteArray}{p:ByteArray}:(acc.any fun q=>decide (q=p))=true↔p∈acc:=by
 rw[Ba];constructor
 .rintro⟨q,h1,h2⟩;rw[<-AP h2];exact h1
 .intro h;exact⟨p,h,by simp⟩
theorem G6:∀(x:List Rl) (acc:List ByteArray) (p:ByteArray),p∈AZ x acc↔p∈acc\/∃r∈x,r.path=p
 | [],acc,p=>by simp[AZ]
 |r::x,acc,p=>by
  rw[AZ,G6 x];constructor
  .rintro(h|⟨s,h1,h2⟩)
   .split at h
    .exact .inl h
    .rcases AN.1 h with h|h
     .exact .inl h
     .exact .inr ⟨r,Ab ..,(Ar.1 h).symm⟩
   .exact .inr ⟨s,Ah _ h1,h2⟩
  .rintro(h|⟨s,h1,h2⟩)
   .left
    split
    .exact h
    .exact By _ h
   .rcases Ay.1 h1 with rfl|h1
    .left
     split
     .rename_i hh;rw[<-h2];exact PR.1 hh
     .rw[<-h2];exact Bo _ (Ar.2 rfl)
    .exact .inr ⟨s,h1,h2⟩
abbrev tE:Tt:=(pT [] [(7,2)] [])
theorem Xq(L:List Rl)(i:Nat)(h:i<L.length):EW (L.take (i+1))=EW (L.take i)++(if L[i].yanked then []else [(plc L[i].ver,plc L[i].ver+1)]):=by
 unfold EW;rw[Bh,Ge h,EL,At]
 congr 1
 cases hy:L[i].yanked<;>simp[hy]
theorem Acn(dU:li x ifs):PC 185 [Iu x ifs,vs p] (sl AE (Co x p)):=by
 by_cases h0:A0 x=0
 .have dU:PC 82 [Iu x ifs] (.tup [.agg [.cmap ZZ (x.map Wt),.cmap Cu ((AZ x []).map (rt x))],vi 0]):=by
   have:=dU;unfold li WV at this;rw[Ap h0]at this;exact this
  have tw:=(My h0).1;obtain⟨L,dV⟩:∃L,L=x.filter fun r=>decide (r.path=p):=⟨_,rfl⟩;have hL:Ly x p=L:=by unfold Ly;rw[Aj ch,dV]
  have hLl:L.length<=256:=by have:=Bx (fun r:Rl=>decide (r.path=p)) x;rw[dV];omega
  refine Ps tE Tryz.func185 rfl (Nz rfl) (yN (Xi .pure (Xi _ (Yi (dU) (yN (Yi ?_ ?_))))))
  .intro a ha;have ea:a=sl AC L:=by rw[dV];exact gI ha
   subst ea;refine Xi {i:Nat // i<=L.length} (Xi (fun i=>⟨[(7,.slice (.id 7 2) ((EW (L.take i.1)).map AE)),(18,sl AC L),(19,vi (L.map AC).length),(20,vi i.1)],[(7,.tok 2 ((EW (L.take i.1)).map AE).length)],Ag⟩) (Xi (fun i=>L.length-i.1) (Yi (Xi ⟨0,AB _⟩ ?_) ?_)))
   .exact⟨Z4,Z1,Fh,Tv⟩
   intro⟨i,i1⟩;have OF:=fE (L.take i);rw[Ax]at OF;refine Yi ?_ ?_
   .intro h;have h:i<L.length:=by simpa using h
    have hg:L[i]?=some L[i]:=Ge h;refine Xi (AC L[i]) (Yi (Yi (Nn i) (by simp[hg])) (Yi rfl ?_));refine Yi (Nz rfl) (yN (Yi ?_ ?_))
    .intro hy;refine Yi (Ii i ch) ?_;have es:EW (L.take (i+1))=EW (L.take i):=by rw[Xq L i h,hy];simp
     have e1:AV.slice (.id 7 2) ((EW (L.take i)).map AE)=.slice (.id 7 2) ((EW (L.take (i+1))).map AE):=by rw[es]
     have e2:HO.tok 2 ((EW (L.take i)).map AE).length=.tok 2 ((EW (L.take (i+1))).map AE).length:=by rw[es]
     refine Xi ⟨i+1,by omega⟩ ?_;exact⟨Dl L.length i ch,⟨⟨e1,rfl⟩,Zr,Zr,Zr,Tv⟩,⟨⟨e2,rfl⟩,Tv⟩,Fh,Tv⟩
    .intro hy;have ra:=rW L[i].ver;refine yN (Xi _ (Yi (c88 L[i]) (yN (Xi _ (Yi (c88 L[i]) (Yi (by show Bc (plc L[i].ver+1);unfold Bc;omega) ?_))))));have HG:Cr 2 [[vi (plc L[i].ver),vi (plc L[i].ver+1)]]/\((EW (L.take i)).map AE).length=((EW (L.take i)).map AE).length/\(((EW (L.take i)).map AE).length+[[vi (plc L[i].ver),vi (plc L[i].ver+1)]].length)*16<=140737488355328/\((EW (L.take i)).map AE).length+[[vi (plc L[i].ver),vi (plc L[i].ver+1)]].length<=9223372036854775807:=
      ⟨⟨rfl,trivial⟩,rfl,by rw[Lm,Be];omega,by rw[Lm,Be];omega⟩
     refine Yi HG (Yi Wk (Yi (Ii i ch) ?_));have es:EW (L.take (i+1))=EW (L.take i)++[(plc L[i].ver,plc L[i].ver+1)]:=by rw[Xq L i h,hy];simp
     have e1:AV.slice (.id 7 2) ((EW (L.take i)).map AE++[[vi (plc L[i].ver),vi (plc L[i].ver+1)]])=.slice (.id 7 2) ((EW (L.take (i+1))).map AE):=by rw[es,At];rfl
     have e2:HO.tok 2 (((EW (L.take i)).map AE).length+[[vi (plc L[i].ver),vi (plc L[i].ver+1)]].length)=.tok 2 ((EW (L.take (i+1))).map AE).length:=by rw[es,At,Ac];rfl
     refine Xi ⟨i+1,by omega⟩ ?_;exact⟨Dl L.length i ch,⟨⟨e1,rfl⟩,Zr,Zr,Zr,Tv⟩,⟨⟨e2,rfl⟩,Tv⟩,Fh,Tv⟩
   .intro h;have h:¬i<L.length:=by simpa using h
    have et:L.take i=L:=Av ch;have hc:PC 169 [sl AE (EW (L.take i))] (sl AE (canon (EW (L.take i)))):=YL _ (by unfold B8;omega);refine Xi .pure (Xi _ (Yi (hc) ?_));exact .of_eq (show sl AE (canon (EW (L.take i)))=sl AE (Co x p) by rw[et];unfold Co;rw[hL])
  .intro hn;have hL:Ly x p=[]:=by
    rw[hL,dV,Ir];intro r hr he;have he:=AP he;exact hn _ (Ai.2 ⟨p,(G6 x [] p).2 (.inr ⟨r,hr,he⟩),rfl⟩)
   refine Xi Unit (Xi (fun _=>⟨[(7,.slice (.id 7 2) []),(19,vi 0),(20,vi 0)],[(7,.tok 2 0)],Ag⟩) (Xi (fun _=>0) (Yi (Xi () ?_) ?_)))
   .exact⟨Z3,Z1,Fh,Tv⟩
   intro _;refine Yi ?_ ?_
   .intro h;exact absurd (show(0:Int)<0 from h) Cl
   intro _;have hc:PC 169 [sl AE []] (sl AE (canon [])):=YL [] (by unfold B8;simp);refine Xi .pure (Xi _ (Yi (hc) ?_));exact .of_eq (show sl AE (canon [])=sl AE (Co x p) by unfold Co;rw[hL];rfl)
 .have dU:PC 82 [Iu x ifs] (.tup [.agg [.cmap ZZ [],.cmap Cu []],vi (A0 x)]):=by
   have:=dU;unfold li WV at this;rw[Aj h0]at this;exact this
  have hL:Ly x p=[]:=by unfold Ly;rw[Ap h0]
  refine Ps tE Tryz.func185 rfl (Nz rfl) (yN (Xi .pure (Xi _ (Yi (dU) (yN (Yi ?_ ?_))))))
  .intro a ha;cases ha
  .intro _;refine Xi Unit (Xi (fun _=>⟨[(7,.slice (.id 7 2) []),(19,vi 0),(20,vi 0)],[(7,.tok 2 0)],Ag⟩) (Xi (fun _=>0) (Yi (Xi () ?_) ?_)))
   .exact⟨Z3,Z1,Fh,Tv⟩
   intro _;refine Yi ?_ ?_
   .intro h;exact absurd (show(0:Int)<0 from h) Cl
   intro _;have hc:PC 169 [sl AE []] (sl AE (canon [])):=YL [] (by unfold B8;simp);refine Xi .pure (Xi _ (Yi (hc) ?_));exact .of_eq (show sl AE (canon [])=sl AE (Co x p) by unfold Co;rw[hL];rfl)
theorem Uq:B8 (Co x p):=by
 unfold Co B8
 have:=I4 (CE (((Ly x p).filter fun r=>!r.yanked).map fun r=>(plc r.ver,plc r.ver+1)));omega
end Go.Eng
