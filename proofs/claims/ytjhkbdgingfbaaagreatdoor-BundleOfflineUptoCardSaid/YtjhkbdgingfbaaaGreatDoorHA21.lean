/- Lemmas 21. -/
import Derived.Test.YtjhkbdgingfbaaaGreatDoorHA20
import Derived.Shelf.Strings.SplitShaped
import Derived.Shelf.Strings.LastIndexAll
import Derived.Shelf.Strings.Search3
import Derived.Shelf.Small.Wraps
import Derived.Ground.NamesProg
import Derived.Lib.LastIndexLaws
namespace Go.Eng
open Go.Proofs
variable (a c:UInt8)(s:ByteArray)(n:Nat)
abbrev vc:AV:=.v (.int .u8 c.toNat)
theorem Xn(h:n<256):decide (UInt8.ofNat n<=a)=decide ((n:Int)<=(a.toNat:Int)):=by
 rw[BV,Au,Au,Gw,show(UInt8.ofNat n).toNat=n by simp;omega];omega
theorem Xm(h:n<256):decide (a<=UInt8.ofNat n)=decide ((a.toNat:Int)<=(n:Int)):=by
 rw[BV,Au,Au,Gw,show(UInt8.ofNat n).toNat=n by simp;omega];omega
theorem s7:PC 203 [vc c] (vb (EL c)):=by
 refine Ps DU Tryz.func203 rfl (Nz rfl) ?_;have e1:decide ((97:UInt8)<=c)=decide ((97:Int)<=(c.toNat:Int)):=Xn c 97 Cl;have e2:decide (c<=(122:UInt8))=decide ((c.toNat:Int)<=(122:Int)):=Xm c 122 Cl;have es:EL c=(decide ((97:Int)<=(c.toNat:Int))&&decide ((c.toNat:Int)<=(122:Int))):=by unfold EL;rw[e1,e2]
 refine Yi ?_ ?_
 .intro h;refine Yi ?_ ?_
  .intro h2;exact .of_eq (Aa vb (show true=EL c by rw[es,Ap h,Ap h2];rfl))
  .intro h2;exact .of_eq (Aa vb (show false=EL c by rw[es,Am h2,Di]))
 .intro h;exact .of_eq (Aa vb (show false=EL c by rw[es,Am h];rfl))
theorem s8:PC 204 [vc c] (vb (CC c)):=by
 refine Ps DU Tryz.func204 rfl (Nz rfl) ?_;have e1:decide ((48:UInt8)<=c)=decide ((48:Int)<=(c.toNat:Int)):=Xn c 48 Cl;have e2:decide (c<=(57:UInt8))=decide ((c.toNat:Int)<=(57:Int)):=Xm c 57 Cl;have es:CC c=(decide ((48:Int)<=(c.toNat:Int))&&decide ((c.toNat:Int)<=(57:Int))):=by unfold CC;rw[e1,e2]
 refine Yi ?_ ?_
 .intro h;refine Yi ?_ ?_
  .intro h2;exact .of_eq (Aa vb (show true=CC c by rw[es,Ap h,Ap h2];rfl))
  .intro h2;exact .of_eq (Aa vb (show false=CC c by rw[es,Am h2,Di]))
 .intro h;exact .of_eq (Aa vb (show false=CC c by rw[es,Am h];rfl))
theorem AaR:PC 290 [vc c] (vb (MP c)):=by
 refine Ps DU Tryz.func290 rfl (Nz rfl) ?_;have e1:decide ((65:UInt8)<=c)=decide ((65:Int)<=(c.toNat:Int)):=Xn c 65 Cl;have e2:decide (c<=(90:UInt8))=decide ((c.toNat:Int)<=(90:Int)):=Xm c 90 Cl;have es:MP c=(decide ((65:Int)<=(c.toNat:Int))&&decide ((c.toNat:Int)<=(90:Int))):=by unfold MP;rw[e1,e2]
 refine Yi ?_ ?_
 .intro h;refine Yi ?_ ?_
  .intro h2;exact .of_eq (Aa vb (show true=MP c by rw[es,Ap h,Ap h2];rfl))
  .intro h2;exact .of_eq (Aa vb (show false=MP c by rw[es,Am h2,Di]))
 .intro h;exact .of_eq (Aa vb (show false=MP c by rw[es,Am h];rfl))
abbrev NW:Bool:=EL c||CC c
theorem AaG:PC 202 [vc c] (vb (NW c)):=by
 have h1:=s7 c;have h2:=s8 c;rcases Bt (EL c)with e | e
 .rw[e]at h1;refine Ps DU Tryz.func202 rfl (Nz rfl) (Xi .pure (Xi _ (Yi (h1) ?_)));exact .of_eq (Aa vb (show true=NW c by unfold NW;rw[e];rfl))
 .rw[e]at h1;refine Ps DU Tryz.func202 rfl (Nz rfl) (Xi .pure (Xi _ (Yi (h1) (Xi .pure (Xi _ (Yi (h2) ?_))))));exact .of_eq (Aa vb (show CC c=NW c by unfold NW;rw[e];rfl))
theorem AaM:PC 253 [vc c] (vb (F5 c)):=by
 have h1:=s7 c;have h2:=AaR c;have h3:=s8 c;have ew:F5 c=(EL c||MP c||CC c||decide (c=95)):=rfl;rcases Bt (EL c)with e | e
 .rw[e]at h1;refine Ps DU Tryz.func253 rfl (Nz rfl) (Xi .pure (Xi _ (Yi (h1) ?_)));exact .of_eq (Aa vb (show true=F5 c by rw[ew,e];rfl))
 rw[e]at h1;rcases Bt (MP c)with e2 | e2
 .rw[e2]at h2;refine Ps DU Tryz.func253 rfl (Nz rfl) (Xi .pure (Xi _ (Yi (h1) (Xi .pure (Xi _ (Yi (h2) ?_))))));exact .of_eq (Aa vb (show true=F5 c by rw[ew,e,e2];rfl))
 rw[e2]at h2;rcases Bt (CC c)with e3 | e3
 .rw[e3]at h3;refine Ps DU Tryz.func253 rfl (Nz rfl) (Xi .pure (Xi _ (Yi (h1) (Xi .pure (Xi _ (Yi (h2) (Xi .pure (Xi _ (Yi (h3) ?_)))))))));exact .of_eq (Aa vb (show true=F5 c by rw[ew,e,e2,e3];rfl))
 rw[e3]at h3;refine Ps DU Tryz.func253 rfl (Nz rfl) (Xi .pure (Xi _ (Yi (h1) (Xi .pure (Xi _ (Yi (h2) (Xi .pure (Xi _ (Yi (h3) ?_)))))))));have eb:decide (c=95)=decide ((c.toNat:Int)=95):=by
  rw[BV,Au,Au];constructor
  .intro h;subst h;rfl
  .intro h;exact GG.1 (by show c.toNat=95;omega)
 refine Yi ?_ ?_
 .intro h;exact .of_eq (Aa vb (show true=F5 c by rw[ew,e,e2,e3,eb,Ap h];rfl))
 .intro h;exact .of_eq (Aa vb (show false=F5 c by rw[ew,e,e2,e3,eb,Am h];rfl))
theorem Nu(i:Nat)(h:i<s.data.toList.length):s.data[i]?=some s.data.toList[i]:=by
 rw[<-AI];exact Ge h
theorem s5(f:Nat)(q:UInt8->Bool)(hf:∀c,PC f [vc c] (vb (q c)))(hs:s.data.toList.length<4611686018427387904):PC 201 [vs s,.v (YY f)] (vb (s.data.toList.all q)):=by
 have D5:s.size=s.data.toList.length:=by simp
 refine Ps DU Tryz.func201 rfl (Nz rfl) (Xi {i:Nat // i<=s.data.toList.length/\∀j (hj:j<s.data.toList.length),j<i->q s.data.toList[j]=true} (Xi (fun i=>⟨[(0,vs s),(1,.v (YY f)),(7,vi s.size),(8,vi i.1)],[],Ad⟩) (Xi (fun i=>s.data.toList.length-i.1) (Yi (Xi ⟨0,AE _,fun j _ h=>by omega⟩ ?_) ?_))))
 .exact⟨Z4,Tv,Fh,Tv⟩
 intro⟨i,h1,h2⟩;refine Yi ?_ ?_
 .intro h;have h:(i:Int)<(s.size:Nat):=h;have h:i<s.data.toList.length:=by omega
  refine Xi s.data.toList[i] (Yi ⟨by show(0:Int)<=i;omega,by show s.data[((i:Nat):Int).toNat]?=_;rw[BE];exact Nu s i h⟩ ?_);have hc:=hf s.data.toList[i];refine BL (Bt (q s.data.toList[i])) (fun e=>?_) (fun e=>?_)
  .rw[e]at hc;refine Xi .pure (Xi _ (Yi (hc) (Yi (Ii i ch) (Xi ⟨i+1,by omega,fun j hj Iu=>?_⟩ ?_))))
   .rcases BT j i with z | z
    .exact h2 j hj z
    .have:j=i:=by omega
     subst this;exact e
   .exact⟨Dl s.data.toList.length i ch,Z4,Tv,Fh,Tv⟩
  .rw[e]at hc;refine Xi .pure (Xi _ (Yi (hc) ?_));have er:s.data.toList.all q=false:=by
    rw[AH];intro ha
    have:=AP.1 ha _ (Aq h)
    rw[e]at this;cases this
   exact .of_eq (Aa vb er.symm)
 .intro h;have h:¬(i:Int)<(s.size:Nat):=h;have er:s.data.toList.all q=true:=AP.2 fun c hc=>by
   obtain⟨j,hj,rfl⟩:=CE hc;exact h2 j hj ch
  exact .of_eq (Aa vb er.symm)
end Go.Eng
namespace Go.Proofs
open Go.Shelf
def Tryz.laySplit_ren:Go.Shelf.Ren:=⟨fun | 146=>104 | 221=>163 | 268=>216 | 138=>217 | 143=>218 | 195=>265 | 197=>266 | 218=>267 | 219=>162 | 260=>299 | 217=>212 | 225=>213 | 224=>214 | 267=>215 | 266=>263 | 314=>264 | n=>n,fun | 9=>9 | 31=>27 | 3=>3 | 4=>4 | 0=>0 | 105=>321 | 21=>21 | 5=>5 | 46=>127 | 119=>367 | 139=>370 | 138=>369 | 146=>285 | 51=>155 | n=>n,fun | 1=>0 | 3=>4 | 4=>5 | n=>n⟩
theorem Tryz.laySplit:Go.Proofs.Lays.n146 Tryz.prog Tryz.laySplit_ren:={
 mixed:=by kernel_rfl
 f138:=Tryz.func217.trans (congrArg some Go.Eng.aa0)
 f143:=Tryz.func218.trans (congrArg some Go.Eng.aa0)
 f146:=Tryz.func104.trans (congrArg some Go.Eng.aa0)
 f195:=Tryz.func265.trans (congrArg some Go.Eng.aa0)
 f197:=Tryz.func266.trans (congrArg some Go.Eng.aa0)
 f217:=Tryz.func212.trans (congrArg some Go.Eng.aa0)
 f218:=Tryz.func267.trans (congrArg some Go.Eng.aa0)
 f219:=Tryz.func162.trans (congrArg some Go.Eng.aa0)
 f221:=Tryz.func163.trans (congrArg some Go.Eng.aa0)
 f224:=Tryz.func214.trans (congrArg some Go.Eng.aa0)
 f225:=Tryz.func213.trans (congrArg some Go.Eng.aa0)
 f260:=Tryz.func299.trans (congrArg some Go.Eng.aa0)
 f266:=Tryz.func263.trans (congrArg some Go.Eng.aa0)
 f267:=Tryz.func215.trans (congrArg some Go.Eng.aa0)
 f268:=Tryz.func216.trans (congrArg some Go.Eng.aa0)
 f314:=Tryz.func264.trans (congrArg some Go.Eng.aa0)
 t0:=Tryz.underlying0
 a0:=Tryz.isAgg0
 z0:=Tryz.sizeOf0
 v0:=Tryz.zeroValue0
 t3:=Tryz.underlying3
 a3:=Tryz.isAgg3
 z3:=Tryz.sizeOf3
 v3:=Tryz.zeroValue3
 t4:=Tryz.underlying4
 a4:=Tryz.isAgg4
 z4:=Tryz.sizeOf4
 v4:=Tryz.zeroValue4
 t5:=Tryz.underlying5
 a5:=Tryz.isAgg5
 z5:=Tryz.sizeOf5
 v5:=Tryz.zeroValue5
 t9:=Tryz.underlying9
 a9:=Tryz.isAgg9
 z9:=Tryz.sizeOf9
 v9:=Tryz.zeroValue9
 t21:=Tryz.underlying21
 a21:=Tryz.isAgg21
 z21:=Tryz.sizeOf21
 v21:=Tryz.zeroValue21
 t31:=Tryz.underlying27
 a31:=Tryz.isAgg27
 z31:=Tryz.sizeOf27
 v31:=Tryz.zeroValue27
 t46:=Tryz.underlying127
 a46:=Tryz.isAgg127
 z46:=Tryz.sizeOf127
 v46:=Tryz.zeroValue127
 t51:=Tryz.underlying155
 a51:=Tryz.isAgg155
 z51:=Tryz.sizeOf155
 v51:=Tryz.zeroValue155
 t105:=Tryz.underlying321
 a105:=Tryz.isAgg321
 z105:=Tryz.sizeOf321
 v105:=Tryz.zeroValue321
 t119:=Tryz.underlying367
 a119:=Tryz.isAgg367
 z119:=Tryz.sizeOf367
 t138:=Tryz.underlying369
 a138:=Tryz.isAgg369
 z138:=Tryz.sizeOf369
 v138:=Tryz.zeroValue369
 t139:=Tryz.underlying370
 a139:=Tryz.isAgg370
 z139:=Tryz.sizeOf370
 v139:=Tryz.zeroValue370
 t146:=Tryz.underlying285
 a146:=Tryz.isAgg285
 z146:=Tryz.sizeOf285
 v146:=Tryz.zeroValue285
 g1:=by kernel_rfl
 g3:=by kernel_rfl
 g4:=by kernel_rfl }
def Tryz.layLast_ren:Go.Shelf.Ren:=⟨fun | 148=>154 | 222=>205 | 223=>206 | 269=>255 | n=>n,fun | 9=>9 | 3=>3 | 4=>4 | 5=>5 | 146=>285 | 51=>155 | 46=>127 | n=>n,fun | n=>n⟩
theorem Tryz.layLast:Go.Proofs.Lays.n148 Tryz.prog Tryz.layLast_ren:={
 mixed:=by kernel_rfl
 f148:=Tryz.func154.trans (congrArg some Go.Eng.aa0)
 f222:=Tryz.func205.trans (congrArg some Go.Eng.aa0)
 f223:=Tryz.func206.trans (congrArg some Go.Eng.aa0)
 f269:=Tryz.func255.trans (congrArg some Go.Eng.aa0)
 t3:=Tryz.underlying3
 a3:=Tryz.isAgg3
 z3:=Tryz.sizeOf3
 v3:=Tryz.zeroValue3
 t4:=Tryz.underlying4
 a4:=Tryz.isAgg4
 z4:=Tryz.sizeOf4
 v4:=Tryz.zeroValue4
 t5:=Tryz.underlying5
 a5:=Tryz.isAgg5
 z5:=Tryz.sizeOf5
 v5:=Tryz.zeroValue5
 t9:=Tryz.underlying9
 a9:=Tryz.isAgg9
 z9:=Tryz.sizeOf9
 v9:=Tryz.zeroValue9
 t46:=Tryz.underlying127
 a46:=Tryz.isAgg127
 z46:=Tryz.sizeOf127
 v46:=Tryz.zeroValue127
 t51:=Tryz.underlying155
 a51:=Tryz.isAgg155
 z51:=Tryz.sizeOf155
 v51:=Tryz.zeroValue155
 t146:=Tryz.underlying285
 a146:=Tryz.isAgg285
 z146:=Tryz.sizeOf285
 v146:=Tryz.zeroValue285 }
def Tryz.layCut_ren:Go.Shelf.Ren:=⟨fun | 103=>252 | 210=>289 | 206=>225 | n=>n,fun | 9=>9 | 4=>4 | 24=>90 | 3=>3 | n=>n,fun | n=>n⟩
theorem Tryz.layCut:Go.Proofs.Lays.n103 Tryz.prog Tryz.layCut_ren:={
 mixed:=by kernel_rfl
 f103:=Tryz.func252.trans (congrArg some Go.Eng.aa0)
 f206:=Tryz.func225.trans (congrArg some Go.Eng.aa0)
 f210:=Tryz.func289.trans (congrArg some Go.Eng.aa0)
 t3:=Tryz.underlying3
 a3:=Tryz.isAgg3
 z3:=Tryz.sizeOf3
 v3:=Tryz.zeroValue3
 t4:=Tryz.underlying4
 a4:=Tryz.isAgg4
 z4:=Tryz.sizeOf4
 v4:=Tryz.zeroValue4
 t9:=Tryz.underlying9
 a9:=Tryz.isAgg9
 z9:=Tryz.sizeOf9
 v9:=Tryz.zeroValue9
 t24:=Tryz.underlying90
 a24:=Tryz.isAgg90
 z24:=Tryz.sizeOf90
 v24:=Tryz.zeroValue90 }
def Tryz.layCont_ren:Go.Shelf.Ren:=⟨fun | 144=>291 | 143=>218 | 219=>162 | 217=>212 | 225=>213 | 224=>214 | 267=>215 | 266=>263 | 314=>264 | n=>n,fun | 9=>9 | 4=>4 | 3=>3 | 5=>5 | 46=>127 | 146=>285 | 51=>155 | n=>n,fun | 1=>0 | n=>n⟩
theorem Tryz.layCont:Go.Proofs.Lays.n144 Tryz.prog Tryz.layCont_ren:={
 mixed:=by kernel_rfl
 f143:=Tryz.func218.trans (congrArg some Go.Eng.aa0)
 f144:=Tryz.func291.trans (congrArg some Go.Eng.aa0)
 f217:=Tryz.func212.trans (congrArg some Go.Eng.aa0)
 f219:=Tryz.func162.trans (congrArg some Go.Eng.aa0)
 f224:=Tryz.func214.trans (congrArg some Go.Eng.aa0)
 f225:=Tryz.func213.trans (congrArg some Go.Eng.aa0)
 f266:=Tryz.func263.trans (congrArg some Go.Eng.aa0)
 f267:=Tryz.func215.trans (congrArg some Go.Eng.aa0)
 f314:=Tryz.func264.trans (congrArg some Go.Eng.aa0)
 t3:=Tryz.underlying3
 a3:=Tryz.isAgg3
 z3:=Tryz.sizeOf3
 v3:=Tryz.zeroValue3
 t4:=Tryz.underlying4
 a4:=Tryz.isAgg4
 z4:=Tryz.sizeOf4
 v4:=Tryz.zeroValue4
 t5:=Tryz.underlying5
 a5:=Tryz.isAgg5
 z5:=Tryz.sizeOf5
 v5:=Tryz.zeroValue5
 t9:=Tryz.underlying9
 a9:=Tryz.isAgg9
 z9:=Tryz.sizeOf9
 v9:=Tryz.zeroValue9
 t46:=Tryz.underlying127
 a46:=Tryz.isAgg127
 z46:=Tryz.sizeOf127
 v46:=Tryz.zeroValue127
 t51:=Tryz.underlying155
 a51:=Tryz.isAgg155
 z51:=Tryz.sizeOf155
 v51:=Tryz.zeroValue155
 t146:=Tryz.underlying285
 a146:=Tryz.isAgg285
 z146:=Tryz.sizeOf285
 v146:=Tryz.zeroValue285
 g1:=by kernel_rfl }
end Go.Proofs
namespace Go.Eng
open Go.Proofs
variable {y:Sl}{a:AV}(x:List Rl)(s:ByteArray)(l:List Rl)(ifs:List (List AV))(p:ByteArray)
abbrev bY:ByteArray:=⟨#[47]⟩
abbrev BX:List ByteArray:=Go.Lib.splitB bY 0 (Go.Lib.countB s bY) s
theorem PY:(BX s).map (·.data.toList)=B2 47 s.data.toList:=Xf s 47
abbrev Gj:List AV:=[vs s]
theorem c212(hs:Er s):PC 104 [vs s,vs bY] (sl Gj (BX s)):=by
 unfold Er at hs;have h:=WU (P:=Tryz.prog) (f:=104) (args:=[vs s,vs bY]) [.string s,.string bY] ((BX s).map Value.string) 9 (VI 104 Tryz.func104 aa0 rfl) rfl (fun x hx=>by
  obtain⟨y,_,rfl⟩:=Ak.1 hx;rfl) (fun w hm=>by
  obtain⟨m,hm⟩:=hm;have hl:(BX s).length=Go.Lib.countB s bY+1:=Go.Lib.splitB_all bY Cl 0 _ s rfl;refine(Any.strings_Split Tryz.laySplit aa0 s bY m w ch hm Cl).mono ?_
  rintro e w' ⟨rfl,rfl⟩
  exact⟨by rw[Lm,hl],rfl⟩)
 rw[Bw]at h;exact h
theorem Aaz(hs:Er s):PC 154 [vs s,vs p] (vi (Go.Lib.lastIndex s.data.toList p.data.toList)):=by
 unfold Er at hs;exact J7 [.string s,.string p] (.int .i64 (Go.Lib.lastIndex s.data.toList p.data.toList)) (VI 154 Tryz.func154 aa0 rfl) rfl (fun g w=>.v _ _) fun w _=>Any.strings_LastIndex Tryz.layLast s p ch w
theorem AaL:PC 252 [vs s,vs p] (.tup [vs ⟨(Go.Lib.trimPrefix s.data.toList p.data.toList).toArray⟩,vb (Go.Lib.hasPrefix s.data.toList p.data.toList)]):=by
 exact J7 [.string s,.string p] _ (VI 252 Tryz.func252 aa0 rfl) rfl (fun g w=>U5 [.string ⟨(Go.Lib.trimPrefix s.data.toList p.data.toList).toArray⟩,.bool (Go.Lib.hasPrefix s.data.toList p.data.toList)]) fun w _=>Any.strings_CutPrefix Tryz.layCut s p w
theorem AaS(hs:Er s):PC 291 [vs s,vs p] (vb (Go.Lib.contains s.data.toList p.data.toList)):=by
 unfold Er at hs;exact J7 [.string s,.string p] (.bool (Go.Lib.contains s.data.toList p.data.toList)) (VI 291 Tryz.func291 aa0 rfl) rfl (fun g w=>.v _ _) fun w hm=>by
  obtain⟨m,hm⟩:=hm;exact Any.strings_Contains Tryz.layCont s p m w ch hm
theorem fC:∀x y:List UInt8,NU x y=x.isPrefixOf y
 | [],_=>by simp[NU]
 |_::_,[]=>rfl
 |a::x,b::y=>by
  rw[NU,List.isPrefixOf_cons_cons,fC x y]
  rfl
theorem mE(x:List UInt8):∀y:List UInt8,mD x y=Go.Lib.contains y x
 | []=>by
  unfold Go.Lib.contains Go.Lib.index;cases x<;>rfl
 |b::y=>by
  rw[mD,fC,mE x y];unfold Go.Lib.contains;have hg:=Go.Lib.index_ge y x
  conv=>rhs;unfold Go.Lib.index
  cases h:x.isPrefixOf (b::y)with
  |true=>simp
  |false=>
   simp only[JP,CM,FZ]
   by_cases h0:Go.Lib.index y x=-1
   .rw[h0];rfl
   .have h1:(Go.Lib.index y x == -1)=false:=by simpa using h0
    rw[h1];simp only[CM,FZ];rw[Ap ch,Ap ch]
theorem OB:∀(l:List UInt8) (h:0<l.length),l.headD 0=l[0]
 | [],h=>by simp at h
 |_::_,_=>rfl
abbrev r5:ByteArray:=⟨⟨cX⟩⟩
theorem AaN(hs:Er s):PC 254 [vs s] (vb (VS s.data.toList)):=by
 unfold Er at hs;have hc:=AaS r5 ((⟨#[32]⟩++s)++⟨#[32]⟩) (Gv aa0);have e:Go.Lib.contains r5.data.toList ((⟨#[32]⟩++s:ByteArray)++⟨#[32]⟩).data.toList=VS s.data.toList:=by
  unfold VS;rw[mE]
  congr 1
 rw[e]at hc;refine Ps DU Tryz.func254 rfl (Nz rfl) (Yi (by show(((1+s.size:Nat)):Int)<=_;omega) ?_);refine Yi (by show(((⟨#[32]⟩++s:ByteArray).size+1:Nat):Int)<=_;rw[BM];show(((1+s.size)+1:Nat):Int)<=_;omega) ?_;refine Xi .pure (Xi _ (Yi (hc) ?_));exact .refl _
theorem AaF(hs:Er s):PC 200 [vs s] (vb (GC s.data.toList)):=by
 have hk:=AaN s hs;have hw:=s5 s 253 F5 AaM (by unfold Er at hs;simp;omega);have D5:s.size=s.data.toList.length:=by simp
 have en:GC s.data.toList=(!s.data.toList.isEmpty&&decide (s.data.toList.length<=32)&&EL (s.data.toList.headD 0)&&s.data.toList.all F5&&!VS s.data.toList):=rfl
 by_cases h0:s=⟨#[]⟩
 .subst h0;refine Ps DU Tryz.func200 rfl (Nz rfl) (Yi ?_ ?_)
  .intro h;exact absurd rfl (show(⟨#[]⟩:ByteArray)≠⟨#[]⟩from h)
  .intro _;exact .refl _
 have h0' : s.data.toList≠[]:=fun e=>h0 (by
  have:s.data=#[]:=by rw[<-Jb];exact e
  cases s;simp_all)
 have Ca:0<s.data.toList.length:=Hb.2 h0';have QL:s.data.toList.isEmpty=false:=by
  cases hl:s.data.toList with
  |nil=>exact absurd hl h0'
  |cons a l=>rfl
 have hhd:s.data.toList.headD 0=s.data.toList[0]:=OB _ Ca;have ko:=s7 s.data.toList[0];refine Ps DU Tryz.func200 rfl (Nz rfl) (Yi ?_ ?_)
 rotate_left
 .intro h;exact absurd h0 h
 intro _;refine Yi ?_ ?_
 rotate_left
 .intro h;exact .of_eq (Aa vb (show false=GC s.data.toList by rw[en,Am (by omega:¬s.data.toList.length<=32)];simp))
 intro h;refine Xi s.data.toList[0] (Yi ⟨By _,Nu s 0 Ca⟩ (BL (Bt (EL s.data.toList[0])) (fun e1=>?_) (fun e1=>?_)))
 rotate_left
 .rw[e1]at ko;refine Xi .pure (Xi _ (Yi (ko) ?_));exact .of_eq (Aa vb (show false=GC s.data.toList by rw[en,hhd,e1];simp))
 rw[e1]at ko;refine Xi .pure (Xi _ (Yi (ko) (BL (Bt (s.data.toList.all F5)) (fun e2=>?_) (fun e2=>?_))))
 rotate_left
 .rw[e2]at hw;refine Xi .pure (Xi _ (Yi (hw) ?_));exact .of_eq (Aa vb (show false=GC s.data.toList by rw[en,e2];simp))
 rw[e2]at hw;refine Xi .pure (Xi _ (Yi (hw) ?_));have ef:GC s.data.toList=!VS s.data.toList:=by rw[en,QL,hhd,e1,e2,Ap (by omega:s.data.toList.length<=32)];rfl
 refine BL (Bt (VS s.data.toList)) (fun e3=>?_) (fun e3=>?_)
 .rw[e3]at hk;refine Xi .pure (Xi _ (Yi (hk) ?_));exact .of_eq (Aa vb (show false=GC s.data.toList by rw[ef,e3];rfl))
 .rw[e3]at hk;refine Xi .pure (Xi _ (Yi (hk) ?_));exact .of_eq (Aa vb (show true=GC s.data.toList by rw[ef,e3];rfl))
abbrev YV:Option Int->AV
 |some n=>.tup [vi n,vb true]
 |none=>.tup [vi 0,vb false]
theorem Tl{z:Int}(h0:0<=z)(h1:z<256):IntKind.u8.wrap z=z:=by
 show z % 256=z;omega
theorem Lp{c:UInt8}(h:CC c=true):48<=c.toNat/\c.toNat<=57:=by
 unfold CC at h;simp only[Af,Au]at h;exact⟨Gw.1 h.1,Gw.1 h.2⟩
theorem LD(r:List UInt8)(i:Nat)(h:i<r.length):Ea (r.take (i+1))=10*Ea (r.take i)+((r[i].toNat:Int)-48):=by
 unfold Ea;rw[AZ,Ge h,Ir];rfl
theorem c213(hs:Er s):PC 199 [vs s] (YV (GU s.data.toList)):=by
 unfold Er at hs;have hc:=AaL s ⟨#[118]⟩
 by_cases hp:∃r,s.data.toList=118::r
 .obtain⟨r,hr⟩:=hp;have e1:Go.Lib.hasPrefix s.data.toList (⟨#[118]⟩:ByteArray).data.toList=true:=by rw[hr];rfl
  have e2:Go.Lib.trimPrefix s.data.toList (⟨#[118]⟩:ByteArray).data.toList=r:=by unfold Go.Lib.trimPrefix;rw[e1,As rfl,hr];rfl
  rw[e1,e2]at hc;have hv:GU s.data.toList=if(r.isEmpty||decide (3<r.length)||(decide (1<r.length)&&decide (r.headD 0=48))||!r.all CC)=true then none else some (Ea r):=by rw[hr];rfl
  have Uk:r.length<s.size:=by
   have:s.size=s.data.toList.length:=by simp
   rw[this,hr];simp
  generalize hB:(⟨r.toArray⟩:ByteArray)=rB at hc;have l7:rB.data.toList=r:=by rw[<-hB]
  have xl:rB.size=r.length:=by rw[<-hB];rfl
  have hw:=s5 rB 204 CC s8 (by rw[l7];omega);rw[l7]at hw;have no:∀{b:Bool},b=true->(if b=true then none else some (Ea r))=(none:Option Int):=fun h=>As h;refine Ps (I8 []) Tryz.func199 rfl (Nz rfl) (Xi .pure (Xi _ (Yi (hc) (Yi ?_ ?_))))
  .intro h
   have:r=[]:=by rw[<-l7,h]
   exact .of_eq (Aa YV (show(none:Option Int)=GU s.data.toList by rw[hv,this];rfl))
  intro h;have Dv:r≠[]:=fun e=>h (by rw[<-hB,e]);have Ca:0<r.length:=Hb.2 Dv;have QL:r.isEmpty=false:=by
   cases hl:r with
   |nil=>exact absurd hl Dv
   |cons a l=>rfl
  refine Yi ?_ ?_
  .intro h2;exact .of_eq (Aa YV (show(none:Option Int)=GU s.data.toList by rw[hv,no];rw[Ap (by omega:3<r.length)];simp))
  intro h2;have xY:r.length<=3:=by omega
  have d3:decide (3<r.length)=false:=Am ch;refine Yi ?_ ?_
  .intro h3;have AbA:rB.data[(0:Int).toNat]?=some r[0]:=by
    show rB.data[0]?=_;rw[<-AI,l7];exact Ge Ca
   refine Xi r[0] (Yi ⟨By _,AbA⟩ ?_);have hh:=OB r Ca;refine Yi ?_ ?_
   .intro h4
    have:r[0]=48:=GG.1 (by show r[0].toNat=48;omega)
    exact .of_eq (Aa YV (show(none:Option Int)=GU s.data.toList by rw[hv,hh,this,Ap (by omega:1<r.length)];simp))
   intro h4;have eo:(decide (1<r.length)&&decide (r.headD 0=48))=false:=by rw[hh,Am (show ¬r[0]=48 from fun e=>h4 (by rw[e];rfl)),Di]
   have uf:GU s.data.toList=if(!r.all CC)=true then none else some (Ea r):=by rw[hv,QL,d3,eo];rfl
   refine BL (Bt (r.all CC)) (fun e3=>?_) (fun e3=>?_)
   rotate_left
   .rw[e3]at hw;refine Xi .pure (Xi _ (Yi (hw) ?_));exact .of_eq (Aa YV (show(none:Option Int)=GU s.data.toList by rw[uf,e3];rfl))
   rw[e3]at hw;refine Xi .pure (Xi _ (Yi (hw) ?_));have hv3:GU s.data.toList=some (Ea r):=by rw[uf,e3];rfl
   have z0:Ea (r.take 0)=0:=rfl;refine Xi {i:Nat // i<=r.length/\0<=Ea (r.take i)/\(i=0->Ea (r.take i)<=0)/\(i<=1->Ea (r.take i)<=9)/\(i<=2->Ea (r.take i)<=99)/\Ea (r.take i)<=999} (Xi (fun i=>⟨[(0,vs rB),(5,vi (Ea (r.take i.1))),(39,vi rB.size),(40,vi i.1)],[],Ad⟩) (Xi (fun i=>r.length-i.1) (Yi (Xi ⟨0,AE _,by omega,fun _=>by omega,fun _=>by omega,fun _=>by omega,by omega⟩ ?_) ?_)))
   .exact⟨Z4,Tv,Fh,Tv⟩
   intro⟨i,i1,i2,i3,i4,i5,i6⟩;refine Yi ?_ ?_
   .intro h;have h:(i:Int)<(rB.size:Nat):=h;have h:i<r.length:=by omega
    have hdg:CC r[i]=true:=AP.1 e3 _ (Aq h);have rQ:=Lp hdg;have tY:=LD r i h;have cO:IntKind.u8.wrap ((r[i].toNat:Int)-48)=(r[i].toNat:Int)-48:=Tl ch ch;have Vt:rB.data[((i:Nat):Int).toNat]?=some r[i]:=by rw[BE,<-AI,l7];exact Ge h
    refine Yi (by show A5 (10*Ea (r.take i));unfold A5;omega) (Xi r[i] (Yi ⟨by show(0:Int)<=i;omega,Vt⟩ ?_));refine Yi (by show A5 (IntKind.u8.wrap ((r[i].toNat:Int)-48));rw[cO];unfold A5;omega) ?_;refine Yi (by show A5 (10*Ea (r.take i)+IntKind.u8.wrap ((r[i].toNat:Int)-48));rw[cO];unfold A5;omega) ?_;refine Yi (Ii i ch) ?_;have e5:vi (10*Ea (r.take i)+IntKind.u8.wrap ((r[i].toNat:Int)-48))=vi (Ea (r.take (i+1))):=by rw[cO,tY]
    refine Xi ⟨i+1,by omega,by omega,fun _=>by omega,fun _=>by omega,fun _=>by omega,by omega⟩ ?_;exact⟨Dl r.length i ch,⟨Zr,⟨e5,rfl⟩,Zr,Zr,Tv⟩,Tv,Fh,Tv⟩
   .intro h;have h:¬(i:Int)<(rB.size:Nat):=h;have e6:AV.tup [vi (Ea (r.take i)),vb true]=YV (GU s.data.toList):=by rw[hv3,AB ch]
    exact .of_eq e6
  .intro h3;have h3:¬(1:Int)<((rB.size:Nat):Int):=h3;have eo:(decide (1<r.length)&&decide (r.headD 0=48))=false:=by rw[Am (by omega:¬1<r.length)];rfl
   have uf:GU s.data.toList=if(!r.all CC)=true then none else some (Ea r):=by rw[hv,QL,d3,eo];rfl
   refine BL (Bt (r.all CC)) (fun e3=>?_) (fun e3=>?_)
   rotate_left
   .rw[e3]at hw;refine Xi .pure (Xi _ (Yi (hw) ?_));exact .of_eq (Aa YV (show(none:Option Int)=GU s.data.toList by rw[uf,e3];rfl))
   rw[e3]at hw;refine Xi .pure (Xi _ (Yi (hw) ?_));have hv3:GU s.data.toList=some (Ea r):=by rw[uf,e3];rfl
   have z0:Ea (r.take 0)=0:=rfl;refine Xi {i:Nat // i<=r.length/\0<=Ea (r.take i)/\(i=0->Ea (r.take i)<=0)/\(i<=1->Ea (r.take i)<=9)/\(i<=2->Ea (r.take i)<=99)/\Ea (r.take i)<=999} (Xi (fun i=>⟨[(0,vs rB),(5,vi (Ea (r.take i.1))),(39,vi rB.size),(40,vi i.1)],[],Ad⟩) (Xi (fun i=>r.length-i.1) (Yi (Xi ⟨0,AE _,by omega,fun _=>by omega,fun _=>by omega,fun _=>by omega,by omega⟩ ?_) ?_)))
   .exact⟨Z4,Tv,Fh,Tv⟩
   intro⟨i,i1,i2,i3,i4,i5,i6⟩;refine Yi ?_ ?_
   .intro h;have h:(i:Int)<(rB.size:Nat):=h;have h:i<r.length:=by omega
    have hdg:CC r[i]=true:=AP.1 e3 _ (Aq h);have rQ:=Lp hdg;have tY:=LD r i h;have cO:IntKind.u8.wrap ((r[i].toNat:Int)-48)=(r[i].toNat:Int)-48:=Tl ch ch;have Vt:rB.data[((i:Nat):Int).toNat]?=some r[i]:=by rw[BE,<-AI,l7];exact Ge h
    refine Yi (by show A5 (10*Ea (r.take i));unfold A5;omega) (Xi r[i] (Yi ⟨by show(0:Int)<=i;omega,Vt⟩ ?_));refine Yi (by show A5 (IntKind.u8.wrap ((r[i].toNat:Int)-48));rw[cO];unfold A5;omega) ?_;refine Yi (by show A5 (10*Ea (r.take i)+IntKind.u8.wrap ((r[i].toNat:Int)-48));rw[cO];unfold A5;omega) ?_;refine Yi (Ii i ch) ?_;have e5:vi (10*Ea (r.take i)+IntKind.u8.wrap ((r[i].toNat:Int)-48))=vi (Ea (r.take (i+1))):=by rw[cO,tY]
    refine Xi ⟨i+1,by omega,by omega,fun _=>by omega,fun _=>by omega,fun _=>by omega,by omega⟩ ?_;exact⟨Dl r.length i ch,⟨Zr,⟨e5,rfl⟩,Zr,Zr,Tv⟩,Tv,Fh,Tv⟩
   .intro h;have h:¬(i:Int)<(rB.size:Nat):=h;have e6:AV.tup [vi (Ea (r.take i)),vb true]=YV (GU s.data.toList):=by rw[hv3,AB ch]
    exact .of_eq e6
 .have e1:Go.Lib.hasPrefix s.data.toList (⟨#[118]⟩:ByteArray).data.toList=false:=by
   cases hl:s.data.toList with
   |nil=>rfl
   |cons a l=>
    have:a≠118:=fun e=>hp ⟨l,by rw[hl,e]⟩
    show(List.isPrefixOf [118] (a::l))=false;rw[List.isPrefixOf_cons_cons]
    have:((118:UInt8) == a)=false:=by rw[Jz];exact fun e=>this e.symm
    rw[this];rfl
  have hv:GU s.data.toList=none:=by
   cases hl:s.data.toList with
   |nil=>rfl
   |cons a l=>
    have:a≠118:=fun e=>hp ⟨l,by rw[hl,e]⟩
    show(if a=118 then _ else none)=none;rw[Ah this]
  rw[e1]at hc;refine Ps DU Tryz.func199 rfl (Nz rfl) (Xi .pure (Xi _ (Yi (hc) ?_)));exact .of_eq (Aa YV hv.symm)
abbrev Ra:Option Int->AV
 |some n=>.tup [vi n,vi 0]
 |none=>.tup [vi 0,vi 4]
theorem Ml(c:UInt8):∀(s x:List UInt8),x∈B2 c s->x.length<=s.length
 | [],x,h=>by
  rw[B2]at h;rw[Aj.1 h];exact Ai _
 |b::r,x,h=>by
  have ih:=Ml c r;rw[B2]at h;split at h
  .rcases Ay.1 h with rfl | h
   .exact AE _
   .have:=ih x h;rw[Al];omega
  .split at h
   .rw[Aj.1 h];rw[Al];simp
   .rename_i y l e;rcases Ay.1 h with rfl | h
    .have:=ih y (by rw[e];exact Ab ..);rw[Al,Al];omega
    .have:=ih x (by rw[e];exact Ae _ h);rw[Al];omega
theorem nB{p x:ByteArray}(hp:Er p)(hx:x∈BX p):Er x:=by
 have h:x.data.toList∈B2 47 p.data.toList:=by rw[<-PY];exact Ak.2 ⟨x,hx,rfl⟩
 have:=Ml 47 _ _ h
 unfold Er at *
 have e1:x.size=x.data.toList.length:=by simp
 have e2:p.size=p.data.toList.length:=by simp
 omega
theorem js:(BX p).length=(B2 47 p.data.toList).length:=by rw[<-PY,Lm]
theorem jt:0<(BX p).length:=by
 rw[show(BX p).length=Go.Lib.countB p bY+1 from Go.Lib.splitB_all bY Cl 0 _ p rfl];omega
theorem jr:(BX p).length<=p.size+1:=by
 rw[show(BX p).length=Go.Lib.countB p bY+1 from Go.Lib.splitB_all bY Cl 0 _ p rfl]
 have:=Go.Lib.countB_le bY Cl p.size p (Ai _);omega
theorem dn(h:(BX p).length-1<(BX p).length):(B2 47 p.data.toList).getLastD []=((BX p)[(BX p).length-1]).data.toList:=by
 rw[<-PY,List.getLastD_eq_getLast?,List.getLast?_eq_getElem?,Lm,Aw,Ge h];rfl
theorem jq:(B2 47 p.data.toList).all Hs=(BX p).all fun x=>Hs x.data.toList:=by
 rw[<-PY,List.all_map];rfl
theorem wN(hp:Er p):PC 152 [vs p] (Ra (Bs p)):=by
 have rW:=jr p;have cM:=jt p;have hp1:(BX p).length-1<(BX p).length:=by omega
 have D5:p.size=p.data.toList.length:=by simp
 have hfp:∀{x},x∈BX p->Er x:=fun h=>nB hp h;unfold Er at hp;have VL:((BX p).map Gj)[((((BX p).map Gj).length:Int)-1).toNat]?=some (Gj (BX p)[(BX p).length-1]):=by
  rw[Lm,show(((BX p).length:Int)-1).toNat=(BX p).length-1 by omega];exact Ee (Ge hp1)
 have hv:=c213 (BX p)[(BX p).length-1] (hfp (Aq hp1));have em:Bs p=match GU ((BX p)[(BX p).length-1]).data.toList with
  |none=>none
  |some n=>if(decide (64<p.data.toList.length)||decide ((BX p).length<2))=true then none else if((BX p).all fun x=>Hs x.data.toList)=true then some n else none:=by
  unfold Bs Rb;rw[dn p hp1,jq,<-js];cases GU ((BX p)[(BX p).length-1]).data.toList with
  |none=>rfl
  |some n=>rfl
 cases hve:GU ((BX p)[(BX p).length-1]).data.toList with
 |none=>
  rw[hve]at hv em;refine Ps (I8 []) Tryz.func152 rfl (Nz rfl) (Xi .pure (Xi _ (Yi (c212 p hp) (Yi (by show A5 ((((BX p).map Gj).length:Int)-1);unfold A5;rw[Lm];omega) ?_))));refine Xi (Gj (BX p)[(BX p).length-1]) (Yi (Yi (by show(0:Int)<=(((BX p).map Gj).length:Int)-1;rw[Lm];omega) VL) (Yi rfl ?_));refine Xi .pure (Xi _ (Yi (hv) ?_));exact .of_eq (Aa Ra em.symm)
 |some n=>
  rw[hve]at hv em;refine Ps (I8 []) Tryz.func152 rfl (Nz rfl) (Xi .pure (Xi _ (Yi (c212 p hp) (Yi (by show A5 ((((BX p).map Gj).length:Int)-1);unfold A5;rw[Lm];omega) ?_))));refine Xi (Gj (BX p)[(BX p).length-1]) (Yi (Yi (by show(0:Int)<=(((BX p).map Gj).length:Int)-1;rw[Lm];omega) VL) (Yi rfl ?_));refine Xi .pure (Xi _ (Yi (hv) (Yi ?_ ?_)))
  .intro h;exact .of_eq (Aa Ra (show(none:Option Int)=Bs p by rw[em,Ap (by omega:64<p.data.toList.length)];rfl))
  intro h;have d1:decide (64<p.data.toList.length)=false:=Am ch;refine Yi ?_ ?_
  .intro h2;rw[Lm]at h2;exact .of_eq (Aa Ra (show(none:Option Int)=Bs p by rw[em,d1,Ap (by omega:(BX p).length<2)];rfl))
  intro h2;have d2:decide ((BX p).length<2)=false:=Am (by rw[Lm]at h2;omega);have em2:Bs p=if((BX p).all fun x=>Hs x.data.toList)=true then some n else none:=by rw[em,d1,d2];rfl
  refine Xi {i:Nat // i<=(BX p).length/\∀j (hj:j<(BX p).length),j<i->Hs ((BX p)[j]).data.toList=true} (Xi (fun i=>⟨[(5,vi n),(33,sl Gj (BX p)),(34,vi ((BX p).map Gj).length),(35,vi i.1)],[],Ad⟩) (Xi (fun i=>(BX p).length-i.1) (Yi (Xi ⟨0,AE _,fun j _ h=>by omega⟩ ?_) ?_)))
  .exact⟨Z4,Tv,Fh,Tv⟩
  intro⟨i,i1,i2⟩;refine Yi ?_ ?_
  .intro h;have h:i<(BX p).length:=by simpa using h
   have hg:(BX p)[i]?=some (BX p)[i]:=Ge h;refine Xi (Gj (BX p)[i]) (Yi (Yi (Nn i) (by simp[hg])) (Yi rfl ?_));have hfi:=hfp (Aq h);have hn:=AaF (BX p)[i] hfi;have ha:=s5 (BX p)[i] 202 NW AaG (by unfold Er at hfi;have e1:(BX p)[i].size=(BX p)[i].data.toList.length:=B0;omega);have no:Hs ((BX p)[i]).data.toList=false->(none:Option Int)=Bs p:=fun e=>by
    rw[em2,Ah];intro FN
    have:=AP.1 FN _ (Aq h)
    rw[e]at this;cases this
   refine BL (Bt (GC ((BX p)[i]).data.toList)) (fun e1=>?_) (fun e1=>?_)
   rotate_left
   .rw[e1]at hn;refine Xi .pure (Xi _ (Yi (hn) ?_));exact .of_eq (Aa Ra (no (by unfold Hs;rw[e1];rfl)))
   rw[e1]at hn;refine Xi .pure (Xi _ (Yi (hn) (BL (Bt (((BX p)[i]).data.toList.all NW)) (fun e2=>?_) (fun e2=>?_))))
   rotate_left
   .rw[e2]at ha;refine Xi .pure (Xi _ (Yi (ha) ?_));exact .of_eq (Aa Ra (no (by unfold Hs;rw[e1];exact e2)))
   rw[e2]at ha;refine Xi .pure (Xi _ (Yi (ha) (Yi (Ii i ch) (Xi ⟨i+1,by omega,fun j hj Iu=>?_⟩ ?_))))
   .rcases BT j i with z | z
    .exact i2 j hj z
    .have:j=i:=by omega
     subst this;unfold Hs;rw[e1];exact e2
   .exact⟨by show(BX p).length-(i+1)<(BX p).length-i;omega,Z4,Tv,Fh,Tv⟩
  .intro h;have h:¬i<(BX p).length:=by simpa using h
   have e:some n=Bs p:=by
    rw[em2,As];exact AP.2 fun x hx=>by
     obtain⟨j,hj,rfl⟩:=CE hx;exact i2 j hj ch
   exact .of_eq (Aa Ra e)
theorem Aay(hp:Er p):PC 153 [vs p] (vb (Bs p).isSome):=by
 have hc:=wN p hp;cases h:Bs p with
 |none=>
  rw[h]at hc;refine Ps DU Tryz.func153 rfl (Nz rfl) (Xi .pure (Xi _ (Yi (hc) (Yi ?_ ?_))))
  .intro h;exact absurd (show(4:Int)=0 from h) Cl
  .intro _;exact .refl _
 |some n=>
  rw[h]at hc;refine Ps DU Tryz.func153 rfl (Nz rfl) (Xi .pure (Xi _ (Yi (hc) (Yi ?_ ?_))))
  .intro _;exact .refl _
  .intro h;exact absurd rfl h
theorem OS(c:UInt8):∀s:List UInt8,2<=(B2 c s).length->c∈s
 | [],h=>by rw[B2]at h;simp at h
 |b::r,h=>by
  rw[B2]at h
  by_cases e:b=c
  .exact e▸Ab ..
  .rw[Ah e]at h;refine Ae _ (OS c r ?_);cases hs:B2 c r with
   |nil=>rw[hs]at h;simp at h
   |cons x l=>rw[hs]at h;simpa using h
theorem mJ{p:ByteArray}{m:Int}(h:Bs p=some m):0<=Go.Lib.lastIndex p.data.toList [47]/\Go.Lib.lastIndex p.data.toList [47]<=p.size:=by
 have h2:2<=(B2 47 p.data.toList).length:=by
  unfold Bs Rb at h;split at h
  .cases h
  .split at h
   .cases h
   .rename_i hn;simp only[CD,Au]at hn;omega
 have hm:=OS 47 _ h2;obtain⟨i,hi,e⟩:=CE hm;have D5:p.size=p.data.toList.length:=by simp
 unfold Go.Lib.lastIndex;rw[As (by simp only[AJ];omega)];have AbZ:Go.Lib.occAt p.data.toList [47] i=true:=by
  unfold Go.Lib.occAt;rw[AY hi,e];simp
 rcases Go.Lib.lastOcc_spec p.data.toList [47] (p.data.toList.length - [(47:UInt8)].length+1)with ⟨_,h3⟩ | ⟨j,h3,h4,_⟩
 .have:=h3 i (by simp only[AJ];omega)
  rw[AbZ]at this;cases this
 .rw[h4];simp only[AJ]at h3;omega
abbrev Q0:ByteArray:=p.extract 0 (Go.Lib.lastIndex p.data.toList [47]).toNat
theorem Zn:Vy Q0:=by
 intro p hp;have hc:=wN p hp;have hi:=Aay p hp;unfold WI;cases h:Bs p with
 |none=>
  rw[h]at hc hi;refine Ps DU Tryz.func93 rfl (Nz rfl) (Xi .pure (Xi _ (Yi (hc) (Xi .pure (Xi _ (Yi (hi) ?_))))));exact .refl _
 |some n=>
  rw[h]at hc hi;obtain⟨l1,l2⟩:=mJ h;have hl:PC 154 [vs p,vs bY] (vi (Go.Lib.lastIndex p.data.toList [47])):=Aaz p bY hp;refine Ps DU Tryz.func93 rfl (Nz rfl) (Xi .pure (Xi _ (Yi (hc) (Xi .pure (Xi _ (Yi (hi) (Yi ?_ ?_)))))))
  .intro h;exact absurd rfl h
  intro _;refine Xi .pure (Xi _ (Yi (hl) (Yi ⟨By _,l1,l2⟩ ?_)));exact .refl _
theorem LI{l:List Rq}(h:B5 l=0):l.length<=16:=by
 unfold B5 at h;split at h
 .cases h
 .omega
theorem M6{x:List Rl}(h:Bd x=0):x.length<=256/\∀r∈x,r.reqs.length<=16:=by
 have h1:x.length<=256:=by
  unfold Bd at h;split at h
  .cases h
  .omega
 exact⟨h1,fun r hr=>LI ((CF h).1 r hr).reqs⟩
theorem lM{x:List Rl}(h:∀r∈x,r.reqs.length<=16):((x.map (·.reqs)).flatten).length<=x.length*16:=by
 induction x with
 |nil=>simp
 |cons r x ih=>
  rw[AK,Bu,Ac,Al]
  have:=h r (Ab ..)
  have:=ih fun s hs=>h s (Ae _ hs)
  omega
theorem dt{x:List Rl}{roots:List Rq}{l:List Nf}(h1:Bd x=0)(h2:B5 roots=0)(h3:l.length<=65536):(KY x roots l).length<=100000:=by
 obtain⟨a,b⟩:=M6 h1
 have:=lM b
 have:=LI h2
 unfold KY;simp only[Ac,Lm];omega
theorem VY.fewI{U:List ByteArray}{t:List Tm}(h:VY U t)(hu:U.length<=100000):su t:=
 ⟨by have:=h.len;omega,fun u hu=>Pr (h.1.canon u hu)⟩
abbrev LO:AV:=.agg (Ic x ifs)
abbrev SP:EN:=⟨true,[.str,.int .i64,.int .i64,.int .i64]⟩
abbrev Iv(y:Sl):Value:=.agg #[.string y.path,.int .i64 y.ver.a,.int .i64 y.ver.b,.int .i64 y.ver.c]
abbrev WH(r:Rl):Value×AV:=(Iv (FC r),.agg (BS r))
def AW:List Rl->List ByteArray->List ByteArray
 | [],acc=>acc
 |r::x,acc=>AW x (if acc.any (fun p=>decide (p=r.path))then acc else acc++[r.path])
abbrev ur:Value×AV:=(.string p,sl BS (x.filter fun r=>decide (r.path=p)))
abbrev YS:AV:=if Bd x=0 then .tup [.agg [.cmap SP (x.map WH),.cmap Ek ((AW x []).map (ur x))],vi 0]else .tup [.agg [.cmap SP [],.cmap Ek []],vi (Bd x)]
abbrev ky:Prop:=PC 82 [LO x ifs] (YS x)
theorem Ab0:PC 83 [.agg sm] (.agg sm):=by
 refine Ps DU Tryz.func83 rfl (Nz rfl) (yN (Xi Unit (Xi (fun _=>⟨[(1,.ref 1 0),(2,.ref 2 0),(10,vi 0),(11,vi 0)],[(1,.cells sm),(2,.cells sm)],Ad⟩) (Xi (fun _=>0) (Yi (Xi () ?_) ?_)))))
 .exact⟨Z4,Z2,Fh,Tv⟩
 intro _;refine Yi ?_ ?_
 .intro h;exact absurd (show(0:Int)<0 from h) Cl
 .intro _;refine Yi (Nz rfl) (Yi (Nz rfl) (yN ?_));exact .refl _
theorem qw{z:Sl}(h:Iv y=Iv z):y=z:=by
 obtain⟨p,⟨a,b,c⟩⟩:=y;obtain⟨q,⟨d,e,f⟩⟩:=z;simp only[Iv,Value.agg.injEq,Array.mk.injEq,Eu,Value.string.injEq,Value.int.injEq,true_and,Tw]at h;obtain⟨rfl,rfl,rfl,rfl⟩:=h
 rfl
theorem eU{x:List Rl}(h:(Iv y,a)∈x.map WH):∃r∈x,FC r=y/\a=.agg (BS r):=by
 obtain⟨r,h1,h2⟩:=Ak.1 h;simp only[WH,ES]at h2;exact⟨r,h1,qw h2.1,h2.2.symm⟩
theorem lK{x:List Rl}(hx:Bd x=0){r:Rl}(hr:r∈x):DH x (FC r)=some r:=by
 unfold DH;rw[Ah ch];cases h:x.find? (fun s=>decide (FC s=FC r))with
 |none=>
  rw[EE]at h;exact absurd B0 (h r hr)
 |some s=>
  have h1:=DL h;simp only[Au]at h1;have hs:=BP h;have hp:=(CF hx).2;rcases B1.1 hr with ⟨i,hi,e1⟩;rcases B1.1 hs with ⟨j,hj,e2⟩;rcases Lb i j with QM | QM | QM
  .have:=(A8.1 hp) i j hi hj QM
   rw[e1,e2]at this;exact(JZ this h1.symm).elim
  .subst QM;rw[<-e1,<-e2]
  .have:=(A8.1 hp) j i hj hi QM
   rw[e1,e2]at this;exact(JZ this h1).elim
theorem c53(v:Ver)(ib:ky x ifs)(hx:∀r∈x,Jw r):PC 43 [LO x ifs,vs p,.agg (Jh v)] (fp (DH x ⟨p,v⟩)):=by
 have hz:=Ab0
 by_cases h0:Bd x=0
 .have ib:PC 82 [LO x ifs] (.tup [.agg [.cmap SP (x.map WH),.cmap Ek ((AW x []).map (ur x))],vi 0]):=by
   have:=ib;unfold ky YS at this;rw[As h0]at this;exact this
  refine Ps (I8 []) Tryz.func43 rfl (Nz rfl) (yN (Xi .pure (Xi _ (Yi (ib) (yN (yN (Yi ?_ ?_)))))))
  .intro a ha;refine BA (eU (y:=⟨p,v⟩) ha) (fun r hr=>?_);have e:=hr.2.2;subst e;have hf:DH x ⟨p,v⟩=some r:=by rw[<-hr.2.1];exact lK h0 hr.1
   have hrq:=(M6 h0).2 r hr.1;have hc:=c98 r ch (fun q hq=>((hx r hr.1).2 q hq).1);refine yN (yN (Xi .pure (Xi _ (Yi (hc) (Yi (Nz rfl) (yN ?_))))));exact .of_eq (show AV.tup [.agg (BS r),vb true]=fp (DH x ⟨p,v⟩) by rw[hf])
  .intro hn;have hf:DH x ⟨p,v⟩=none:=by
    cases h:DH x ⟨p,v⟩with
    |none=>rfl
    |some r=>
     obtain⟨_,h2,h3⟩:=FV h;exact absurd (Ak.2 ⟨r,h2,by rw[show WH r=(Iv (FC r),AV.agg (BS r))from rfl,h3]⟩) (hn (.agg (BS r)))
   refine yN (yN (Xi .pure (Xi _ (Yi (hz) (Yi (Nz rfl) (yN ?_))))));exact .of_eq (show AV.tup [.agg sm,vb false]=fp (DH x ⟨p,v⟩) by rw[hf])
 .have ib:PC 82 [LO x ifs] (.tup [.agg [.cmap SP [],.cmap Ek []],vi (Bd x)]):=by
   have:=ib;unfold ky YS at this;rw[Ah h0]at this;exact this
  have hf:DH x ⟨p,v⟩=none:=by unfold DH;rw[As h0]
  refine Ps (I8 []) Tryz.func43 rfl (Nz rfl) (yN (Xi .pure (Xi _ (Yi (ib) (yN (yN (Yi ?_ ?_)))))))
  .intro a ha;cases ha
  .intro _;refine yN (yN (Xi .pure (Xi _ (Yi (hz) (Yi (Nz rfl) (yN ?_))))));exact .of_eq (show AV.tup [.agg sm,vb false]=fp (DH x ⟨p,v⟩) by rw[hf])
abbrev EM:Bl:=(l.filter fun r=>!r.yanked).map fun r=>(plc r.ver,plc r.ver+1)
theorem dI:(EM l).length<=l.length:=by
 unfold EM;rw[Lm];exact BC _ _
theorem qA{x:List Rl}{ps:List ByteArray}{p:ByteArray}(h:(Value.string p,a)∈ps.map (ur x)):a=sl BS (x.filter fun r=>decide (r.path=p)):=by
 obtain⟨q,_,h2⟩:=Ak.1 h;simp only[ur,ES,Value.string.injEq]at h2;rw[<-h2.2,h2.1]
theorem Pf{acc:List ByteArray}{p:ByteArray}:(acc.any fun q=>decide (q=p))=true↔p∈acc:=by
 rw[AX];constructor
 .rintro⟨q,h1,h2⟩;rw[<-BO h2];exact h1
 .intro h;exact⟨p,h,by simp⟩
theorem HN:∀(x:List Rl) (acc:List ByteArray) (p:ByteArray),p∈AW x acc↔p∈acc\/∃r∈x,r.path=p
 | [],acc,p=>by simp[AW]
 |r::x,acc,p=>by
  rw[AW,HN x];constructor
  .rintro(h | ⟨s,h1,h2⟩)
   .split at h
    .exact .inl h
    .rcases AT.1 h with h | h
     .exact .inl h
     .exact .inr ⟨r,Ab ..,(Aj.1 h).symm⟩
   .exact .inr ⟨s,Ae _ h1,h2⟩
  .rintro(h | ⟨s,h1,h2⟩)
   .left
    split
    .exact h
    .exact Bn _ h
   .rcases Ay.1 h1 with rfl | h1
    .left
     split
     .rename_i hh;rw[<-h2];exact Pf.1 hh
     .rw[<-h2];exact Bg _ (Aj.2 rfl)
    .exact .inr ⟨s,h1,h2⟩
abbrev sb:Qn:=(pT [] [(7,2)] [])
theorem Wf(L:List Rl)(i:Nat)(h:i<L.length):EM (L.take (i+1))=EM (L.take i)++(if L[i].yanked then []else [(plc L[i].ver,plc L[i].ver+1)]):=by
 unfold EM;rw[AZ,Ge h,ED,Az]
 congr 1
 cases hy:L[i].yanked<;>simp[hy]
theorem AaC(ib:ky x ifs):PC 129 [LO x ifs,vs p] (sl AC (B8 x p)):=by
 by_cases h0:Bd x=0
 .have ib:PC 82 [LO x ifs] (.tup [.agg [.cmap SP (x.map WH),.cmap Ek ((AW x []).map (ur x))],vi 0]):=by
   have:=ib;unfold ky YS at this;rw[As h0]at this;exact this
  have cP:=(M6 h0).1;obtain⟨L,zC⟩:∃L,L=x.filter fun r=>decide (r.path=p):=⟨_,rfl⟩;have hL:KW x p=L:=by unfold KW;rw[Ah ch,zC]
  have hLl:L.length<=256:=by have:=BC (fun r:Rl=>decide (r.path=p)) x;rw[zC];omega
  refine Ps sb Tryz.func129 rfl (Nz rfl) (yN (Xi .pure (Xi _ (Yi (ib) (yN (Yi ?_ ?_))))))
  .intro a ha;have ea:a=sl BS L:=by rw[zC];exact qA ha
   subst ea;refine Xi {i:Nat // i<=L.length} (Xi (fun i=>⟨[(7,.slice (.id 7 2) ((EM (L.take i.1)).map AC)),(18,sl BS L),(19,vi (L.map BS).length),(20,vi i.1)],[(7,.tok 2 ((EM (L.take i.1)).map AC).length)],Ad⟩) (Xi (fun i=>L.length-i.1) (Yi (Xi ⟨0,AE _⟩ ?_) ?_)))
   .exact⟨Z4,Z1,Fh,Tv⟩
   intro⟨i,i1⟩;have Vw:=dI (L.take i);rw[AA]at Vw;refine Yi ?_ ?_
   .intro h;have h:i<L.length:=by simpa using h
    have hg:L[i]?=some L[i]:=Ge h;refine Xi (BS L[i]) (Yi (Yi (Nn i) (by simp[hg])) (Yi rfl ?_));refine Yi (Nz rfl) (yN (Yi ?_ ?_))
    .intro hy;refine Yi (Ii i ch) ?_;have es:EM (L.take (i+1))=EM (L.take i):=by rw[Wf L i h,hy];simp
     have e1:AV.slice (.id 7 2) ((EM (L.take i)).map AC)=.slice (.id 7 2) ((EM (L.take (i+1))).map AC):=by rw[es]
     have e2:HO.tok 2 ((EM (L.take i)).map AC).length=.tok 2 ((EM (L.take (i+1))).map AC).length:=by rw[es]
     refine Xi ⟨i+1,by omega⟩ ?_;exact⟨Dl L.length i ch,⟨⟨e1,rfl⟩,Zr,Zr,Zr,Tv⟩,⟨⟨e2,rfl⟩,Tv⟩,Fh,Tv⟩
    .intro hy;have ye:=qZ L[i].ver;refine yN (Xi _ (Yi (c88 L[i]) (yN (Xi _ (Yi (c88 L[i]) (Yi (by show A5 (plc L[i].ver+1);unfold A5;omega) ?_))))));have GA:CR 2 [[vi (plc L[i].ver),vi (plc L[i].ver+1)]]/\((EM (L.take i)).map AC).length=((EM (L.take i)).map AC).length/\(((EM (L.take i)).map AC).length+[[vi (plc L[i].ver),vi (plc L[i].ver+1)]].length)*16<=140737488355328/\((EM (L.take i)).map AC).length+[[vi (plc L[i].ver),vi (plc L[i].ver+1)]].length<=9223372036854775807:=
      ⟨⟨rfl,trivial⟩,rfl,by rw[Lm,AJ];omega,by rw[Lm,AJ];omega⟩
     refine Yi GA (Yi aa0 (Yi (Ii i ch) ?_));have es:EM (L.take (i+1))=EM (L.take i)++[(plc L[i].ver,plc L[i].ver+1)]:=by rw[Wf L i h,hy];simp
     have e1:AV.slice (.id 7 2) ((EM (L.take i)).map AC++[[vi (plc L[i].ver),vi (plc L[i].ver+1)]])=.slice (.id 7 2) ((EM (L.take (i+1))).map AC):=by rw[es,Az];rfl
     have e2:HO.tok 2 (((EM (L.take i)).map AC).length+[[vi (plc L[i].ver),vi (plc L[i].ver+1)]].length)=.tok 2 ((EM (L.take (i+1))).map AC).length:=by rw[es,Az,Ac];rfl
     refine Xi ⟨i+1,by omega⟩ ?_;exact⟨Dl L.length i ch,⟨⟨e1,rfl⟩,Zr,Zr,Zr,Tv⟩,⟨⟨e2,rfl⟩,Tv⟩,Fh,Tv⟩
   .intro h;have h:¬i<L.length:=by simpa using h
    have et:L.take i=L:=AB ch;have hc:PC 191 [sl AC (EM (L.take i))] (sl AC (canon (EM (L.take i)))):=Zm _ (by unfold Cw;omega);refine Xi .pure (Xi _ (Yi (hc) ?_));exact .of_eq (show sl AC (canon (EM (L.take i)))=sl AC (B8 x p) by rw[et];unfold B8;rw[hL])
  .intro hn;have hL:KW x p=[]:=by
    rw[hL,zC,EX];intro r hr he;have he:=BO he;exact hn _ (Ak.2 ⟨p,(HN x [] p).2 (.inr ⟨r,hr,he⟩),rfl⟩)
   refine Xi Unit (Xi (fun _=>⟨[(7,.slice (.id 7 2) []),(19,vi 0),(20,vi 0)],[(7,.tok 2 0)],Ad⟩) (Xi (fun _=>0) (Yi (Xi () ?_) ?_)))
   .exact⟨Z3,Z1,Fh,Tv⟩
   intro _;refine Yi ?_ ?_
   .intro h;exact absurd (show(0:Int)<0 from h) Cl
   intro _;have hc:PC 191 [sl AC []] (sl AC (canon [])):=Zm [] (by unfold Cw;simp);refine Xi .pure (Xi _ (Yi (hc) ?_));exact .of_eq (show sl AC (canon [])=sl AC (B8 x p) by unfold B8;rw[hL];rfl)
 .have ib:PC 82 [LO x ifs] (.tup [.agg [.cmap SP [],.cmap Ek []],vi (Bd x)]):=by
   have:=ib;unfold ky YS at this;rw[Ah h0]at this;exact this
  have hL:KW x p=[]:=by unfold KW;rw[As h0]
  refine Ps sb Tryz.func129 rfl (Nz rfl) (yN (Xi .pure (Xi _ (Yi (ib) (yN (Yi ?_ ?_))))))
  .intro a ha;cases ha
  .intro _;refine Xi Unit (Xi (fun _=>⟨[(7,.slice (.id 7 2) []),(19,vi 0),(20,vi 0)],[(7,.tok 2 0)],Ad⟩) (Xi (fun _=>0) (Yi (Xi () ?_) ?_)))
   .exact⟨Z3,Z1,Fh,Tv⟩
   intro _;refine Yi ?_ ?_
   .intro h;exact absurd (show(0:Int)<0 from h) Cl
   intro _;have hc:PC 191 [sl AC []] (sl AC (canon [])):=Zm [] (by unfold Cw;simp);refine Xi .pure (Xi _ (Yi (hc) ?_));exact .of_eq (show sl AC (canon [])=sl AC (B8 x p) by unfold B8;rw[hL];rfl)
theorem Tz:Cw (B8 x p):=by
 unfold B8 Cw
 have:=Iy (Cv (((KW x p).filter fun r=>!r.yanked).map fun r=>(plc r.ver,plc r.ver+1)));omega
end Go.Eng
