/- Lemmas 18. -/
import Derived.Test.YtkjhcikodmiceaaGreatDoorRA17
import Derived.Test.YtkjhcikodmiceaaGreatDoorRA03
import Derived.Shelf.Strings.SplitShaped
import Derived.Shelf.Strings.LastIndexAll
import Derived.Shelf.Strings.Search3
import Derived.Shelf.Small.Wraps
import Derived.Ground.NamesProg
import Derived.Lib.LastIndexLaws
namespace Go.Eng
open Go.Proofs
variable (r:Rl)(a c:UInt8)(s:ByteArray)(n:Nat)
abbrev wJ(a:AV):List AV:=[vs r.path,vi r.ver.a,vi r.ver.b,vi r.ver.c,a,vs r.arch,vs r.ifc,vs r.cert,vb r.yanked]
abbrev zU:Nm:=⟨[],[],[],[],[],[],[],[(9,(1,4,900,2))],[],[],[]⟩
theorem c98(hr:r.reqs.length<=1000)(hs:∀q∈r.reqs,Cz q.set):PC 86 [.agg (At r)] (.agg (At r)):=by
 refine Ps zU Tryz.func86 rfl (Nz rfl) (yN (Xi {i:Nat // i<=r.reqs.length} (Xi (fun i=>⟨[(1,.ref 1 0),(2,.ref 2 0),(9,sl Af r.reqs),(10,vi (r.reqs.map Af).length),(11,vi i.1)],[(1,.cells (wJ r (.slice (.id 900 2) ((r.reqs.take i.1).map Af)))),(2,.cells gw),(900,.tok 2 ((r.reqs.take i.1).map Af).length)],Ad⟩) (Xi (fun i=>r.reqs.length-i.1) (Yi (Xi ⟨0,Ao _⟩ ?_) ?_)))))
 .exact⟨Z5,Z3,Fh,Tv⟩
 intro⟨i,h1⟩;refine Yi ?_ ?_
 .intro h;have h:i<r.reqs.length:=Wk
  have hg:r.reqs[i]?=some r.reqs[i]:=Ge h;refine Xi (Af r.reqs[i]) (Yi (Yi B0 Wk) (Yi rfl ?_));have hq:=hs r.reqs[i] (Am h);refine Yi (Nz rfl) (yN (Xi .pure (Xi _ (Yi (sm r.reqs[i].set hq) (yN (yN ?_))))));have DG:BX 2 [Af r.reqs[i]]/\((r.reqs.take i).map Af).length=((r.reqs.take i).map Af).length/\(((r.reqs.take i).map Af).length+[Af r.reqs[i]].length)*40<=140737488355328/\((r.reqs.take i).map Af).length+[Af r.reqs[i]].length<=9223372036854775807:=
   ⟨⟨rfl,trivial⟩,rfl,by grind,by grind⟩
  refine Yi DG (yN (Yi (by grind [A8]) (Xi ⟨i+1,by omega⟩ ?_)));have et:(r.reqs.take (i+1)).map Af=(r.reqs.take i).map Af++[Af r.reqs[i]]:=by rw[CE,hg,AG];rfl
  have e1:HO.cells (wJ r (.slice (.id 900 2) ((r.reqs.take i).map Af++[Af r.reqs[i]])))=.cells (wJ r (.slice (.id 900 2) ((r.reqs.take (i+1)).map Af))):=by rw[et]
  have e2:HO.tok 2 (((r.reqs.take i).map Af).length+[Af r.reqs[i]].length)=.tok 2 ((r.reqs.take (i+1)).map Af).length:=Wk
  exact⟨by grind,Z5,⟨⟨e1,rfl⟩,Zr,⟨e2,rfl⟩,Tv⟩,Fh,Tv⟩
 .intro h;have h:¬i<r.reqs.length:=Wk
  refine Yi (Nz rfl) (Yi (Nz rfl) (yN ?_));have e:AV.agg (wJ r (.slice .none ((r.reqs.take i).map Af)))=.agg (At r):=aa1
  exact .of_eq e
abbrev vc:AV:=.v (.int .u8 c.toNat)
theorem kP(h:n<256):decide (UInt8.ofNat n<=a)=decide ((n:Int)<=(a.toNat:Int)):=by
 grind [UInt8.le_iff_toNat_le,UInt8.toNat_ofNat']
theorem kO(h:n<256):decide (a<=UInt8.ofNat n)=decide ((a.toNat:Int)<=(n:Int)):=by
 grind [UInt8.le_iff_toNat_le,UInt8.toNat_ofNat']
theorem pR:PC 199 [vc c] (vb (GR c)):=by
 refine Ps Ea Tryz.func199 rfl (Nz rfl) ?_;have e1:decide ((97:UInt8)<=c)=decide ((97:Int)<=(c.toNat:Int)):=kP c 97 aa2;have e2:decide (c<=(122:UInt8))=decide ((c.toNat:Int)<=(122:Int)):=kO c 122 aa2;have es:GR c=(decide ((97:Int)<=(c.toNat:Int))&&decide ((c.toNat:Int)<=(122:Int))):=by grind [GR]
 refine Yi ?_ ?_
 .intro h;refine Yi ?_ ?_
  .intro h2;exact .of_eq (Ab vb (show true=GR c by simp_all))
  .intro h2;exact .of_eq (Ab vb (show false=GR c by simp_all))
 .intro h;exact .of_eq (Ab vb (show false=GR c by simp_all))
theorem pS:PC 200 [vc c] (vb (EJ c)):=by
 refine Ps Ea Tryz.func200 rfl (Nz rfl) ?_;have e1:decide ((48:UInt8)<=c)=decide ((48:Int)<=(c.toNat:Int)):=kP c 48 aa2;have e2:decide (c<=(57:UInt8))=decide ((c.toNat:Int)<=(57:Int)):=kO c 57 aa2;have es:EJ c=(decide ((48:Int)<=(c.toNat:Int))&&decide ((c.toNat:Int)<=(57:Int))):=by grind [EJ]
 refine Yi ?_ ?_
 .intro h;refine Yi ?_ ?_
  .intro h2;exact .of_eq (Ab vb (show true=EJ c by simp_all))
  .intro h2;exact .of_eq (Ab vb (show false=EJ c by simp_all))
 .intro h;exact .of_eq (Ab vb (show false=EJ c by simp_all))
theorem xK:PC 330 [vc c] (vb (VO c)):=by
 refine Ps Ea Tryz.func330 rfl (Nz rfl) ?_;have e1:decide ((65:UInt8)<=c)=decide ((65:Int)<=(c.toNat:Int)):=kP c 65 aa2;have e2:decide (c<=(90:UInt8))=decide ((c.toNat:Int)<=(90:Int)):=kO c 90 aa2;have es:VO c=(decide ((65:Int)<=(c.toNat:Int))&&decide ((c.toNat:Int)<=(90:Int))):=by grind [VO]
 refine Yi ?_ ?_
 .intro h;refine Yi ?_ ?_
  .intro h2;exact .of_eq (Ab vb (show true=VO c by simp_all))
  .intro h2;exact .of_eq (Ab vb (show false=VO c by simp_all))
 .intro h;exact .of_eq (Ab vb (show false=VO c by simp_all))
abbrev ku:Bool:=GR c||EJ c
theorem xD:PC 198 [vc c] (vb (ku c)):=by
 have h1:=pR c;have h2:=pS c;rcases Bt (GR c)with e | e
 .rw[e]at h1;refine Ps Ea Tryz.func198 rfl (Nz rfl) (Xi .pure (Xi _ (Yi (h1) ?_)));exact .of_eq (Ab vb (show true=ku c by simp_all))
 .rw[e]at h1;refine Ps Ea Tryz.func198 rfl (Nz rfl) (Xi .pure (Xi _ (Yi (h1) (Xi .pure (Xi _ (Yi (h2) ?_))))));exact .of_eq (Ab vb (show EJ c=ku c by simp_all))
theorem xG:PC 265 [vc c] (vb (Mk c)):=by
 have h1:=pR c;have h2:=xK c;have h3:=pS c;have ew:Mk c=(GR c||VO c||EJ c||decide (c=95)):=rfl;rcases Bt (GR c)with e | e
 .rw[e]at h1;refine Ps Ea Tryz.func265 rfl (Nz rfl) (Xi .pure (Xi _ (Yi (h1) ?_)));exact .of_eq (Ab vb (show true=Mk c by simp_all))
 rw[e]at h1;rcases Bt (VO c)with e2 | e2
 .rw[e2]at h2;refine Ps Ea Tryz.func265 rfl (Nz rfl) (Xi .pure (Xi _ (Yi (h1) (Xi .pure (Xi _ (Yi (h2) ?_))))));exact .of_eq (Ab vb (show true=Mk c by simp_all))
 rw[e2]at h2;rcases Bt (EJ c)with e3 | e3
 .rw[e3]at h3;refine Ps Ea Tryz.func265 rfl (Nz rfl) (Xi .pure (Xi _ (Yi (h1) (Xi .pure (Xi _ (Yi (h2) (Xi .pure (Xi _ (Yi (h3) ?_)))))))));exact .of_eq (Ab vb (show true=Mk c by simp_all))
 rw[e3]at h3;refine Ps Ea Tryz.func265 rfl (Nz rfl) (Xi .pure (Xi _ (Yi (h1) (Xi .pure (Xi _ (Yi (h2) (Xi .pure (Xi _ (Yi (h3) ?_)))))))));have eb:decide (c=95)=decide ((c.toNat:Int)=95):=by
  rw[Dd,AQ,AQ];constructor
  .simp_all
  .intro h;exact UInt8.toNat_inj.1 aa1
 refine Yi ?_ ?_
 .intro h;exact .of_eq (Ab vb (show true=Mk c by simp_all))
 .intro h;exact .of_eq (Ab vb (show false=Mk c by simp_all))
theorem lx(i:Nat)(h:i<s.data.toList.length):s.data[i]?=some s.data.toList[i]:=by
 simp_all
theorem pQ(f:Nat)(q:UInt8->Bool)(hf:∀c,PC f [vc c] (vb (q c)))(hs:s.data.toList.length<4611686018427387904):PC 197 [vs s,.v (Gz f)] (vb (s.data.toList.all q)):=by
 have EQ:s.size=s.data.toList.length:=aa0
 refine Ps Ea Tryz.func197 rfl (Nz rfl) (Xi {i:Nat // i<=s.data.toList.length/\∀j (hj:j<s.data.toList.length),j<i->q s.data.toList[j]=true} (Xi (fun i=>⟨[(0,vs s),(1,.v (Gz f)),(7,vi s.size),(8,vi i.1)],[],Ad⟩) (Xi (fun i=>s.data.toList.length-i.1) (Yi (Xi ⟨0,Ao _,fun j _ h=>by omega⟩ ?_) ?_))))
 .exact⟨Z4,Tv,Fh,Tv⟩
 intro⟨i,h1,h2⟩;refine Yi ?_ ?_
 .intro h;have h:(i:Int)<(s.size:Nat):=h;have h:i<s.data.toList.length:=B0
  refine Xi s.data.toList[i] (Yi ⟨by omega,by grind⟩ ?_);have hc:=hf s.data.toList[i];refine BK (Bt (q s.data.toList[i])) (fun e=>?_) (fun e=>?_)
  .rw[e]at hc;refine Xi .pure (Xi _ (Yi (hc) (Yi (by grind [A8]) (Xi ⟨i+1,by omega,fun j hj JY=>?_⟩ ?_))))
   .grind
   .exact⟨by grind,Z4,Tv,Fh,Tv⟩
  .rw[e]at hc;refine Xi .pure (Xi _ (Yi (hc) ?_));have er:s.data.toList.all q=false:=by
    grind
   exact .of_eq (Ab vb er.symm)
 .intro h;have h:¬(i:Int)<(s.size:Nat):=h;have er:s.data.toList.all q=true:=A9.2 fun c hc=>by
   grind [List.getElem_of_mem]
  exact .of_eq (Ab vb er.symm)
end Go.Eng
namespace Go.Proofs
open Go.Shelf
def Tryz.laySplit_ren:Go.Shelf.Ren:=⟨fun | 146=>194 | 221=>263 | 268=>326 | 138=>327 | 143=>328 | 195=>361 | 197=>362 | 218=>363 | 219=>364 | 260=>381 | 217=>382 | 225=>383 | 224=>384 | 267=>385 | 266=>399 | 314=>400 | n=>n,fun | 9=>9 | 31=>144 | 3=>3 | 4=>4 | 0=>0 | 105=>422 | 21=>21 | 5=>5 | 46=>240 | 119=>444 | 139=>447 | 138=>446 | 146=>352 | 51=>299 | n=>n,fun | 1=>0 | 3=>1 | 4=>2 | n=>n⟩
theorem Tryz.laySplit:Go.Proofs.Lays.n146 Tryz.prog Tryz.laySplit_ren:={
 mixed:=by kernel_rfl
 f138:=Go.Eng.A0a Tryz.func327
 f143:=Go.Eng.A0a Tryz.func328
 f146:=Go.Eng.A0a Tryz.func194
 f195:=Go.Eng.A0a Tryz.func361
 f197:=Go.Eng.A0a Tryz.func362
 f217:=Go.Eng.A0a Tryz.func382
 f218:=Go.Eng.A0a Tryz.func363
 f219:=Go.Eng.A0a Tryz.func364
 f221:=Go.Eng.A0a Tryz.func263
 f224:=Go.Eng.A0a Tryz.func384
 f225:=Go.Eng.A0a Tryz.func383
 f260:=Go.Eng.A0a Tryz.func381
 f266:=Go.Eng.A0a Tryz.func399
 f267:=Go.Eng.A0a Tryz.func385
 f268:=Go.Eng.A0a Tryz.func326
 f314:=Go.Eng.A0a Tryz.func400
 t0:=Tryz.underlying0
 a0:=Tryz.isAgg0
 z0:=Tryz.sizeOf0
 v0:=Tryz.zeroValue0
 t3:=Tryz.underlying3
 a3:=Tryz.isAgg3
 z3:=Tryz.sizeOf3
 v3:=Tryz.zeroValue3
 t4:=Tryz.underlying4
 a4:=Tryz.isAgg4
 z4:=Tryz.sizeOf4
 v4:=Tryz.zeroValue4
 t5:=Tryz.underlying5
 a5:=Tryz.isAgg5
 z5:=Tryz.sizeOf5
 v5:=Tryz.zeroValue5
 t9:=Tryz.underlying9
 a9:=Tryz.isAgg9
 z9:=Tryz.sizeOf9
 v9:=Tryz.zeroValue9
 t21:=Tryz.underlying21
 a21:=Tryz.isAgg21
 z21:=Tryz.sizeOf21
 v21:=Tryz.zeroValue21
 t31:=Tryz.underlying144
 a31:=Tryz.isAgg144
 z31:=Tryz.sizeOf144
 v31:=Tryz.zeroValue144
 t46:=Tryz.underlying240
 a46:=Tryz.isAgg240
 z46:=Tryz.sizeOf240
 v46:=Tryz.zeroValue240
 t51:=Tryz.underlying299
 a51:=Tryz.isAgg299
 z51:=Tryz.sizeOf299
 v51:=Tryz.zeroValue299
 t105:=Tryz.underlying422
 a105:=Tryz.isAgg422
 z105:=Tryz.sizeOf422
 v105:=Tryz.zeroValue422
 t119:=Tryz.underlying444
 a119:=Tryz.isAgg444
 z119:=Tryz.sizeOf444
 t138:=Tryz.underlying446
 a138:=Tryz.isAgg446
 z138:=Tryz.sizeOf446
 v138:=Tryz.zeroValue446
 t139:=Tryz.underlying447
 a139:=Tryz.isAgg447
 z139:=Tryz.sizeOf447
 v139:=Tryz.zeroValue447
 t146:=Tryz.underlying352
 a146:=Tryz.isAgg352
 z146:=Tryz.sizeOf352
 v146:=Tryz.zeroValue352
 g1:=by kernel_rfl
 g3:=by kernel_rfl
 g4:=by kernel_rfl }
def Tryz.layLast_ren:Go.Shelf.Ren:=⟨fun | 148=>133 | 222=>201 | 223=>202 | 269=>267 | n=>n,fun | 9=>9 | 3=>3 | 4=>4 | 5=>5 | 146=>352 | 51=>299 | 46=>240 | n=>n,fun | n=>n⟩
theorem Tryz.layLast:Go.Proofs.Lays.n148 Tryz.prog Tryz.layLast_ren:={
 mixed:=by kernel_rfl
 f148:=Go.Eng.A0a Tryz.func133
 f222:=Go.Eng.A0a Tryz.func201
 f223:=Go.Eng.A0a Tryz.func202
 f269:=Go.Eng.A0a Tryz.func267
 t3:=Tryz.underlying3
 a3:=Tryz.isAgg3
 z3:=Tryz.sizeOf3
 v3:=Tryz.zeroValue3
 t4:=Tryz.underlying4
 a4:=Tryz.isAgg4
 z4:=Tryz.sizeOf4
 v4:=Tryz.zeroValue4
 t5:=Tryz.underlying5
 a5:=Tryz.isAgg5
 z5:=Tryz.sizeOf5
 v5:=Tryz.zeroValue5
 t9:=Tryz.underlying9
 a9:=Tryz.isAgg9
 z9:=Tryz.sizeOf9
 v9:=Tryz.zeroValue9
 t46:=Tryz.underlying240
 a46:=Tryz.isAgg240
 z46:=Tryz.sizeOf240
 v46:=Tryz.zeroValue240
 t51:=Tryz.underlying299
 a51:=Tryz.isAgg299
 z51:=Tryz.sizeOf299
 v51:=Tryz.zeroValue299
 t146:=Tryz.underlying352
 a146:=Tryz.isAgg352
 z146:=Tryz.sizeOf352
 v146:=Tryz.zeroValue352 }
def Tryz.layCut_ren:Go.Shelf.Ren:=⟨fun | 103=>264 | 210=>329 | 206=>335 | n=>n,fun | 9=>9 | 4=>4 | 24=>261 | 3=>3 | n=>n,fun | n=>n⟩
theorem Tryz.layCut:Go.Proofs.Lays.n103 Tryz.prog Tryz.layCut_ren:={
 mixed:=by kernel_rfl
 f103:=Go.Eng.A0a Tryz.func264
 f206:=Go.Eng.A0a Tryz.func335
 f210:=Go.Eng.A0a Tryz.func329
 t3:=Tryz.underlying3
 a3:=Tryz.isAgg3
 z3:=Tryz.sizeOf3
 v3:=Tryz.zeroValue3
 t4:=Tryz.underlying4
 a4:=Tryz.isAgg4
 z4:=Tryz.sizeOf4
 v4:=Tryz.zeroValue4
 t9:=Tryz.underlying9
 a9:=Tryz.isAgg9
 z9:=Tryz.sizeOf9
 v9:=Tryz.zeroValue9
 t24:=Tryz.underlying261
 a24:=Tryz.isAgg261
 z24:=Tryz.sizeOf261
 v24:=Tryz.zeroValue261 }
def Tryz.layCont_ren:Go.Shelf.Ren:=⟨fun | 144=>331 | 143=>328 | 219=>364 | 217=>382 | 225=>383 | 224=>384 | 267=>385 | 266=>399 | 314=>400 | n=>n,fun | 9=>9 | 4=>4 | 3=>3 | 5=>5 | 46=>240 | 146=>352 | 51=>299 | n=>n,fun | 1=>0 | n=>n⟩
theorem Tryz.layCont:Go.Proofs.Lays.n144 Tryz.prog Tryz.layCont_ren:={
 mixed:=by kernel_rfl
 f143:=Go.Eng.A0a Tryz.func328
 f144:=Go.Eng.A0a Tryz.func331
 f217:=Go.Eng.A0a Tryz.func382
 f219:=Go.Eng.A0a Tryz.func364
 f224:=Go.Eng.A0a Tryz.func384
 f225:=Go.Eng.A0a Tryz.func383
 f266:=Go.Eng.A0a Tryz.func399
 f267:=Go.Eng.A0a Tryz.func385
 f314:=Go.Eng.A0a Tryz.func400
 t3:=Tryz.underlying3
 a3:=Tryz.isAgg3
 z3:=Tryz.sizeOf3
 v3:=Tryz.zeroValue3
 t4:=Tryz.underlying4
 a4:=Tryz.isAgg4
 z4:=Tryz.sizeOf4
 v4:=Tryz.zeroValue4
 t5:=Tryz.underlying5
 a5:=Tryz.isAgg5
 z5:=Tryz.sizeOf5
 v5:=Tryz.zeroValue5
 t9:=Tryz.underlying9
 a9:=Tryz.isAgg9
 z9:=Tryz.sizeOf9
 v9:=Tryz.zeroValue9
 t46:=Tryz.underlying240
 a46:=Tryz.isAgg240
 z46:=Tryz.sizeOf240
 v46:=Tryz.zeroValue240
 t51:=Tryz.underlying299
 a51:=Tryz.isAgg299
 z51:=Tryz.sizeOf299
 v51:=Tryz.zeroValue299
 t146:=Tryz.underlying352
 a146:=Tryz.isAgg352
 z146:=Tryz.sizeOf352
 v146:=Tryz.zeroValue352
 g1:=by kernel_rfl }
end Go.Proofs
namespace Go.Eng
open Go.Proofs
variable (s p:ByteArray)
abbrev ZG:ByteArray:=⟨#[47]⟩
abbrev BN:List ByteArray:=Go.Lib.splitB ZG 0 (Go.Lib.countB s ZG) s
theorem OW:(BN s).map (·.data.toList)=Fl 47 s.data.toList:=ge s 47
abbrev Ss:List AV:=[vs s]
theorem sx(hs:Fx s):PC 194 [vs s,vs ZG] (sl Ss (BN s)):=by
 unfold Fx at hs;have h:=fM (P:=Tryz.prog) (f:=194) (args:=[vs s,vs ZG]) [.string s,.string ZG] ((BN s).map Value.string) 9 (dI 194 Tryz.func194 aa3 rfl) rfl (fun x hx=>by
  obtain⟨y,_,rfl⟩:=Ar.1 hx;rfl) (fun w hm=>by
  obtain⟨m,hm⟩:=hm;have hl:(BN s).length=Go.Lib.countB s ZG+1:=Go.Lib.splitB_all ZG aa2 0 _ s rfl;refine(Any.strings_Split Tryz.laySplit aa3 s ZG m w B0 hm aa2).mono ?_
  rintro e w' ⟨rfl,rfl⟩
  exact⟨by simp_all,rfl⟩)
 rw[BI]at h;exact h
theorem xz(hs:Fx s):PC 133 [vs s,vs p] (vi (Go.Lib.lastIndex s.data.toList p.data.toList)):=by
 unfold Fx at hs;exact KL [.string s,.string p] (.int .i64 (Go.Lib.lastIndex s.data.toList p.data.toList)) (dI 133 Tryz.func133 aa3 rfl) rfl (fun g w=>.v _ _) fun w _=>Any.strings_LastIndex Tryz.layLast s p B0 w
theorem xF:PC 264 [vs s,vs p] (.tup [vs ⟨(Go.Lib.trimPrefix s.data.toList p.data.toList).toArray⟩,vb (Go.Lib.hasPrefix s.data.toList p.data.toList)]):=by
 exact KL [.string s,.string p] _ (dI 264 Tryz.func264 aa3 rfl) rfl (fun g w=>j9 [.string ⟨(Go.Lib.trimPrefix s.data.toList p.data.toList).toArray⟩,.bool (Go.Lib.hasPrefix s.data.toList p.data.toList)]) fun w _=>Any.strings_CutPrefix Tryz.layCut s p w
theorem xL(hs:Fx s):PC 331 [vs s,vs p] (vb (Go.Lib.contains s.data.toList p.data.toList)):=by
 unfold Fx at hs;exact KL [.string s,.string p] (.bool (Go.Lib.contains s.data.toList p.data.toList)) (dI 331 Tryz.func331 aa3 rfl) rfl (fun g w=>.v _ _) fun w hm=>by
  obtain⟨m,hm⟩:=hm;exact Any.strings_Contains Tryz.layCont s p m w B0 hm
theorem cE:∀x y:List UInt8,fR x y=x.isPrefixOf y
 | [],_=>by simp[fR]
 |_::_,[]=>rfl
 |a::x,b::y=>by
  rw[fR,List.isPrefixOf_cons_cons,cE x y]
  rfl
theorem jf(x:List UInt8):∀y:List UInt8,wC x y=Go.Lib.contains y x
 | []=>by
  unfold Go.Lib.contains Go.Lib.index;cases x<;>rfl
 |b::y=>by
  rw[wC,cE,jf x y]
  grind [Go.Lib.contains,Go.Lib.index]
theorem SN:∀(l:List UInt8) (h:0<l.length),l.headD 0=l[0]
 | [],h=>by grind
 |_::_,_=>rfl
abbrev oY:ByteArray:=⟨⟨jm⟩⟩
theorem xH(hs:Fx s):PC 266 [vs s] (vb (au s.data.toList)):=by
 unfold Fx at hs;have hc:=xL oY ((⟨#[32]⟩++s)++⟨#[32]⟩) (Ak aa3);have e:Go.Lib.contains oY.data.toList ((⟨#[32]⟩++s:ByteArray)++⟨#[32]⟩).data.toList=au s.data.toList:=by
  unfold au;rw[jf]
  congr 1
 rw[e]at hc;refine Ps Ea Tryz.func266 rfl (Nz rfl) (Yi (by show(((1+s.size:Nat)):Int)<=_;omega) ?_);refine Yi (by show(((⟨#[32]⟩++s:ByteArray).size+1:Nat):Int)<=_;rw[ByteArray.size_append];show(((1+s.size)+1:Nat):Int)<=_;omega) ?_;refine Xi .pure (Xi _ (Yi (hc) ?_));exact .refl _
theorem xC(hs:Fx s):PC 196 [vs s] (vb (HX s.data.toList)):=by
 have hk:=xH s hs;have hw:=pQ s 265 Mk xG (by unfold Fx at hs;simp;omega);have EQ:s.size=s.data.toList.length:=aa0
 have en:HX s.data.toList=(!s.data.toList.isEmpty&&decide (s.data.toList.length<=32)&&GR (s.data.toList.headD 0)&&s.data.toList.all Mk&&!au s.data.toList):=rfl
 by_cases h0:s=⟨#[]⟩
 .subst h0;refine Ps Ea Tryz.func196 rfl (Nz rfl) (Yi ?_ ?_)
  .intro h;exact absurd rfl (show(⟨#[]⟩:ByteArray)≠⟨#[]⟩from h)
  .intro _;exact .refl _
 have h0' : s.data.toList≠[]:=fun e=>h0 (by
  have:s.data=#[]:=Wk
  cases s;simp_all)
 have CF:0<s.data.toList.length:=List.length_pos_iff.2 h0';have qm:s.data.toList.isEmpty=false:=by
  grind
 have hhd:s.data.toList.headD 0=s.data.toList[0]:=SN _ CF;have ue:=pR s.data.toList[0];refine Ps Ea Tryz.func196 rfl (Nz rfl) (Yi ?_ ?_)
 rotate_left
 .intro h;exact absurd h0 h
 intro _;refine Yi ?_ ?_
 rotate_left
 .intro h;exact .of_eq (Ab vb (show false=HX s.data.toList by grind))
 intro h;refine Xi s.data.toList[0] (Yi ⟨Cp _,lx s 0 CF⟩ (BK (Bt (GR s.data.toList[0])) (fun e1=>?_) (fun e1=>?_)))
 rotate_left
 .rw[e1]at ue;refine Xi .pure (Xi _ (Yi (ue) ?_));exact .of_eq (Ab vb (show false=HX s.data.toList by grind))
 rw[e1]at ue;refine Xi .pure (Xi _ (Yi (ue) (BK (Bt (s.data.toList.all Mk)) (fun e2=>?_) (fun e2=>?_))))
 rotate_left
 .rw[e2]at hw;refine Xi .pure (Xi _ (Yi (hw) ?_));exact .of_eq (Ab vb (show false=HX s.data.toList by grind))
 rw[e2]at hw;refine Xi .pure (Xi _ (Yi (hw) ?_));have ef:HX s.data.toList=!au s.data.toList:=aa1
 refine BK (Bt (au s.data.toList)) (fun e3=>?_) (fun e3=>?_)
 .rw[e3]at hk;refine Xi .pure (Xi _ (Yi (hk) ?_));exact .of_eq (Ab vb (show false=HX s.data.toList by grind))
 .rw[e3]at hk;refine Xi .pure (Xi _ (Yi (hk) ?_));exact .of_eq (Ab vb (show true=HX s.data.toList by grind))
abbrev WN:Option Int->AV
 |some n=>.tup [vi n,vb true]
 |none=>.tup [vi 0,vb false]
theorem cX{z:Int}(h0:0<=z)(h1:z<256):IntKind.u8.wrap z=z:=by
 show z % 256=z;omega
theorem UN{c:UInt8}(h:EJ c=true):48<=c.toNat/\c.toNat<=57:=by
 grind [EJ,UInt8.le_iff_toNat_le]
theorem Vh(r:List UInt8)(i:Nat)(h:i<r.length):Gp (r.take (i+1))=10*Gp (r.take i)+((r[i].toNat:Int)-48):=by
 grind [Gp,List.take_add_one]
theorem xB(hs:Fx s):PC 195 [vs s] (WN (KT s.data.toList)):=by
 unfold Fx at hs;have hc:=xF s ⟨#[118]⟩
 by_cases hp:∃r,s.data.toList=118::r
 .obtain⟨r,hr⟩:=hp;have e1:Go.Lib.hasPrefix s.data.toList (⟨#[118]⟩:ByteArray).data.toList=true:=by rw[hr];rfl
  have e2:Go.Lib.trimPrefix s.data.toList (⟨#[118]⟩:ByteArray).data.toList=r:=by grind [Go.Lib.trimPrefix]
  rw[e1,e2]at hc;have hv:KT s.data.toList=if(r.isEmpty||decide (3<r.length)||(decide (1<r.length)&&decide (r.headD 0=48))||!r.all EJ)=true then none else some (Gp r):=by rw[hr];rfl
  have hrl:r.length<s.size:=by
   have:s.size=s.data.toList.length:=aa0
   simp_all
  generalize hB:(⟨r.toArray⟩:ByteArray)=rB at hc;have hBl:rB.data.toList=r:=aa1
  have vU:rB.size=r.length:=by rw[<-hB];rfl
  have hw:=pQ rB 200 EJ pS aa1;rw[hBl]at hw;have no:∀{b:Bool},b=true->(if b=true then none else some (Gp r))=(none:Option Int):=fun h=>As h;refine Ps (Eu []) Tryz.func195 rfl (Nz rfl) (Xi .pure (Xi _ (Yi (hc) (Yi ?_ ?_))))
  .intro h
   have:r=[]:=Wk
   exact .of_eq (Ab WN (show(none:Option Int)=KT s.data.toList by simp_all))
  intro h;have CU:r≠[]:=fun e=>h Wk;have CF:0<r.length:=List.length_pos_iff.2 CU;have qm:r.isEmpty=false:=by
   simp_all
  refine Yi ?_ ?_
  .intro h2;exact .of_eq (Ab WN (show(none:Option Int)=KT s.data.toList by grind))
  intro h2;have wh:r.length<=3:=B0
  have d3:decide (3<r.length)=false:=Au B0;refine Yi ?_ ?_
  .intro h3;have yq:rB.data[(0:Int).toNat]?=some r[0]:=by
    grind
   refine Xi r[0] (Yi ⟨Cp _,yq⟩ ?_);have hh:=SN r CF;refine Yi ?_ ?_
   .intro h4
    have:r[0]=48:=UInt8.toNat_inj.1 aa1
    exact .of_eq (Ab WN (show(none:Option Int)=KT s.data.toList by grind))
   intro h4;have eo:(decide (1<r.length)&&decide (r.headD 0=48))=false:=by rw[hh,Au (show ¬r[0]=48 from fun e=>h4 Wk),Bool.and_false]
   have hv2:KT s.data.toList=if(!r.all EJ)=true then none else some (Gp r):=aa1
   refine BK (Bt (r.all EJ)) (fun e3=>?_) (fun e3=>?_)
   rotate_left
   .rw[e3]at hw;refine Xi .pure (Xi _ (Yi (hw) ?_));exact .of_eq (Ab WN (show(none:Option Int)=KT s.data.toList by simp_all))
   rw[e3]at hw;refine Xi .pure (Xi _ (Yi (hw) ?_));have hv3:KT s.data.toList=some (Gp r):=Wk
   have z0:Gp (r.take 0)=0:=rfl;refine Xi {i:Nat // i<=r.length/\0<=Gp (r.take i)/\(i=0->Gp (r.take i)<=0)/\(i<=1->Gp (r.take i)<=9)/\(i<=2->Gp (r.take i)<=99)/\Gp (r.take i)<=999} (Xi (fun i=>⟨[(0,vs rB),(5,vi (Gp (r.take i.1))),(39,vi rB.size),(40,vi i.1)],[],Ad⟩) (Xi (fun i=>r.length-i.1) (Yi (Xi ⟨0,Ao _,by omega,fun _=>by omega,fun _=>by omega,fun _=>by omega,by omega⟩ ?_) ?_)))
   .exact⟨Z4,Tv,Fh,Tv⟩
   intro⟨i,i1,i2,i3,i4,i5,i6⟩;refine Yi ?_ ?_
   .intro h;have h:(i:Int)<(rB.size:Nat):=h;have h:i<r.length:=B0
    have wb:EJ r[i]=true:=A9.1 e3 _ (Am h);have rL:=UN wb;have mD:=Vh r i h;have ug:IntKind.u8.wrap ((r[i].toNat:Int)-48)=(r[i].toNat:Int)-48:=cX B0 B0;have oC:rB.data[((i:Nat):Int).toNat]?=some r[i]:=aa1
    refine Yi (by show A8 (10*Gp (r.take i));unfold A8;omega) (Xi r[i] (Yi ⟨by omega,oC⟩ ?_));refine Yi (by show A8 (IntKind.u8.wrap ((r[i].toNat:Int)-48));rw[ug];unfold A8;omega) ?_;refine Yi (by show A8 (10*Gp (r.take i)+IntKind.u8.wrap ((r[i].toNat:Int)-48));rw[ug];unfold A8;omega) ?_;refine Yi (Ii i B0) ?_;have e5:vi (10*Gp (r.take i)+IntKind.u8.wrap ((r[i].toNat:Int)-48))=vi (Gp (r.take (i+1))):=Wk
    refine Xi ⟨i+1,by omega,by omega,fun _=>by omega,fun _=>by omega,fun _=>by omega,by omega⟩ ?_;exact⟨Dl r.length i B0,⟨Zr,⟨e5,rfl⟩,Zr,Zr,Tv⟩,Tv,Fh,Tv⟩
   .intro h;have h:¬(i:Int)<(rB.size:Nat):=h;have e6:AV.tup [vi (Gp (r.take i)),vb true]=WN (KT s.data.toList):=aa1
    exact .of_eq e6
  .intro h3;have h3:¬(1:Int)<((rB.size:Nat):Int):=h3;have eo:(decide (1<r.length)&&decide (r.headD 0=48))=false:=aa1
   have hv2:KT s.data.toList=if(!r.all EJ)=true then none else some (Gp r):=aa1
   refine BK (Bt (r.all EJ)) (fun e3=>?_) (fun e3=>?_)
   rotate_left
   .rw[e3]at hw;refine Xi .pure (Xi _ (Yi (hw) ?_));exact .of_eq (Ab WN (show(none:Option Int)=KT s.data.toList by simp_all))
   rw[e3]at hw;refine Xi .pure (Xi _ (Yi (hw) ?_));have hv3:KT s.data.toList=some (Gp r):=Wk
   have z0:Gp (r.take 0)=0:=rfl;refine Xi {i:Nat // i<=r.length/\0<=Gp (r.take i)/\(i=0->Gp (r.take i)<=0)/\(i<=1->Gp (r.take i)<=9)/\(i<=2->Gp (r.take i)<=99)/\Gp (r.take i)<=999} (Xi (fun i=>⟨[(0,vs rB),(5,vi (Gp (r.take i.1))),(39,vi rB.size),(40,vi i.1)],[],Ad⟩) (Xi (fun i=>r.length-i.1) (Yi (Xi ⟨0,Ao _,by omega,fun _=>by omega,fun _=>by omega,fun _=>by omega,by omega⟩ ?_) ?_)))
   .exact⟨Z4,Tv,Fh,Tv⟩
   intro⟨i,i1,i2,i3,i4,i5,i6⟩;refine Yi ?_ ?_
   .intro h;have h:(i:Int)<(rB.size:Nat):=h;have h:i<r.length:=B0
    have wb:EJ r[i]=true:=A9.1 e3 _ (Am h);have rL:=UN wb;have mD:=Vh r i h;have ug:IntKind.u8.wrap ((r[i].toNat:Int)-48)=(r[i].toNat:Int)-48:=cX B0 B0;have oC:rB.data[((i:Nat):Int).toNat]?=some r[i]:=aa1
    refine Yi (by show A8 (10*Gp (r.take i));unfold A8;omega) (Xi r[i] (Yi ⟨by omega,oC⟩ ?_));refine Yi (by show A8 (IntKind.u8.wrap ((r[i].toNat:Int)-48));rw[ug];unfold A8;omega) ?_;refine Yi (by show A8 (10*Gp (r.take i)+IntKind.u8.wrap ((r[i].toNat:Int)-48));rw[ug];unfold A8;omega) ?_;refine Yi (Ii i B0) ?_;have e5:vi (10*Gp (r.take i)+IntKind.u8.wrap ((r[i].toNat:Int)-48))=vi (Gp (r.take (i+1))):=Wk
    refine Xi ⟨i+1,by omega,by omega,fun _=>by omega,fun _=>by omega,fun _=>by omega,by omega⟩ ?_;exact⟨Dl r.length i B0,⟨Zr,⟨e5,rfl⟩,Zr,Zr,Tv⟩,Tv,Fh,Tv⟩
   .intro h;have h:¬(i:Int)<(rB.size:Nat):=h;have e6:AV.tup [vi (Gp (r.take i)),vb true]=WN (KT s.data.toList):=aa1
    exact .of_eq e6
 .have e1:Go.Lib.hasPrefix s.data.toList (⟨#[118]⟩:ByteArray).data.toList=false:=by
   cases hl:s.data.toList with
   |nil=>rfl
   |cons a l=>
    have:a≠118:=fun e=>hp ⟨l,by simp_all⟩
    show(List.isPrefixOf [118] (a::l))=false
    grind
  have hv:KT s.data.toList=none:=by
   cases hl:s.data.toList with
   |nil=>rfl
   |cons a l=>
    have:a≠118:=fun e=>hp ⟨l,by simp_all⟩
    show(if a=118 then _ else none)=none;simp_all
  rw[e1]at hc;refine Ps Ea Tryz.func195 rfl (Nz rfl) (Xi .pure (Xi _ (Yi (hc) ?_)));exact .of_eq (Ab WN hv.symm)
abbrev ay:Option Int->AV
 |some n=>.tup [vi n,vi 0]
 |none=>.tup [vi 0,vi 4]
theorem TY(c:UInt8):∀(s x:List UInt8),x∈Fl c s->x.length<=s.length
 | [],x,h=>by
  grind [Fl]
 |b::r,x,h=>by
  have ih:=TY c r
  grind [Fl]
theorem jP{p x:ByteArray}(hp:Fx p)(hx:x∈BN p):Fx x:=by
 have h:x.data.toList∈Fl 47 p.data.toList:=by grind [OW]
 have:=TY 47 _ _ h
 unfold Fx at *
 have e1:x.size=x.data.toList.length:=aa0
 have e2:p.size=p.data.toList.length:=aa0
 omega
theorem fK:(BN p).length=(Fl 47 p.data.toList).length:=by grind [OW]
theorem fL:0<(BN p).length:=by
 rw[show(BN p).length=Go.Lib.countB p ZG+1 from Go.Lib.splitB_all ZG aa2 0 _ p rfl];omega
theorem fJ:(BN p).length<=p.size+1:=by
 rw[show(BN p).length=Go.Lib.countB p ZG+1 from Go.Lib.splitB_all ZG aa2 0 _ p rfl]
 have:=Go.Lib.countB_le ZG aa2 p.size p (Ai _);omega
theorem aI(h:(BN p).length-1<(BN p).length):(Fl 47 p.data.toList).getLastD []=((BN p)[(BN p).length-1]).data.toList:=by
 grind [OW]
theorem fI:(Fl 47 p.data.toList).all Nc=(BN p).all fun x=>Nc x.data.toList:=by
 grind [OW]
theorem so(hp:Fx p):PC 131 [vs p] (ay (BF p)):=by
 have wo:=fJ p;have t6:=fL p;have qA:(BN p).length-1<(BN p).length:=B0
 have EQ:p.size=p.data.toList.length:=aa0
 have hfp:∀{x},x∈BN p->Fx x:=fun h=>jP hp h;unfold Fx at hp;have bO:((BN p).map Ss)[((((BN p).map Ss).length:Int)-1).toNat]?=some (Ss (BN p)[(BN p).length-1]):=by
  rw[Lm,show(((BN p).length:Int)-1).toNat=(BN p).length-1 by omega];grind
 have hv:=xB (BN p)[(BN p).length-1] (hfp (Am qA));have em:BF p=match KT ((BN p)[(BN p).length-1]).data.toList with
  |none=>none
  |some n=>if(decide (64<p.data.toList.length)||decide ((BN p).length<2))=true then none else if((BN p).all fun x=>Nc x.data.toList)=true then some n else none:=by
  unfold BF az;rw[aI p qA,fI,<-fK];cases KT ((BN p)[(BN p).length-1]).data.toList<;>grind [KT]
 cases hve:KT ((BN p)[(BN p).length-1]).data.toList with
 |none=>
  rw[hve]at hv em;refine Ps (Eu []) Tryz.func131 rfl (Nz rfl) (Xi .pure (Xi _ (Yi (sx p hp) (Yi (by show A8 ((((BN p).map Ss).length:Int)-1);unfold A8;rw[Lm];omega) ?_))));refine Xi (Ss (BN p)[(BN p).length-1]) (Yi (Yi aa1 bO) (Yi rfl (Xi .pure (Xi _ (Yi (hv) ?_)))));exact .of_eq (Ab ay em.symm)
 |some n=>
  rw[hve]at hv em;refine Ps (Eu []) Tryz.func131 rfl (Nz rfl) (Xi .pure (Xi _ (Yi (sx p hp) (Yi (by show A8 ((((BN p).map Ss).length:Int)-1);unfold A8;rw[Lm];omega) ?_))));refine Xi (Ss (BN p)[(BN p).length-1]) (Yi (Yi aa1 bO) (Yi rfl (Xi .pure (Xi _ (Yi (hv) (Yi ?_ ?_))))))
  .intro h;exact .of_eq (Ab ay (show(none:Option Int)=BF p by grind))
  intro h;have d1:decide (64<p.data.toList.length)=false:=Au B0;refine Yi ?_ ?_
  .intro h2;rw[Lm]at h2;exact .of_eq (Ab ay (show(none:Option Int)=BF p by grind))
  intro h2;have d2:decide ((BN p).length<2)=false:=Au (by rw[Lm]at h2;omega);have em2:BF p=if((BN p).all fun x=>Nc x.data.toList)=true then some n else none:=aa1
  refine Xi {i:Nat // i<=(BN p).length/\∀j (hj:j<(BN p).length),j<i->Nc ((BN p)[j]).data.toList=true} (Xi (fun i=>⟨[(5,vi n),(33,sl Ss (BN p)),(34,vi ((BN p).map Ss).length),(35,vi i.1)],[],Ad⟩) (Xi (fun i=>(BN p).length-i.1) (Yi (Xi ⟨0,Ao _,fun j _ h=>by omega⟩ ?_) ?_)))
  .exact⟨Z4,Tv,Fh,Tv⟩
  intro⟨i,i1,i2⟩;refine Yi ?_ ?_
  .intro h;have h:i<(BN p).length:=by simpa using h
   have hg:(BN p)[i]?=some (BN p)[i]:=Ge h;refine Xi (Ss (BN p)[i]) (Yi (Yi B0 (by simp[hg])) (Yi rfl ?_));have hfi:=hfp (Am h);have hn:=xC (BN p)[i] hfi;have ha:=pQ (BN p)[i] 198 ku xD (by unfold Fx at hfi;have e1:(BN p)[i].size=(BN p)[i].data.toList.length:=aa0;omega);have no:Nc ((BN p)[i]).data.toList=false->(none:Option Int)=BF p:=fun e=>by
    rw[em2,AB];intro GP
    have:=A9.1 GP _ (Am h)
    grind
   refine BK (Bt (HX ((BN p)[i]).data.toList)) (fun e1=>?_) (fun e1=>?_)
   rotate_left
   .rw[e1]at hn;refine Xi .pure (Xi _ (Yi (hn) ?_));exact .of_eq (Ab ay (no (by unfold Nc;grind)))
   rw[e1]at hn;refine Xi .pure (Xi _ (Yi (hn) (BK (Bt (((BN p)[i]).data.toList.all ku)) (fun e2=>?_) (fun e2=>?_))))
   rotate_left
   .rw[e2]at ha;refine Xi .pure (Xi _ (Yi (ha) ?_));exact .of_eq (Ab ay (no (by unfold Nc;grind)))
   rw[e2]at ha;refine Xi .pure (Xi _ (Yi (ha) (Yi (Ii i B0) (Xi ⟨i+1,by omega,fun j hj JY=>?_⟩ ?_))))
   .rcases BJ j i with z | z
    .exact i2 j hj z
    .have:j=i:=B0
     subst this;unfold Nc;grind
   .exact⟨by show(BN p).length-(i+1)<(BN p).length-i;omega,Z4,Tv,Fh,Tv⟩
  .intro h;have h:¬i<(BN p).length:=by simpa using h
   have e:some n=BF p:=by
    rw[em2,As];exact A9.2 fun x hx=>by
     obtain⟨j,hj,rfl⟩:=List.getElem_of_mem hx;exact i2 j hj B0
   exact .of_eq (Ab ay e)
theorem xy(hp:Fx p):PC 132 [vs p] (vb (BF p).isSome):=by
 have hc:=so p hp;cases h:BF p with
 |none=>
  rw[h]at hc;refine Ps Ea Tryz.func132 rfl (Nz rfl) (Xi .pure (Xi _ (Yi (hc) (Yi ?_ ?_))))
  .intro h;exact absurd (show(4:Int)=0 from h) aa2
  .intro _;exact .refl _
 |some n=>
  rw[h]at hc;refine Ps Ea Tryz.func132 rfl (Nz rfl) (Xi .pure (Xi _ (Yi (hc) (Yi ?_ ?_))))
  .intro _;exact .refl _
  .intro h;exact absurd rfl h
theorem TZ(c:UInt8):∀s:List UInt8,2<=(Fl c s).length->c∈s
 | [],h=>by grind [Fl]
 |b::r,h=>by
  rw[Fl]at h
  by_cases e:b=c
  .simp_all
  .rw[AB e]at h;refine Ah _ (TZ c r ?_)
   grind
theorem jn{p:ByteArray}{m:Int}(h:BF p=some m):0<=Go.Lib.lastIndex p.data.toList [47]/\Go.Lib.lastIndex p.data.toList [47]<=p.size:=by
 have h2:2<=(Fl 47 p.data.toList).length:=by
  grind [BF,az]
 have hm:=TZ 47 _ h2;obtain⟨i,hi,e⟩:=List.getElem_of_mem hm;have EQ:p.size=p.data.toList.length:=aa0
 unfold Go.Lib.lastIndex;rw[As aa1];have Ae0:Go.Lib.occAt p.data.toList [47] i=true:=by
  grind [Go.Lib.occAt,List.drop_eq_getElem_cons]
 grind [Go.Lib.lastOcc_spec]
abbrev jp:ByteArray:=p.extract 0 (Go.Lib.lastIndex p.data.toList [47]).toNat
theorem Uh:Ub jp:=by
 intro p hp;have hc:=so p hp;have hi:=xy p hp;unfold o0;cases h:BF p with
 |none=>
  rw[h]at hc hi;refine Ps Ea Tryz.func66 rfl (Nz rfl) (Xi .pure (Xi _ (Yi (hc) (Xi .pure (Xi _ (Yi (hi) ?_))))));exact .refl _
 |some n=>
  rw[h]at hc hi;obtain⟨l1,l2⟩:=jn h;have hl:PC 133 [vs p,vs ZG] (vi (Go.Lib.lastIndex p.data.toList [47])):=xz p ZG hp;refine Ps Ea Tryz.func66 rfl (Nz rfl) (Xi .pure (Xi _ (Yi (hc) (Xi .pure (Xi _ (Yi (hi) (Yi ?_ ?_)))))))
  .intro h;exact absurd rfl h
  intro _;refine Xi .pure (Xi _ (Yi (hl) (Yi ⟨Cp _,l1,l2⟩ ?_)));exact .refl _
end Go.Eng
