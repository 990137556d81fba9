/- Lemmas 17. -/
import Derived.Test.YtpgfieopnnkpfaaGreatDoorQA16
import Derived.Shelf.Strings.SplitShaped
import Derived.Shelf.Strings.LastIndexAll
import Derived.Shelf.Strings.Search3
import Derived.Shelf.Strings.Cut
import Derived.Shelf.Strings.Prefix
import Derived.Shelf.Strconv.AtoiAll
import Derived.Shelf.Small.Wraps
import Derived.Ground.NamesProg
import Derived.Lib.LastIndexLaws
namespace Go.Eng
open Go.Proofs
variable (r:Rl)(a c:UInt8)(s:ByteArray)(n:Nat)
theorem rG{a b:Rl}(h:a.path=b.path/\a.ver.a=b.ver.a/\a.ver.b=b.ver.b/\a.ver.c=b.ver.c):Cn a=Cn b:=by
 unfold Cn;obtain⟨h1,h2,h3,h4⟩:=h
 have:a.ver=b.ver:=by
  cases ha:a.ver<;>simp_all
 simp_all
theorem UZ{a b:Rl}(h:Cn a=Cn b):a.path=b.path/\a.ver.a=b.ver.a/\a.ver.b=b.ver.b/\a.ver.c=b.ver.c:=by
 grind [Cn]
abbrev VY(x:List Rl):Nat->Option Rl
 |0=>none
 |k+1=>x[k]?
theorem yD{nm:ByteArray->ByteArray}(hL:TS nm)(x:List Rl)(ifs:List (List AV))(hs:∀r∈x,F3 r):PC 115 [.agg (Ic x ifs)] (vi (AD x)):=by
 refine Ps (Dc []) Tryz.func115 rfl (Nz rfl) (Yi ?_ ?_)
 .intro h;exact .of_eq (Aa vi (show(7:Int)=AD x by grind [AD]))
 intro h;have hl:x.length<=256:=by grind
 have M8:AD x=BS none x:=by grind [AD]
 refine Xi {i:Nat // i<=x.length/\BS none x=BS (VY x i) (x.drop i)} (Xi (fun i=>⟨[(1,.ref 1 0),(12,sl Ak x),(13,vi (x.map Ak).length),(14,vi i.1)],[(1,.cells (Ic x ifs))],Af⟩) (Xi (fun i=>x.length-i.1) (Yi (Xi ⟨0,Ao _,rfl⟩ ?_) ?_)))
 .exact⟨Z4,Z1,Fh,Tv⟩
 intro⟨i,h1,h2⟩;refine Yi ?_ ?_
 .intro h;have h:i<x.length:=by simp_all
  have hg:x[i]?=some x[i]:=Ge h;have hd:x.drop i=x[i]::x.drop (i+1):=Bd h;have hc:=xp hL x[i] (hs x[i] (Ah h));have Ja:BS none x=if Cz x[i]≠0 then Cz x[i]else match VY x i with
   |none=>BS (some x[i]) (x.drop (i+1))
   |some b=>if Cn b=Cn x[i]then 5 else if 0<If b x[i]then 1 else BS (some x[i]) (x.drop (i+1)):=by rw[h2,hd];rfl
  have pI:VY x (i+1)=some x[i]:=Ge h;refine Xi (Ak x[i]) (Yi (Yi aa0 (by simp[hg])) (Yi rfl ?_));refine Yi (Nz rfl) (Yi (Nz rfl) (yN (Xi .pure (Xi _ (Yi (hc) (Yi ?_ ?_))))))
  .intro h4;exact .of_eq (Aa vi (show Cz x[i]=AD x by omega))
  intro h4;refine Yi ?_ ?_
  .intro h5;have h5:(i:Int)=0:=h5;have h6:i=0:=by omega
   refine Yi (Ii i aa0) (Xi ⟨i+1,by omega,by grind⟩ ?_);exact⟨Dl x.length i aa0,Z4,Z1,Fh,Tv⟩
  intro h5;have h5:¬(i:Int)=0:=h5;have qX:i-1<x.length:=by omega
  have hb:VY x i=some x[i-1]:=by
   grind
  have zN:BS none x=if Cn x[i-1]=Cn x[i]then 5 else if 0<If x[i-1] x[i]then 1 else BS (some x[i]) (x.drop (i+1)):=by grind
  refine Yi (by grind [Al]) ?_;have jQ:(x.map Ak)[((i:Int)-1).toNat]?=some (Ak x[i-1]):=by rw[show((i:Int)-1).toNat=i-1 by omega];grind
  refine Xi (Ak x[i-1]) (Yi (Yi aa0 jQ) (Yi rfl (Yi (Nz rfl) (yN (yN (Xi _ (Yi (qe x[i-1]) (yN (Xi _ (Yi (qe x[i]) (Yi ?_ ?_)))))))))))
  .intro h6;refine Yi aa3 ?_;have e:(5:Int)=AD x:=by rw[M8,zN,AE (rG ⟨h6.1,h6.2.1,h6.2.2.1,h6.2.2.2.1⟩)]
   exact .of_eq (Aa vi e)
  intro h6;refine Yi aa3 ?_;have h7:¬Cn x[i-1]=Cn x[i]:=fun e=>by
   have e:=UZ e;exact h6 ⟨e.1,e.2.1,e.2.2.1,e.2.2.2,trivial⟩
  refine Yi (Nz rfl) (yN (Xi .pure (Xi _ (Yi (xq x[i-1] x[i]) (Yi ?_ ?_)))))
  .intro h8;have e:(1:Int)=AD x:=by grind
   exact .of_eq (Aa vi e)
  .intro h8;refine Yi (Ii i aa0) (Xi ⟨i+1,by omega,by grind⟩ ?_);exact⟨Dl x.length i aa0,Z4,Z1,Fh,Tv⟩
 .intro h;have h:¬i<x.length:=by simp_all
  have e:(0:Int)=AD x:=by rw[M8,h2,Hj aa0];rfl
  exact .of_eq (Aa vi e)
abbrev w8(a:AV):List AV:=[vs r.path,vi r.ver.a,vi r.ver.b,vi r.ver.c,a,vs r.arch,vs r.ifc,vs r.cert,vb r.yanked]
abbrev Aaz:Nm:=⟨[],[],[],[],[],[],[],[(9,(1,4,900,2))],[],[],[]⟩
theorem c98(hr:r.reqs.length<=1000)(hs:∀q∈r.reqs,BB q.set):PC 213 [.agg (Ak r)] (.agg (Ak r)):=by
 refine Ps Aaz Tryz.func213 rfl (Nz rfl) (yN (Xi {i:Nat // i<=r.reqs.length} (Xi (fun i=>⟨[(1,.ref 1 0),(2,.ref 2 0),(9,sl Ad r.reqs),(10,vi (r.reqs.map Ad).length),(11,vi i.1)],[(1,.cells (w8 r (.slice (.id 900 2) ((r.reqs.take i.1).map Ad)))),(2,.cells Xn),(900,.tok 2 ((r.reqs.take i.1).map Ad).length)],Af⟩) (Xi (fun i=>r.reqs.length-i.1) (Yi (Xi ⟨0,Ao _⟩ ?_) ?_)))))
 .exact⟨Z5,Z3,Fh,Tv⟩
 intro⟨i,h1⟩;refine Yi ?_ ?_
 .intro h;have h:i<r.reqs.length:=by simp_all
  have hg:r.reqs[i]?=some r.reqs[i]:=Ge h;refine Xi (Ad r.reqs[i]) (Yi (Yi aa0 (by simp_all)) (Yi rfl ?_));have hq:=hs r.reqs[i] (Ah h);refine Yi (Nz rfl) (yN (Xi .pure (Xi _ (Yi (xF r.reqs[i].set hq) (yN (yN ?_))))));have CM:AZ 2 [Ad r.reqs[i]]/\((r.reqs.take i).map Ad).length=((r.reqs.take i).map Ad).length/\(((r.reqs.take i).map Ad).length+[Ad r.reqs[i]].length)*40<=140737488355328/\((r.reqs.take i).map Ad).length+[Ad r.reqs[i]].length<=9223372036854775807:=
   ⟨⟨rfl,trivial⟩,rfl,by grind,by grind⟩
  refine Yi CM (yN (Yi (by grind [Al]) (Xi ⟨i+1,by omega⟩ ?_)));have et:(r.reqs.take (i+1)).map Ad=(r.reqs.take i).map Ad++[Ad r.reqs[i]]:=by rw[B9,hg,AB];rfl
  have e1:HO.cells (w8 r (.slice (.id 900 2) ((r.reqs.take i).map Ad++[Ad r.reqs[i]])))=.cells (w8 r (.slice (.id 900 2) ((r.reqs.take (i+1)).map Ad))):=by rw[et]
  have e2:HO.tok 2 (((r.reqs.take i).map Ad).length+[Ad r.reqs[i]].length)=.tok 2 ((r.reqs.take (i+1)).map Ad).length:=by simp_all
  exact⟨by grind,Z5,⟨⟨e1,rfl⟩,Zr,⟨e2,rfl⟩,Tv⟩,Fh,Tv⟩
 .intro h;have h:¬i<r.reqs.length:=by simp_all
  refine Yi (Nz rfl) (Yi (Nz rfl) (yN ?_));have e:AV.agg (w8 r (.slice .none ((r.reqs.take i).map Ad)))=.agg (Ak r):=by grind
  exact .of_eq e
abbrev vc:AV:=.v (.int .u8 c.toNat)
theorem VA(h:n<256):decide (UInt8.ofNat n<=a)=decide ((n:Int)<=(a.toNat:Int)):=by
 grind [UInt8.le_iff_toNat_le,UInt8.toNat_ofNat']
theorem Vz(h:n<256):decide (a<=UInt8.ofNat n)=decide ((a.toNat:Int)<=(n:Int)):=by
 grind [UInt8.le_iff_toNat_le,UInt8.toNat_ofNat']
theorem qr:PC 128 [vc c] (vb (Eg c)):=by
 refine Ps Cu Tryz.func128 rfl (Nz rfl) ?_;have e1:decide ((97:UInt8)<=c)=decide ((97:Int)<=(c.toNat:Int)):=VA c 97 aa2;have e2:decide (c<=(122:UInt8))=decide ((c.toNat:Int)<=(122:Int)):=Vz c 122 aa2;have es:Eg c=(decide ((97:Int)<=(c.toNat:Int))&&decide ((c.toNat:Int)<=(122:Int))):=by grind [Eg]
 refine Yi ?_ ?_
 .intro h;refine Yi ?_ ?_
  .intro h2;exact .of_eq (Aa vb (show true=Eg c by simp_all))
  .intro h2;exact .of_eq (Aa vb (show false=Eg c by simp_all))
 .intro h;exact .of_eq (Aa vb (show false=Eg c by simp_all))
theorem qt:PC 129 [vc c] (vb (BZ c)):=by
 refine Ps Cu Tryz.func129 rfl (Nz rfl) ?_;have e1:decide ((48:UInt8)<=c)=decide ((48:Int)<=(c.toNat:Int)):=VA c 48 aa2;have e2:decide (c<=(57:UInt8))=decide ((c.toNat:Int)<=(57:Int)):=Vz c 57 aa2;have es:BZ c=(decide ((48:Int)<=(c.toNat:Int))&&decide ((c.toNat:Int)<=(57:Int))):=by grind [BZ]
 refine Yi ?_ ?_
 .intro h;refine Yi ?_ ?_
  .intro h2;exact .of_eq (Aa vb (show true=BZ c by simp_all))
  .intro h2;exact .of_eq (Aa vb (show false=BZ c by simp_all))
 .intro h;exact .of_eq (Aa vb (show false=BZ c by simp_all))
theorem yo:PC 266 [vc c] (vb (LA c)):=by
 refine Ps Cu Tryz.func266 rfl (Nz rfl) ?_;have e1:decide ((65:UInt8)<=c)=decide ((65:Int)<=(c.toNat:Int)):=VA c 65 aa2;have e2:decide (c<=(90:UInt8))=decide ((c.toNat:Int)<=(90:Int)):=Vz c 90 aa2;have es:LA c=(decide ((65:Int)<=(c.toNat:Int))&&decide ((c.toNat:Int)<=(90:Int))):=by grind [LA]
 refine Yi ?_ ?_
 .intro h;refine Yi ?_ ?_
  .intro h2;exact .of_eq (Aa vb (show true=LA c by simp_all))
  .intro h2;exact .of_eq (Aa vb (show false=LA c by simp_all))
 .intro h;exact .of_eq (Aa vb (show false=LA c by simp_all))
abbrev Tx:Bool:=Eg c||BZ c
theorem yc:PC 127 [vc c] (vb (Tx c)):=by
 have h1:=qr c;have h2:=qt c;rcases Bt (Eg c)with e | e
 .rw[e]at h1;refine Ps Cu Tryz.func127 rfl (Nz rfl) (Xi .pure (Xi _ (Yi (h1) ?_)));exact .of_eq (Aa vb (show true=Tx c by simp_all))
 .rw[e]at h1;refine Ps Cu Tryz.func127 rfl (Nz rfl) (Xi .pure (Xi _ (Yi (h1) (Xi .pure (Xi _ (Yi (h2) ?_))))));exact .of_eq (Aa vb (show BZ c=Tx c by simp_all))
theorem yi:PC 199 [vc c] (vb (Fu c)):=by
 have h1:=qr c;have h2:=yo c;have h3:=qt c;have ew:Fu c=(Eg c||LA c||BZ c||decide (c=95)):=rfl;rcases Bt (Eg c)with e | e
 .rw[e]at h1;refine Ps Cu Tryz.func199 rfl (Nz rfl) (Xi .pure (Xi _ (Yi (h1) ?_)));exact .of_eq (Aa vb (show true=Fu c by simp_all))
 rw[e]at h1;rcases Bt (LA c)with e2 | e2
 .rw[e2]at h2;refine Ps Cu Tryz.func199 rfl (Nz rfl) (Xi .pure (Xi _ (Yi (h1) (Xi .pure (Xi _ (Yi (h2) ?_))))));exact .of_eq (Aa vb (show true=Fu c by simp_all))
 rw[e2]at h2;rcases Bt (BZ c)with e3 | e3
 .rw[e3]at h3;refine Ps Cu Tryz.func199 rfl (Nz rfl) (Xi .pure (Xi _ (Yi (h1) (Xi .pure (Xi _ (Yi (h2) (Xi .pure (Xi _ (Yi (h3) ?_)))))))));exact .of_eq (Aa vb (show true=Fu c by simp_all))
 rw[e3]at h3;refine Ps Cu Tryz.func199 rfl (Nz rfl) (Xi .pure (Xi _ (Yi (h1) (Xi .pure (Xi _ (Yi (h2) (Xi .pure (Xi _ (Yi (h3) ?_)))))))));have eb:decide (c=95)=decide ((c.toNat:Int)=95):=by
  rw[Gn,Bg,Bg];constructor
  .simp_all
  .intro h;exact Hr.1 (by grind)
 refine Yi ?_ ?_
 .intro h;exact .of_eq (Aa vb (show true=Fu c by simp_all))
 .intro h;exact .of_eq (Aa vb (show false=Fu c by simp_all))
theorem my(i:Nat)(h:i<s.data.toList.length):s.data[i]?=some s.data.toList[i]:=by
 simp_all
theorem qq(f:Nat)(q:UInt8->Bool)(hf:∀c,PC f [vc c] (vb (q c)))(hs:s.data.toList.length<4611686018427387904):PC 126 [vs s,.v (Hc f)] (vb (s.data.toList.all q)):=by
 have FM:s.size=s.data.toList.length:=by simp
 refine Ps Cu Tryz.func126 rfl (Nz rfl) (Xi {i:Nat // i<=s.data.toList.length/\∀j (hj:j<s.data.toList.length),j<i->q s.data.toList[j]=true} (Xi (fun i=>⟨[(0,vs s),(1,.v (Hc f)),(7,vi s.size),(8,vi i.1)],[],Af⟩) (Xi (fun i=>s.data.toList.length-i.1) (Yi (Xi ⟨0,Ao _,fun j _ h=>by omega⟩ ?_) ?_))))
 .exact⟨Z4,Tv,Fh,Tv⟩
 intro⟨i,h1,h2⟩;refine Yi ?_ ?_
 .intro h;have h:(i:Int)<(s.size:Nat):=h;have h:i<s.data.toList.length:=by omega
  refine Xi s.data.toList[i] (Yi ⟨by omega,by grind⟩ ?_);have hc:=hf s.data.toList[i];refine AG (Bt (q s.data.toList[i])) (fun e=>?_) (fun e=>?_)
  .rw[e]at hc;refine Xi .pure (Xi _ (Yi (hc) (Yi (by grind [Al]) (Xi ⟨i+1,by omega,fun j hj He=>?_⟩ ?_))))
   .grind
   .exact⟨by grind,Z4,Tv,Fh,Tv⟩
  .rw[e]at hc;refine Xi .pure (Xi _ (Yi (hc) ?_));have er:s.data.toList.all q=false:=by
    grind
   exact .of_eq (Aa vb er.symm)
 .intro h;have h:¬(i:Int)<(s.size:Nat):=h;have er:s.data.toList.all q=true:=BI.2 fun c hc=>by
   grind [List.getElem_of_mem]
  exact .of_eq (Aa vb er.symm)
end Go.Eng
namespace Go.Proofs
open Go.Shelf
def Tryz.laySplit_ren:Go.Shelf.Ren:=⟨fun | 146=>123 | 221=>197 | 268=>263 | 138=>264 | 143=>87 | 195=>318 | 197=>319 | 218=>320 | 219=>153 | 260=>342 | 217=>218 | 225=>219 | 224=>220 | 267=>221 | 266=>277 | 314=>278 | n=>n,fun | 9=>9 | 31=>45 | 3=>3 | 4=>4 | 0=>0 | 105=>318 | 21=>21 | 5=>5 | 46=>159 | 119=>335 | 139=>338 | 138=>337 | 146=>197 | 51=>196 | n=>n,fun | 1=>0 | 3=>6 | 4=>7 | n=>n⟩
theorem Tryz.laySplit:Go.Proofs.Lays.n146 Tryz.prog Tryz.laySplit_ren:={
 mixed:=by kernel_rfl
 f138:=Go.Eng.A0a Tryz.func264
 f143:=Go.Eng.A0a Tryz.func87
 f146:=Go.Eng.A0a Tryz.func123
 f195:=Go.Eng.A0a Tryz.func318
 f197:=Go.Eng.A0a Tryz.func319
 f217:=Go.Eng.A0a Tryz.func218
 f218:=Go.Eng.A0a Tryz.func320
 f219:=Go.Eng.A0a Tryz.func153
 f221:=Go.Eng.A0a Tryz.func197
 f224:=Go.Eng.A0a Tryz.func220
 f225:=Go.Eng.A0a Tryz.func219
 f260:=Go.Eng.A0a Tryz.func342
 f266:=Go.Eng.A0a Tryz.func277
 f267:=Go.Eng.A0a Tryz.func221
 f268:=Go.Eng.A0a Tryz.func263
 f314:=Go.Eng.A0a Tryz.func278
 t0:=Tryz.underlying0
 a0:=Tryz.isAgg0
 z0:=Tryz.sizeOf0
 v0:=Tryz.zeroValue0
 t3:=Tryz.underlying3
 a3:=Tryz.isAgg3
 z3:=Tryz.sizeOf3
 v3:=Tryz.zeroValue3
 t4:=Tryz.underlying4
 a4:=Tryz.isAgg4
 z4:=Tryz.sizeOf4
 v4:=Tryz.zeroValue4
 t5:=Tryz.underlying5
 a5:=Tryz.isAgg5
 z5:=Tryz.sizeOf5
 v5:=Tryz.zeroValue5
 t9:=Tryz.underlying9
 a9:=Tryz.isAgg9
 z9:=Tryz.sizeOf9
 v9:=Tryz.zeroValue9
 t21:=Tryz.underlying21
 a21:=Tryz.isAgg21
 z21:=Tryz.sizeOf21
 v21:=Tryz.zeroValue21
 t31:=Tryz.underlying45
 a31:=Tryz.isAgg45
 z31:=Tryz.sizeOf45
 v31:=Tryz.zeroValue45
 t46:=Tryz.underlying159
 a46:=Tryz.isAgg159
 z46:=Tryz.sizeOf159
 v46:=Tryz.zeroValue159
 t51:=Tryz.underlying196
 a51:=Tryz.isAgg196
 z51:=Tryz.sizeOf196
 v51:=Tryz.zeroValue196
 t105:=Tryz.underlying318
 a105:=Tryz.isAgg318
 z105:=Tryz.sizeOf318
 v105:=Tryz.zeroValue318
 t119:=Tryz.underlying335
 a119:=Tryz.isAgg335
 z119:=Tryz.sizeOf335
 t138:=Tryz.underlying337
 a138:=Tryz.isAgg337
 z138:=Tryz.sizeOf337
 v138:=Tryz.zeroValue337
 t139:=Tryz.underlying338
 a139:=Tryz.isAgg338
 z139:=Tryz.sizeOf338
 v139:=Tryz.zeroValue338
 t146:=Tryz.underlying197
 a146:=Tryz.isAgg197
 z146:=Tryz.sizeOf197
 v146:=Tryz.zeroValue197
 g1:=by kernel_rfl
 g3:=by kernel_rfl
 g4:=by kernel_rfl }
def Tryz.layLast_ren:Go.Shelf.Ren:=⟨fun | 148=>41 | 222=>93 | 223=>94 | 269=>155 | n=>n,fun | 9=>9 | 3=>3 | 4=>4 | 5=>5 | 146=>197 | 51=>196 | 46=>159 | n=>n,fun | n=>n⟩
theorem Tryz.layLast:Go.Proofs.Lays.n148 Tryz.prog Tryz.layLast_ren:={
 mixed:=by kernel_rfl
 f148:=Go.Eng.A0a Tryz.func41
 f222:=Go.Eng.A0a Tryz.func93
 f223:=Go.Eng.A0a Tryz.func94
 f269:=Go.Eng.A0a Tryz.func155
 t3:=Tryz.underlying3
 a3:=Tryz.isAgg3
 z3:=Tryz.sizeOf3
 v3:=Tryz.zeroValue3
 t4:=Tryz.underlying4
 a4:=Tryz.isAgg4
 z4:=Tryz.sizeOf4
 v4:=Tryz.zeroValue4
 t5:=Tryz.underlying5
 a5:=Tryz.isAgg5
 z5:=Tryz.sizeOf5
 v5:=Tryz.zeroValue5
 t9:=Tryz.underlying9
 a9:=Tryz.isAgg9
 z9:=Tryz.sizeOf9
 v9:=Tryz.zeroValue9
 t46:=Tryz.underlying159
 a46:=Tryz.isAgg159
 z46:=Tryz.sizeOf159
 v46:=Tryz.zeroValue159
 t51:=Tryz.underlying196
 a51:=Tryz.isAgg196
 z51:=Tryz.sizeOf196
 v51:=Tryz.zeroValue196
 t146:=Tryz.underlying197
 a146:=Tryz.isAgg197
 z146:=Tryz.sizeOf197
 v146:=Tryz.zeroValue197 }
def Tryz.layCut_ren:Go.Shelf.Ren:=⟨fun | 103=>198 | 210=>265 | 206=>90 | n=>n,fun | 9=>9 | 4=>4 | 24=>241 | 3=>3 | n=>n,fun | n=>n⟩
theorem Tryz.layCut:Go.Proofs.Lays.n103 Tryz.prog Tryz.layCut_ren:={
 mixed:=by kernel_rfl
 f103:=Go.Eng.A0a Tryz.func198
 f206:=Go.Eng.A0a Tryz.func90
 f210:=Go.Eng.A0a Tryz.func265
 t3:=Tryz.underlying3
 a3:=Tryz.isAgg3
 z3:=Tryz.sizeOf3
 v3:=Tryz.zeroValue3
 t4:=Tryz.underlying4
 a4:=Tryz.isAgg4
 z4:=Tryz.sizeOf4
 v4:=Tryz.zeroValue4
 t9:=Tryz.underlying9
 a9:=Tryz.isAgg9
 z9:=Tryz.sizeOf9
 v9:=Tryz.zeroValue9
 t24:=Tryz.underlying241
 a24:=Tryz.isAgg241
 z24:=Tryz.sizeOf241
 v24:=Tryz.zeroValue241 }
def Tryz.layCont_ren:Go.Shelf.Ren:=⟨fun | 144=>36 | 143=>87 | 219=>153 | 217=>218 | 225=>219 | 224=>220 | 267=>221 | 266=>277 | 314=>278 | n=>n,fun | 9=>9 | 4=>4 | 3=>3 | 5=>5 | 46=>159 | 146=>197 | 51=>196 | n=>n,fun | 1=>0 | n=>n⟩
theorem Tryz.layCont:Go.Proofs.Lays.n144 Tryz.prog Tryz.layCont_ren:={
 mixed:=by kernel_rfl
 f143:=Go.Eng.A0a Tryz.func87
 f144:=Go.Eng.A0a Tryz.func36
 f217:=Go.Eng.A0a Tryz.func218
 f219:=Go.Eng.A0a Tryz.func153
 f224:=Go.Eng.A0a Tryz.func220
 f225:=Go.Eng.A0a Tryz.func219
 f266:=Go.Eng.A0a Tryz.func277
 f267:=Go.Eng.A0a Tryz.func221
 f314:=Go.Eng.A0a Tryz.func278
 t3:=Tryz.underlying3
 a3:=Tryz.isAgg3
 z3:=Tryz.sizeOf3
 v3:=Tryz.zeroValue3
 t4:=Tryz.underlying4
 a4:=Tryz.isAgg4
 z4:=Tryz.sizeOf4
 v4:=Tryz.zeroValue4
 t5:=Tryz.underlying5
 a5:=Tryz.isAgg5
 z5:=Tryz.sizeOf5
 v5:=Tryz.zeroValue5
 t9:=Tryz.underlying9
 a9:=Tryz.isAgg9
 z9:=Tryz.sizeOf9
 v9:=Tryz.zeroValue9
 t46:=Tryz.underlying159
 a46:=Tryz.isAgg159
 z46:=Tryz.sizeOf159
 v46:=Tryz.zeroValue159
 t51:=Tryz.underlying196
 a51:=Tryz.isAgg196
 z51:=Tryz.sizeOf196
 v51:=Tryz.zeroValue196
 t146:=Tryz.underlying197
 a146:=Tryz.isAgg197
 z146:=Tryz.sizeOf197
 v146:=Tryz.zeroValue197
 g1:=by kernel_rfl }
end Go.Proofs
namespace Go.Eng
open Go.Proofs
variable (s p:ByteArray)
abbrev ZQ:ByteArray:=⟨#[47]⟩
abbrev BH:List ByteArray:=Go.Lib.splitB ZQ 0 (Go.Lib.countB s ZQ) s
theorem OX:(BH s).map (·.data.toList)=Ci 47 s.data.toList:=gC s 47
abbrev Gv:List AV:=[vs s]
theorem tD(hs:Ew s):PC 123 [vs s,vs ZQ] (sl Gv (BH s)):=by
 unfold Ew at hs;have h:=fU (P:=Tryz.prog) (f:=123) (args:=[vs s,vs ZQ]) [.string s,.string ZQ] ((BH s).map Value.string) 9 (iX 123 Tryz.func123 aa3 rfl) rfl (fun x hx=>by
  obtain⟨y,_,rfl⟩:=Ay.1 hx;rfl) (fun w hm=>by
  obtain⟨m,hm⟩:=hm;have hl:(BH s).length=Go.Lib.countB s ZQ+1:=Go.Lib.splitB_all ZQ aa2 0 _ s rfl;refine(Any.strings_Split Tryz.laySplit aa3 s ZQ m w aa0 hm aa2).mono ?_
  rintro e w' ⟨rfl,rfl⟩
  exact⟨by simp_all,rfl⟩)
 rw[Cf]at h;exact h
theorem xV(hs:Ew s):PC 41 [vs s,vs p] (vi (Go.Lib.lastIndex s.data.toList p.data.toList)):=by
 unfold Ew at hs;exact KU [.string s,.string p] (.int .i64 (Go.Lib.lastIndex s.data.toList p.data.toList)) (iX 41 Tryz.func41 aa3 rfl) rfl (fun g w=>.v _ _) fun w _=>Any.strings_LastIndex Tryz.layLast s p aa0 w
theorem yh:PC 198 [vs s,vs p] (.tup [vs ⟨(Go.Lib.trimPrefix s.data.toList p.data.toList).toArray⟩,vb (Go.Lib.hasPrefix s.data.toList p.data.toList)]):=by
 exact KU [.string s,.string p] _ (iX 198 Tryz.func198 aa3 rfl) rfl (fun g w=>lp [.string ⟨(Go.Lib.trimPrefix s.data.toList p.data.toList).toArray⟩,.bool (Go.Lib.hasPrefix s.data.toList p.data.toList)]) fun w _=>Any.strings_CutPrefix Tryz.layCut s p w
theorem yq(hs:Ew s):PC 36 [vs s,vs p] (vb (Go.Lib.contains s.data.toList p.data.toList)):=by
 unfold Ew at hs;exact KU [.string s,.string p] (.bool (Go.Lib.contains s.data.toList p.data.toList)) (iX 36 Tryz.func36 aa3 rfl) rfl (fun g w=>.v _ _) fun w hm=>by
  obtain⟨m,hm⟩:=hm;exact Any.strings_Contains Tryz.layCont s p m w aa0 hm
theorem cY:∀x y:List UInt8,OZ x y=x.isPrefixOf y
 | [],_=>by simp[OZ]
 |_::_,[]=>rfl
 |a::x,b::y=>by
  rw[OZ,List.isPrefixOf_cons_cons,cY x y]
  rfl
theorem kd(x:List UInt8):∀y:List UInt8,md x y=Go.Lib.contains y x
 | []=>by
  unfold Go.Lib.contains Go.Lib.index;cases x<;>rfl
 |b::y=>by
  rw[md,cY,kd x y]
  grind [Go.Lib.contains,Go.Lib.index]
theorem ND:∀(l:List UInt8) (h:0<l.length),l.headD 0=l[0]
 | [],h=>by grind
 |_::_,_=>rfl
abbrev pP:ByteArray:=⟨⟨aV⟩⟩
theorem yj(hs:Ew s):PC 200 [vs s] (vb (T6 s.data.toList)):=by
 unfold Ew at hs;have hc:=yq pP ((⟨#[32]⟩++s)++⟨#[32]⟩) (FZ aa3);have e:Go.Lib.contains pP.data.toList ((⟨#[32]⟩++s:ByteArray)++⟨#[32]⟩).data.toList=T6 s.data.toList:=by
  unfold T6;rw[kd]
  congr 1
 rw[e]at hc;refine Ps Cu Tryz.func200 rfl (Nz rfl) (Yi (by show(((1+s.size:Nat)):Int)<=_;omega) ?_);refine Yi (by show(((⟨#[32]⟩++s:ByteArray).size+1:Nat):Int)<=_;rw[ByteArray.size_append];show(((1+s.size)+1:Nat):Int)<=_;omega) ?_;refine Xi .pure (Xi _ (Yi (hc) ?_));exact .refl _
theorem yb(hs:Ew s):PC 125 [vs s] (vb (Gf s.data.toList)):=by
 have hk:=yj s hs;have hw:=qq s 199 Fu yi (by unfold Ew at hs;simp;omega);have FM:s.size=s.data.toList.length:=by simp
 have en:Gf s.data.toList=(!s.data.toList.isEmpty&&decide (s.data.toList.length<=32)&&Eg (s.data.toList.headD 0)&&s.data.toList.all Fu&&!T6 s.data.toList):=rfl
 by_cases h0:s=⟨#[]⟩
 .subst h0;refine Ps Cu Tryz.func125 rfl (Nz rfl) (Yi ?_ ?_)
  .intro h;exact absurd rfl (show(⟨#[]⟩:ByteArray)≠⟨#[]⟩from h)
  .intro _;exact .refl _
 have h0' : s.data.toList≠[]:=fun e=>h0 (by
  have:s.data=#[]:=by simp_all
  cases s;simp_all)
 have Cy:0<s.data.toList.length:=List.length_pos_iff.2 h0';have nP:s.data.toList.isEmpty=false:=by
  grind
 have hhd:s.data.toList.headD 0=s.data.toList[0]:=ND _ Cy;have Xj:=qr s.data.toList[0];refine Ps Cu Tryz.func125 rfl (Nz rfl) (Yi ?_ ?_)
 rotate_left
 .intro h;exact absurd h0 h
 intro _;refine Yi ?_ ?_
 rotate_left
 .intro h;exact .of_eq (Aa vb (show false=Gf s.data.toList by grind))
 intro h;refine Xi s.data.toList[0] (Yi ⟨Cg _,my s 0 Cy⟩ (AG (Bt (Eg s.data.toList[0])) (fun e1=>?_) (fun e1=>?_)))
 rotate_left
 .rw[e1]at Xj;refine Xi .pure (Xi _ (Yi (Xj) ?_));exact .of_eq (Aa vb (show false=Gf s.data.toList by grind))
 rw[e1]at Xj;refine Xi .pure (Xi _ (Yi (Xj) (AG (Bt (s.data.toList.all Fu)) (fun e2=>?_) (fun e2=>?_))))
 rotate_left
 .rw[e2]at hw;refine Xi .pure (Xi _ (Yi (hw) ?_));exact .of_eq (Aa vb (show false=Gf s.data.toList by grind))
 rw[e2]at hw;refine Xi .pure (Xi _ (Yi (hw) ?_));have ef:Gf s.data.toList=!T6 s.data.toList:=by grind
 refine AG (Bt (T6 s.data.toList)) (fun e3=>?_) (fun e3=>?_)
 .rw[e3]at hk;refine Xi .pure (Xi _ (Yi (hk) ?_));exact .of_eq (Aa vb (show false=Gf s.data.toList by grind))
 .rw[e3]at hk;refine Xi .pure (Xi _ (Yi (hk) ?_));exact .of_eq (Aa vb (show true=Gf s.data.toList by grind))
abbrev W9:Option Int->AV
 |some n=>.tup [vi n,vb true]
 |none=>.tup [vi 0,vb false]
theorem Rp{z:Int}(h0:0<=z)(h1:z<256):IntKind.u8.wrap z=z:=by
 show z % 256=z;omega
theorem IW{c:UInt8}(h:BZ c=true):48<=c.toNat/\c.toNat<=57:=by
 grind [BZ,UInt8.le_iff_toNat_le]
theorem Kr(r:List UInt8)(i:Nat)(h:i<r.length):Dy (r.take (i+1))=10*Dy (r.take i)+((r[i].toNat:Int)-48):=by
 grind [Dy,List.take_add_one]
theorem ya(hs:Ew s):PC 124 [vs s] (W9 (Fz s.data.toList)):=by
 unfold Ew at hs;have hc:=yh s ⟨#[118]⟩
 by_cases hp:∃r,s.data.toList=118::r
 .obtain⟨r,hr⟩:=hp;have e1:Go.Lib.hasPrefix s.data.toList (⟨#[118]⟩:ByteArray).data.toList=true:=by rw[hr];rfl
  have e2:Go.Lib.trimPrefix s.data.toList (⟨#[118]⟩:ByteArray).data.toList=r:=by grind [Go.Lib.trimPrefix]
  rw[e1,e2]at hc;have hv:Fz s.data.toList=if(r.isEmpty||decide (3<r.length)||(decide (1<r.length)&&decide (r.headD 0=48))||!r.all BZ)=true then none else some (Dy r):=by rw[hr];rfl
  have GH:r.length<s.size:=by
   have:s.size=s.data.toList.length:=by simp
   simp_all
  generalize hB:(⟨r.toArray⟩:ByteArray)=rB at hc;have ur:rB.data.toList=r:=by grind
  have wM:rB.size=r.length:=by rw[<-hB];rfl
  have hw:=qq rB 129 BZ qt (by grind);rw[ur]at hw;have no:∀{b:Bool},b=true->(if b=true then none else some (Dy r))=(none:Option Int):=fun h=>AE h;refine Ps (Dc []) Tryz.func124 rfl (Nz rfl) (Xi .pure (Xi _ (Yi (hc) (Yi ?_ ?_))))
  .intro h
   have:r=[]:=by simp_all
   exact .of_eq (Aa W9 (show(none:Option Int)=Fz s.data.toList by simp_all))
  intro h;have Fi:r≠[]:=fun e=>h (by simp_all);have Cy:0<r.length:=List.length_pos_iff.2 Fi;have nP:r.isEmpty=false:=by
   simp_all
  refine Yi ?_ ?_
  .intro h2;exact .of_eq (Aa W9 (show(none:Option Int)=Fz s.data.toList by grind))
  intro h2;have u9:r.length<=3:=by omega
  have d3:decide (3<r.length)=false:=AU aa0;refine Yi ?_ ?_
  .intro h3;have zr:rB.data[(0:Int).toNat]?=some r[0]:=by
    grind
   refine Xi r[0] (Yi ⟨Cg _,zr⟩ ?_);have hh:=ND r Cy;refine Yi ?_ ?_
   .intro h4
    have:r[0]=48:=Hr.1 (by grind)
    exact .of_eq (Aa W9 (show(none:Option Int)=Fz s.data.toList by grind))
   intro h4;have eo:(decide (1<r.length)&&decide (r.headD 0=48))=false:=by rw[hh,AU (show ¬r[0]=48 from fun e=>h4 (by simp_all)),Bool.and_false]
   have Xl:Fz s.data.toList=if(!r.all BZ)=true then none else some (Dy r):=by grind
   refine AG (Bt (r.all BZ)) (fun e3=>?_) (fun e3=>?_)
   rotate_left
   .rw[e3]at hw;refine Xi .pure (Xi _ (Yi (hw) ?_));exact .of_eq (Aa W9 (show(none:Option Int)=Fz s.data.toList by simp_all))
   rw[e3]at hw;refine Xi .pure (Xi _ (Yi (hw) ?_));have hv3:Fz s.data.toList=some (Dy r):=by simp_all
   have z0:Dy (r.take 0)=0:=rfl;refine Xi {i:Nat // i<=r.length/\0<=Dy (r.take i)/\(i=0->Dy (r.take i)<=0)/\(i<=1->Dy (r.take i)<=9)/\(i<=2->Dy (r.take i)<=99)/\Dy (r.take i)<=999} (Xi (fun i=>⟨[(0,vs rB),(5,vi (Dy (r.take i.1))),(39,vi rB.size),(40,vi i.1)],[],Af⟩) (Xi (fun i=>r.length-i.1) (Yi (Xi ⟨0,Ao _,by omega,fun _=>by omega,fun _=>by omega,fun _=>by omega,by omega⟩ ?_) ?_)))
   .exact⟨Z4,Tv,Fh,Tv⟩
   intro⟨i,i1,i2,i3,i4,i5,i6⟩;refine Yi ?_ ?_
   .intro h;have h:(i:Int)<(rB.size:Nat):=h;have h:i<r.length:=by omega
    have wP:BZ r[i]=true:=BI.1 e3 _ (Ah h);have zG:=IW wP;have Xf:=Kr r i h;have mc:IntKind.u8.wrap ((r[i].toNat:Int)-48)=(r[i].toNat:Int)-48:=Rp aa0 aa0;have Mu:rB.data[((i:Nat):Int).toNat]?=some r[i]:=by grind
    refine Yi (by show Al (10*Dy (r.take i));unfold Al;omega) (Xi r[i] (Yi ⟨by omega,Mu⟩ ?_));refine Yi (by show Al (IntKind.u8.wrap ((r[i].toNat:Int)-48));rw[mc];unfold Al;omega) ?_;refine Yi (by show Al (10*Dy (r.take i)+IntKind.u8.wrap ((r[i].toNat:Int)-48));rw[mc];unfold Al;omega) ?_;refine Yi (Ii i aa0) ?_;have e5:vi (10*Dy (r.take i)+IntKind.u8.wrap ((r[i].toNat:Int)-48))=vi (Dy (r.take (i+1))):=by simp_all
    refine Xi ⟨i+1,by omega,by omega,fun _=>by omega,fun _=>by omega,fun _=>by omega,by omega⟩ ?_;exact⟨Dl r.length i aa0,⟨Zr,⟨e5,rfl⟩,Zr,Zr,Tv⟩,Tv,Fh,Tv⟩
   .intro h;have h:¬(i:Int)<(rB.size:Nat):=h;have e6:AV.tup [vi (Dy (r.take i)),vb true]=W9 (Fz s.data.toList):=by grind
    exact .of_eq e6
  .intro h3;have h3:¬(1:Int)<((rB.size:Nat):Int):=h3;have eo:(decide (1<r.length)&&decide (r.headD 0=48))=false:=by grind
   have Xl:Fz s.data.toList=if(!r.all BZ)=true then none else some (Dy r):=by grind
   refine AG (Bt (r.all BZ)) (fun e3=>?_) (fun e3=>?_)
   rotate_left
   .rw[e3]at hw;refine Xi .pure (Xi _ (Yi (hw) ?_));exact .of_eq (Aa W9 (show(none:Option Int)=Fz s.data.toList by simp_all))
   rw[e3]at hw;refine Xi .pure (Xi _ (Yi (hw) ?_));have hv3:Fz s.data.toList=some (Dy r):=by simp_all
   have z0:Dy (r.take 0)=0:=rfl;refine Xi {i:Nat // i<=r.length/\0<=Dy (r.take i)/\(i=0->Dy (r.take i)<=0)/\(i<=1->Dy (r.take i)<=9)/\(i<=2->Dy (r.take i)<=99)/\Dy (r.take i)<=999} (Xi (fun i=>⟨[(0,vs rB),(5,vi (Dy (r.take i.1))),(39,vi rB.size),(40,vi i.1)],[],Af⟩) (Xi (fun i=>r.length-i.1) (Yi (Xi ⟨0,Ao _,by omega,fun _=>by omega,fun _=>by omega,fun _=>by omega,by omega⟩ ?_) ?_)))
   .exact⟨Z4,Tv,Fh,Tv⟩
   intro⟨i,i1,i2,i3,i4,i5,i6⟩;refine Yi ?_ ?_
   .intro h;have h:(i:Int)<(rB.size:Nat):=h;have h:i<r.length:=by omega
    have wP:BZ r[i]=true:=BI.1 e3 _ (Ah h);have zG:=IW wP;have Xf:=Kr r i h;have mc:IntKind.u8.wrap ((r[i].toNat:Int)-48)=(r[i].toNat:Int)-48:=Rp aa0 aa0;have Mu:rB.data[((i:Nat):Int).toNat]?=some r[i]:=by grind
    refine Yi (by show Al (10*Dy (r.take i));unfold Al;omega) (Xi r[i] (Yi ⟨by omega,Mu⟩ ?_));refine Yi (by show Al (IntKind.u8.wrap ((r[i].toNat:Int)-48));rw[mc];unfold Al;omega) ?_;refine Yi (by show Al (10*Dy (r.take i)+IntKind.u8.wrap ((r[i].toNat:Int)-48));rw[mc];unfold Al;omega) ?_;refine Yi (Ii i aa0) ?_;have e5:vi (10*Dy (r.take i)+IntKind.u8.wrap ((r[i].toNat:Int)-48))=vi (Dy (r.take (i+1))):=by simp_all
    refine Xi ⟨i+1,by omega,by omega,fun _=>by omega,fun _=>by omega,fun _=>by omega,by omega⟩ ?_;exact⟨Dl r.length i aa0,⟨Zr,⟨e5,rfl⟩,Zr,Zr,Tv⟩,Tv,Fh,Tv⟩
   .intro h;have h:¬(i:Int)<(rB.size:Nat):=h;have e6:AV.tup [vi (Dy (r.take i)),vb true]=W9 (Fz s.data.toList):=by grind
    exact .of_eq e6
 .have e1:Go.Lib.hasPrefix s.data.toList (⟨#[118]⟩:ByteArray).data.toList=false:=by
   cases hl:s.data.toList with
   |nil=>rfl
   |cons a l=>
    have:a≠118:=fun e=>hp ⟨l,by simp_all⟩
    show(List.isPrefixOf [118] (a::l))=false
    grind
  have hv:Fz s.data.toList=none:=by
   cases hl:s.data.toList with
   |nil=>rfl
   |cons a l=>
    have:a≠118:=fun e=>hp ⟨l,by simp_all⟩
    show(if a=118 then _ else none)=none;simp_all
  rw[e1]at hc;refine Ps Cu Tryz.func124 rfl (Nz rfl) (Xi .pure (Xi _ (Yi (hc) ?_)));exact .of_eq (Aa W9 hv.symm)
abbrev PI:Option Int->AV
 |some n=>.tup [vi n,vi 0]
 |none=>.tup [vi 0,vi 4]
theorem K3(c:UInt8):∀(s x:List UInt8),x∈Ci c s->x.length<=s.length
 | [],x,h=>by
  grind [Ci]
 |b::r,x,h=>by
  have ih:=K3 c r
  grind [Ci]
theorem kV{p x:ByteArray}(hp:Ew p)(hx:x∈BH p):Ew x:=by
 have h:x.data.toList∈Ci 47 p.data.toList:=by grind [OX]
 have:=K3 47 _ _ h
 unfold Ew at *
 have e1:x.size=x.data.toList.length:=by simp
 have e2:p.size=p.data.toList.length:=by simp
 omega
theorem fS:(BH p).length=(Ci 47 p.data.toList).length:=by grind [OX]
theorem fT:0<(BH p).length:=by
 rw[show(BH p).length=Go.Lib.countB p ZQ+1 from Go.Lib.splitB_all ZQ aa2 0 _ p rfl];omega
theorem fR:(BH p).length<=p.size+1:=by
 rw[show(BH p).length=Go.Lib.countB p ZQ+1 from Go.Lib.splitB_all ZQ aa2 0 _ p rfl]
 have:=Go.Lib.countB_le ZQ aa2 p.size p (Aq _);omega
theorem bo(h:(BH p).length-1<(BH p).length):(Ci 47 p.data.toList).getLastD []=((BH p)[(BH p).length-1]).data.toList:=by
 grind [OX]
theorem fQ:(Ci 47 p.data.toList).all Hh=(BH p).all fun x=>Hh x.data.toList:=by
 grind [OX]
theorem tA(hp:Ew p):PC 73 [vs p] (PI (A8 p)):=by
 have hps:=fR p;have vu:=fT p;have hp1:(BH p).length-1<(BH p).length:=by omega
 have FM:p.size=p.data.toList.length:=by simp
 have hfp:∀{x},x∈BH p->Ew x:=fun h=>kV hp h;unfold Ew at hp;have jQ:((BH p).map Gv)[((((BH p).map Gv).length:Int)-1).toNat]?=some (Gv (BH p)[(BH p).length-1]):=by
  rw[Lm,show(((BH p).length:Int)-1).toNat=(BH p).length-1 by omega];grind
 have hv:=ya (BH p)[(BH p).length-1] (hfp (Ah hp1));have em:A8 p=match Fz ((BH p)[(BH p).length-1]).data.toList with
  |none=>none
  |some n=>if(decide (64<p.data.toList.length)||decide ((BH p).length<2))=true then none else if((BH p).all fun x=>Hh x.data.toList)=true then some n else none:=by
  unfold A8 NJ;rw[bo p hp1,fQ,<-fS];cases Fz ((BH p)[(BH p).length-1]).data.toList<;>grind [Fz]
 cases hve:Fz ((BH p)[(BH p).length-1]).data.toList with
 |none=>
  rw[hve]at hv em;refine Ps (Dc []) Tryz.func73 rfl (Nz rfl) (Xi .pure (Xi _ (Yi (tD p hp) (Yi (by show Al ((((BH p).map Gv).length:Int)-1);unfold Al;rw[Lm];omega) ?_))));refine Xi (Gv (BH p)[(BH p).length-1]) (Yi (Yi (by grind) jQ) (Yi rfl (Xi .pure (Xi _ (Yi (hv) ?_)))));exact .of_eq (Aa PI em.symm)
 |some n=>
  rw[hve]at hv em;refine Ps (Dc []) Tryz.func73 rfl (Nz rfl) (Xi .pure (Xi _ (Yi (tD p hp) (Yi (by show Al ((((BH p).map Gv).length:Int)-1);unfold Al;rw[Lm];omega) ?_))));refine Xi (Gv (BH p)[(BH p).length-1]) (Yi (Yi (by grind) jQ) (Yi rfl (Xi .pure (Xi _ (Yi (hv) (Yi ?_ ?_))))))
  .intro h;exact .of_eq (Aa PI (show(none:Option Int)=A8 p by grind))
  intro h;have d1:decide (64<p.data.toList.length)=false:=AU aa0;refine Yi ?_ ?_
  .intro h2;rw[Lm]at h2;exact .of_eq (Aa PI (show(none:Option Int)=A8 p by grind))
  intro h2;have d2:decide ((BH p).length<2)=false:=AU (by rw[Lm]at h2;omega);have em2:A8 p=if((BH p).all fun x=>Hh x.data.toList)=true then some n else none:=by grind
  refine Xi {i:Nat // i<=(BH p).length/\∀j (hj:j<(BH p).length),j<i->Hh ((BH p)[j]).data.toList=true} (Xi (fun i=>⟨[(5,vi n),(33,sl Gv (BH p)),(34,vi ((BH p).map Gv).length),(35,vi i.1)],[],Af⟩) (Xi (fun i=>(BH p).length-i.1) (Yi (Xi ⟨0,Ao _,fun j _ h=>by omega⟩ ?_) ?_)))
  .exact⟨Z4,Tv,Fh,Tv⟩
  intro⟨i,i1,i2⟩;refine Yi ?_ ?_
  .intro h;have h:i<(BH p).length:=by simpa using h
   have hg:(BH p)[i]?=some (BH p)[i]:=Ge h;refine Xi (Gv (BH p)[i]) (Yi (Yi aa0 (by simp[hg])) (Yi rfl ?_));have hfi:=hfp (Ah h);have hn:=yb (BH p)[i] hfi;have ha:=qq (BH p)[i] 127 Tx yc (by unfold Ew at hfi;have e1:(BH p)[i].size=(BH p)[i].data.toList.length:=aa1;omega);have no:Hh ((BH p)[i]).data.toList=false->(none:Option Int)=A8 p:=fun e=>by
    rw[em2,Aw];intro Hy
    have:=BI.1 Hy _ (Ah h)
    grind
   refine AG (Bt (Gf ((BH p)[i]).data.toList)) (fun e1=>?_) (fun e1=>?_)
   rotate_left
   .rw[e1]at hn;refine Xi .pure (Xi _ (Yi (hn) ?_));exact .of_eq (Aa PI (no (by unfold Hh;grind)))
   rw[e1]at hn;refine Xi .pure (Xi _ (Yi (hn) (AG (Bt (((BH p)[i]).data.toList.all Tx)) (fun e2=>?_) (fun e2=>?_))))
   rotate_left
   .rw[e2]at ha;refine Xi .pure (Xi _ (Yi (ha) ?_));exact .of_eq (Aa PI (no (by unfold Hh;grind)))
   rw[e2]at ha;refine Xi .pure (Xi _ (Yi (ha) (Yi (Ii i aa0) (Xi ⟨i+1,by omega,fun j hj He=>?_⟩ ?_))))
   .rcases Dq j i with z | z
    .exact i2 j hj z
    .have:j=i:=by omega
     subst this;unfold Hh;grind
   .exact⟨by show(BH p).length-(i+1)<(BH p).length-i;omega,Z4,Tv,Fh,Tv⟩
  .intro h;have h:¬i<(BH p).length:=by simpa using h
   have e:some n=A8 p:=by
    rw[em2,AE];exact BI.2 fun x hx=>by
     obtain⟨j,hj,rfl⟩:=Ev hx;exact i2 j hj aa0
   exact .of_eq (Aa PI e)
theorem xU(hp:Ew p):PC 74 [vs p] (vb (A8 p).isSome):=by
 have hc:=tA p hp;cases h:A8 p with
 |none=>
  rw[h]at hc;refine Ps Cu Tryz.func74 rfl (Nz rfl) (Xi .pure (Xi _ (Yi (hc) (Yi ?_ ?_))))
  .intro h;exact absurd (show(4:Int)=0 from h) aa2
  .intro _;exact .refl _
 |some n=>
  rw[h]at hc;refine Ps Cu Tryz.func74 rfl (Nz rfl) (Xi .pure (Xi _ (Yi (hc) (Yi ?_ ?_))))
  .intro _;exact .refl _
  .intro h;exact absurd rfl h
theorem NW(c:UInt8):∀s:List UInt8,2<=(Ci c s).length->c∈s
 | [],h=>by grind [Ci]
 |b::r,h=>by
  rw[Ci]at h
  by_cases e:b=c
  .simp_all
  .rw[Aw e]at h;refine At _ (NW c r ?_)
   grind
theorem kr{p:ByteArray}{m:Int}(h:A8 p=some m):0<=Go.Lib.lastIndex p.data.toList [47]/\Go.Lib.lastIndex p.data.toList [47]<=p.size:=by
 have h2:2<=(Ci 47 p.data.toList).length:=by
  grind [A8,NJ]
 have hm:=NW 47 _ h2;obtain⟨i,hi,e⟩:=Ev hm;have FM:p.size=p.data.toList.length:=by simp
 unfold Go.Lib.lastIndex;rw[AE (by grind)];have Afj:Go.Lib.occAt p.data.toList [47] i=true:=by
  grind [Go.Lib.occAt,List.drop_eq_getElem_cons]
 grind [Go.Lib.lastOcc_spec]
abbrev PH:ByteArray:=p.extract 0 (Go.Lib.lastIndex p.data.toList [47]).toNat
theorem iz:TS PH:=by
 intro p hp;have hc:=tA p hp;have hi:=xU p hp;unfold OL;cases h:A8 p with
 |none=>
  rw[h]at hc hi;refine Ps Cu Tryz.func32 rfl (Nz rfl) (Xi .pure (Xi _ (Yi (hc) (Xi .pure (Xi _ (Yi (hi) ?_))))));exact .refl _
 |some n=>
  rw[h]at hc hi;obtain⟨l1,l2⟩:=kr h;have hl:PC 41 [vs p,vs ZQ] (vi (Go.Lib.lastIndex p.data.toList [47])):=xV p ZQ hp;refine Ps Cu Tryz.func32 rfl (Nz rfl) (Xi .pure (Xi _ (Yi (hc) (Xi .pure (Xi _ (Yi (hi) (Yi ?_ ?_)))))))
  .intro h;exact absurd rfl h
  intro _;refine Xi .pure (Xi _ (Yi (hl) (Yi ⟨Cg _,l1,l2⟩ ?_)));exact .refl _
end Go.Eng
