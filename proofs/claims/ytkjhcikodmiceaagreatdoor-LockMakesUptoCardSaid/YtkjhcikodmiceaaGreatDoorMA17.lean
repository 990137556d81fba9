/- Lemmas 17. -/
import Derived.Test.YtkjhcikodmiceaaGreatDoorMA16
import Derived.Shelf.Strings.SplitShaped
import Derived.Shelf.Strings.LastIndexAll
import Derived.Shelf.Strings.Search3
import Derived.Shelf.Small.Wraps
import Derived.Ground.NamesProg
import Derived.Lib.LastIndexLaws
namespace Go.Eng
open Go.Proofs Go.Proofs.Tryz
variable {nm:CS->CS}(r:Rl)(a c:UInt8)(s:CS)(n:Nat)
abbrev rz:Nat->CS
 |0=>r.arch
 |1=>r.ifc
 |_=>r.cert
theorem wh{r:Rl}(h:∀j,j<3->CK (rz r j)=true):(CK r.arch&&CK r.ifc&&CK r.cert)=true:=by
 have h0:CK r.arch=true:=h 0 aa3;have h1:CK r.ifc=true:=h 1 aa3;have h2:CK r.cert=true:=h 2 aa3;simp_all
theorem Ad9(hL:Wh nm)(r:Rl)(hr:Eo r):PC 97 [.agg (V r)] (G (CE r)):=by
 cases g8:AP r.path with
 |none=>
  have e:(4:Int)=CE r:=by grind [CE]
  have hl:=hL.none hr.1 g8;refine Ps Dc func97 rfl C4 (C1 (U (hl) (J ?_ ?_)))
  .intro _;exact E G e
  .intro h;exact absurd (show(4:Int)≠0 by decide) h
 |some m=>
  have er:CE r=if(!Bv r.ver||!decide (r.ver.a=m))=true then 2 else if AK r.reqs≠0 then AK r.reqs else if(CK r.arch&&CK r.ifc&&CK r.cert)=true then 0 else 1:=by grind [CE]
  have hl:=hL.some hr.1 g8;have hv:=q8 r.ver;have hc:=c65 hL r.reqs hr.2;rcases Bt (Bv r.ver)with h2 | h2
  .rw[h2]at hv;refine Ps (DJ []) func97 rfl C4 (C1 (U (hl) (J ?_ ?_)))
   .intro h;exact absurd rfl h
   intro _;refine yN (C1 (U (hv) (J ?_ ?_)))
   .intro h;have e:(2:Int)=CE r:=aa0
    exact E G e
   intro h;have h3:r.ver.a=m:=GN h;have er2:CE r=if AK r.reqs≠0 then AK r.reqs else if(CK r.arch&&CK r.ifc&&CK r.cert)=true then 0 else 1:=aa0
   refine C1 (U (hc) (J ?_ ?_))
   .intro h4;exact E G (show AK r.reqs=CE r by omega)
   intro h4;have er3:CE r=if(CK r.arch&&CK r.ifc&&CK r.cert)=true then 0 else 1:=Wk
   refine Z {i:Nat // i<=3/\∀j,j<i->CK (rz r j)=true} (Z (fun i=>⟨[(41,.slice (.id 41 1) [[vs r.arch],[vs r.ifc],[vs r.cert]]),(42,G 3),(43,G i.1)],[(41,.tok 1 3)],Af⟩) (Z (fun i=>3-i.1) (J (Z ⟨0,by omega,fun j h=>by omega⟩ ?_) ?_)))
   .exact⟨Z3,Z1,Fh,W⟩
   intro⟨i,i1,i2⟩;refine J ?_ ?_
   .intro h;have h:(i:Int)<3:=h;have next:CK (rz r i)=true->∀j,j<i+1->CK (rz r j)=true:=fun hz j hj=>by
     grind
    match i,i1,i2,h,next with
    |0,i1,i2,h,next=>
     refine Z [vs r.arch] (J (J Wk rfl) (J rfl (J ?_ ?_)))
     .intro h5;refine J ?_ ?_
      .intro h6;have e:(1:Int)=CE r:=by grind [CK]
       exact E G e
      .intro h6;refine J (by grind [Au]) (Z ⟨1,by omega,next (show CK r.arch=true by grind [CK])⟩ ?_)
       exact⟨by simp_all,Z3,Z1,Fh,W⟩
     .intro h5;refine J (by grind [Au]) (Z ⟨1,by omega,next (show CK r.arch=true by grind [CK])⟩ ?_)
      exact⟨by simp_all,Z3,Z1,Fh,W⟩
    |1,i1,i2,h,next=>
     refine Z [vs r.ifc] (J (J Wk rfl) (J rfl (J ?_ ?_)))
     .intro h5;refine J ?_ ?_
      .intro h6;have h6:((r.ifc.size:Nat):Int)≠32:=h6;have e:(1:Int)=CE r:=by grind [CK]
       exact E G e
      .intro h6;have h6:¬((r.ifc.size:Nat):Int)≠32:=h6;refine J (by grind [Au]) (Z ⟨2,by omega,next (show CK r.ifc=true by grind [CK])⟩ ?_)
       exact⟨by simp_all,Z3,Z1,Fh,W⟩
     .intro h5;have h5:¬((r.ifc.size:Nat):Int)≠0:=h5;refine J (by grind [Au]) (Z ⟨2,by omega,next (show CK r.ifc=true by grind [CK])⟩ ?_)
      exact⟨by simp_all,Z3,Z1,Fh,W⟩
    |2,i1,i2,h,next=>
     refine Z [vs r.cert] (J (J Wk rfl) (J rfl (J ?_ ?_)))
     .intro h5;have h5:((r.cert.size:Nat):Int)≠0:=h5;refine J ?_ ?_
      .intro h6;have h6:((r.cert.size:Nat):Int)≠32:=h6;have e:(1:Int)=CE r:=by grind [CK]
       exact E G e
      .intro h6;have h6:¬((r.cert.size:Nat):Int)≠32:=h6;refine J (by grind [Au]) (Z ⟨3,by omega,next (show CK r.cert=true by grind [CK])⟩ ?_)
       exact⟨by simp_all,Z3,Z1,Fh,W⟩
     .intro h5;have h5:¬((r.cert.size:Nat):Int)≠0:=h5;refine J (by grind [Au]) (Z ⟨3,by omega,next (show CK r.cert=true by grind [CK])⟩ ?_)
      exact⟨by simp_all,Z3,Z1,Fh,W⟩
    |i+3,i1,i2,h,next=>omega
   .intro h;have h:¬(i:Int)<3:=h;have e:(0:Int)=CE r:=by grind [wh]
    exact E G e
  .rw[h2]at hv;have e:(2:Int)=CE r:=aa0
   refine Ps (DJ []) func97 rfl C4 (C1 (U (hl) (J ?_ ?_)))
   .intro h;exact absurd rfl h
   intro _;refine yN (C1 (U (hv) ?_));exact E G e
theorem xc{a b:Rl}(h:a.path=b.path/\a.ver.a=b.ver.a/\a.ver.b=b.ver.b/\a.ver.c=b.ver.c):Cr a=Cr b:=by
 unfold Cr;obtain⟨h1,h2,h3,h4⟩:=h
 have:a.ver=b.ver:=by
  cases ha:a.ver<;>simp_all
 simp_all
theorem Xs{a b:Rl}(h:Cr a=Cr b):a.path=b.path/\a.ver.a=b.ver.a/\a.ver.b=b.ver.b/\a.ver.c=b.ver.c:=by
 grind [Cr]
abbrev Yg(x:List Rl):Nat->Option Rl
 |0=>none
 |k+1=>x[k]?
theorem zn(hL:Wh nm)(x:List Rl)(ifs:C0)(hs:∀r∈x,Eo r):PC 47 [.agg (Ic x ifs)] (G (Aw x)):=by
 refine Ps (DJ []) func47 rfl C4 (J ?_ ?_)
 .intro h;exact E G (show(7:Int)=Aw x by grind [Aw])
 intro h;have hl:x.length<=256:=aa2
 have UQ:Aw x=BR none x:=by grind [Aw]
 refine Z {i:Nat // i<=x.length/\BR none x=BR (Yg x i) (x.drop i)} (Z (fun i=>⟨[(1,.ref 1 0),(12,sl V x),(13,G (x.map V).length),(14,G i.1)],[(1,.cells (Ic x ifs))],Af⟩) (Z (fun i=>x.length-i.1) (J (Z ⟨0,Ak _,rfl⟩ ?_) ?_)))
 .exact⟨Z4,Z1,Fh,W⟩
 intro⟨i,h1,h2⟩;refine J ?_ ?_
 .intro h;have h:i<x.length:=aa0
  have hg:x[i]?=some x[i]:=Ge h;have hd:x.drop i=x[i]::x.drop (i+1):=Bf h;have hc:=Ad9 hL x[i] (hs x[i] (Ag h));have J7:BR none x=if CE x[i]≠0 then CE x[i]else match Yg x i with
   |none=>BR (some x[i]) (x.drop (i+1))
   |some b=>if Cr b=Cr x[i]then 5 else if 0<I7 b x[i]then 1 else BR (some x[i]) (x.drop (i+1)):=by rw[h2,hd];rfl
  have uI:Yg x (i+1)=some x[i]:=Ge h;refine Z (V x[i]) (J (J Wk (by simp[hg])) (J rfl ?_));refine J C4 (J C4 (yN (C1 (U (hc) (J ?_ ?_)))))
  .intro h4;exact E G (show CE x[i]=Aw x by omega)
  intro h4;refine J ?_ ?_
  .intro h5;have h5:(i:Int)=0:=h5;have h6:i=0:=Wk
   refine J (Ii i Wk) (Z ⟨i+1,by omega,by grind⟩ ?_);exact⟨Dl x.length i Wk,Z4,Z1,Fh,W⟩
  intro h5;have h5:¬(i:Int)=0:=h5;have wJ:i-1<x.length:=Wk
  have hb:Yg x i=some x[i-1]:=by
   grind
  have AeT:BR none x=if Cr x[i-1]=Cr x[i]then 5 else if 0<I7 x[i-1] x[i]then 1 else BR (some x[i]) (x.drop (i+1)):=aa2
  refine J (by grind [Au]) ?_;have gX:(x.map V)[((i:Int)-1).toNat]?=some (V x[i-1]):=by rw[show((i:Int)-1).toNat=i-1 by omega];grind
  refine Z (V x[i-1]) (J (J Wk gX) (J rfl (J C4 (yN (yN (U (vF x[i-1]) (yN (U (vF x[i]) (J ?_ ?_)))))))))
  .intro h6;refine J aa4 ?_;have e:(5:Int)=Aw x:=by rw[UQ,AeT,A1 (xc ⟨h6.1,h6.2.1,h6.2.2.1,h6.2.2.2.1⟩)]
   exact E G e
  intro h6;refine J aa4 ?_;have h7:¬Cr x[i-1]=Cr x[i]:=fun e=>by
   have e:=Xs e;exact h6 ⟨e.1,e.2.1,e.2.2.1,e.2.2.2,trivial⟩
  refine J C4 (yN (C1 (U (Ada x[i-1] x[i]) (J ?_ ?_))))
  .intro h8;have e:(1:Int)=Aw x:=aa2
   exact E G e
  .intro h8;refine J (Ii i Wk) (Z ⟨i+1,by omega,by grind⟩ ?_);exact⟨Dl x.length i Wk,Z4,Z1,Fh,W⟩
 .intro h;have h:¬i<x.length:=aa0
  have e:(0:Int)=Aw x:=by rw[UQ,h2,H4 Wk];rfl
  exact E G e
abbrev rlC(a:AV):List AV:=[vs r.path,G r.ver.a,G r.ver.b,G r.ver.c,a,vs r.arch,vs r.ifc,vs r.cert,I r.yanked]
abbrev AfZ:Ns:=⟨[],[],[],[],[],[],[],[(9,(1,4,900,2))],[],[],[]⟩
theorem c98(hr:r.reqs.length<=1000)(hs:∀q∈r.reqs,BF q.set):PC 86 [.agg (V r)] (.agg (V r)):=by
 refine Ps AfZ func86 rfl C4 (yN (Z {i:Nat // i<=r.reqs.length} (Z (fun i=>⟨[(1,.ref 1 0),(2,.ref 2 0),(9,sl Ac r.reqs),(10,G (r.reqs.map Ac).length),(11,G i.1)],[(1,.cells (rlC r (.slice (.id 900 2) ((r.reqs.take i.1).map Ac)))),(2,.cells ZM),(900,.tok 2 ((r.reqs.take i.1).map Ac).length)],Af⟩) (Z (fun i=>r.reqs.length-i.1) (J (Z ⟨0,Ak _⟩ ?_) ?_)))))
 .exact⟨Z5,Z3,Fh,W⟩
 intro⟨i,h1⟩;refine J ?_ ?_
 .intro h;have h:i<r.reqs.length:=aa0
  have hg:r.reqs[i]?=some r.reqs[i]:=Ge h;refine Z (Ac r.reqs[i]) (J (J Wk aa0) (J rfl ?_));have hq:=hs r.reqs[i] (Ag h);refine J C4 (yN (C1 (U (yZ r.reqs[i].set hq) (yN (yN ?_)))));have De:A7 2 [Ac r.reqs[i]]/\((r.reqs.take i).map Ac).length=((r.reqs.take i).map Ac).length/\(((r.reqs.take i).map Ac).length+[Ac r.reqs[i]].length)*40<=140737488355328/\((r.reqs.take i).map Ac).length+[Ac r.reqs[i]].length<=9223372036854775807:=
   ⟨⟨rfl,trivial⟩,rfl,by grind,by grind⟩
  refine J De (yN (J (by grind [Au]) (Z ⟨i+1,by omega⟩ ?_)));have et:(r.reqs.take (i+1)).map Ac=(r.reqs.take i).map Ac++[Ac r.reqs[i]]:=by rw[Dv,hg,Bl];rfl
  have e1:HO.cells (rlC r (.slice (.id 900 2) ((r.reqs.take i).map Ac++[Ac r.reqs[i]])))=.cells (rlC r (.slice (.id 900 2) ((r.reqs.take (i+1)).map Ac))):=by rw[et]
  have e2:HO.tok 2 (((r.reqs.take i).map Ac).length+[Ac r.reqs[i]].length)=.tok 2 ((r.reqs.take (i+1)).map Ac).length:=aa0
  exact⟨by grind,Z5,⟨⟨e1,rfl⟩,X,⟨e2,rfl⟩,W⟩,Fh,W⟩
 .intro h;have h:¬i<r.reqs.length:=aa0
  refine J C4 (J C4 (yN ?_));have e:AV.agg (rlC r (.slice .none ((r.reqs.take i).map Ac)))=.agg (V r):=aa2
  exact .of_eq e
abbrev vc:AV:=.v (.int .u8 c.toNat)
theorem XU(h:n<256):decide (UInt8.ofNat n<=a)=decide ((n:Int)<=(a.toNat:Int)):=by
 grind [UInt8.le_iff_toNat_le,UInt8.toNat_ofNat']
theorem XT(h:n<256):decide (a<=UInt8.ofNat n)=decide ((a.toNat:Int)<=(n:Int)):=by
 grind [UInt8.le_iff_toNat_le,UInt8.toNat_ofNat']
theorem vV:PC 199 [vc c] (I (EP c)):=by
 refine Ps Dc func199 rfl C4 ?_;have e1:decide ((97:UInt8)<=c)=decide ((97:Int)<=(c.toNat:Int)):=XU c 97 aa3;have e2:decide (c<=(122:UInt8))=decide ((c.toNat:Int)<=(122:Int)):=XT c 122 aa3;have es:EP c=(decide ((97:Int)<=(c.toNat:Int))&&decide ((c.toNat:Int)<=(122:Int))):=by grind [EP]
 refine J ?_ ?_
 .intro h;refine J ?_ ?_
  .intro h2;exact E I (show true=EP c by simp_all)
  .intro h2;exact E I (show false=EP c by simp_all)
 .intro h;exact E I (show false=EP c by simp_all)
theorem vW:PC 200 [vc c] (I (Cu c)):=by
 refine Ps Dc func200 rfl C4 ?_;have e1:decide ((48:UInt8)<=c)=decide ((48:Int)<=(c.toNat:Int)):=XU c 48 aa3;have e2:decide (c<=(57:UInt8))=decide ((c.toNat:Int)<=(57:Int)):=XT c 57 aa3;have es:Cu c=(decide ((48:Int)<=(c.toNat:Int))&&decide ((c.toNat:Int)<=(57:Int))):=by grind [Cu]
 refine J ?_ ?_
 .intro h;refine J ?_ ?_
  .intro h2;exact E I (show true=Cu c by simp_all)
  .intro h2;exact E I (show false=Cu c by simp_all)
 .intro h;exact E I (show false=Cu c by simp_all)
theorem AdV:PC 330 [vc c] (I (MH c)):=by
 refine Ps Dc func330 rfl C4 ?_;have e1:decide ((65:UInt8)<=c)=decide ((65:Int)<=(c.toNat:Int)):=XU c 65 aa3;have e2:decide (c<=(90:UInt8))=decide ((c.toNat:Int)<=(90:Int)):=XT c 90 aa3;have es:MH c=(decide ((65:Int)<=(c.toNat:Int))&&decide ((c.toNat:Int)<=(90:Int))):=by grind [MH]
 refine J ?_ ?_
 .intro h;refine J ?_ ?_
  .intro h2;exact E I (show true=MH c by simp_all)
  .intro h2;exact E I (show false=MH c by simp_all)
 .intro h;exact E I (show false=MH c by simp_all)
abbrev VP:Bool:=EP c||Cu c
theorem AdK:PC 198 [vc c] (I (VP c)):=by
 have h1:=vV c;have h2:=vW c;rcases Bt (EP c)with e | e
 .rw[e]at h1;refine Ps Dc func198 rfl C4 (C1 (U (h1) ?_));exact E I (show true=VP c by simp_all)
 .rw[e]at h1;refine Ps Dc func198 rfl C4 (C1 (U (h1) (C1 (U (h2) ?_))));exact E I (show Cu c=VP c by simp_all)
theorem AdQ:PC 265 [vc c] (I (FV c)):=by
 have h1:=vV c;have h2:=AdV c;have h3:=vW c;have ew:FV c=(EP c||MH c||Cu c||decide (c=95)):=rfl;rcases Bt (EP c)with e | e
 .rw[e]at h1;refine Ps Dc func265 rfl C4 (C1 (U (h1) ?_));exact E I (show true=FV c by simp_all)
 rw[e]at h1;rcases Bt (MH c)with e2 | e2
 .rw[e2]at h2;refine Ps Dc func265 rfl C4 (C1 (U (h1) (C1 (U (h2) ?_))));exact E I (show true=FV c by simp_all)
 rw[e2]at h2;rcases Bt (Cu c)with e3 | e3
 .rw[e3]at h3;refine Ps Dc func265 rfl C4 (C1 (U (h1) (C1 (U (h2) (C1 (U (h3) ?_))))));exact E I (show true=FV c by simp_all)
 rw[e3]at h3;refine Ps Dc func265 rfl C4 (C1 (U (h1) (C1 (U (h2) (C1 (U (h3) ?_))))));have eb:decide (c=95)=decide ((c.toNat:Int)=95):=by
  rw[CI,A4,A4];constructor
  .simp_all
  .intro h;exact Ih.1 aa2
 refine J ?_ ?_
 .intro h;exact E I (show true=FV c by simp_all)
 .intro h;exact E I (show false=FV c by simp_all)
theorem qR(i:Nat)(h:i<s.data.toList.length):s.data[i]?=some s.data.toList[i]:=by
 simp_all
theorem vU(f:Nat)(q:UInt8->Bool)(hf:∀c,PC f [vc c] (I (q c)))(hs:s.data.toList.length<4611686018427387904):PC 197 [vs s,.v (Hs f)] (I (s.data.toList.all q)):=by
 have FW:s.size=s.data.toList.length:=aa1
 refine Ps Dc func197 rfl C4 (Z {i:Nat // i<=s.data.toList.length/\∀j (hj:j<s.data.toList.length),j<i->q s.data.toList[j]=true} (Z (fun i=>⟨[(0,vs s),(1,.v (Hs f)),(7,G s.size),(8,G i.1)],[],Af⟩) (Z (fun i=>s.data.toList.length-i.1) (J (Z ⟨0,Ak _,fun j _ h=>by omega⟩ ?_) ?_))))
 .exact⟨Z4,W,Fh,W⟩
 intro⟨i,h1,h2⟩;refine J ?_ ?_
 .intro h;have h:(i:Int)<(s.size:Nat):=h;have h:i<s.data.toList.length:=Wk
  refine Z s.data.toList[i] (J ⟨by omega,by grind⟩ ?_);have hc:=hf s.data.toList[i];refine Ay (Bt (q s.data.toList[i])) (fun e=>?_) (fun e=>?_)
  .rw[e]at hc;refine C1 (U (hc) (J (by grind [Au]) (Z ⟨i+1,by omega,fun j hj F6=>?_⟩ ?_)))
   .grind
   .exact⟨by grind,Z4,W,Fh,W⟩
  .rw[e]at hc;refine C1 (U (hc) ?_);have er:s.data.toList.all q=false:=by
    grind
   exact E I er.symm
 .intro h;have h:¬(i:Int)<(s.size:Nat):=h;have er:s.data.toList.all q=true:=AS.2 fun c hc=>by
   grind [List.getElem_of_mem]
  exact E I er.symm
end Go.Eng
namespace Go.Proofs
open Go.Proofs.Tryz
open Go.Shelf
def Tryz.laySplit_ren:Go.Shelf.Ren:=⟨fun | 146=>194 | 221=>263 | 268=>326 | 138=>327 | 143=>328 | 195=>361 | 197=>362 | 218=>363 | 219=>364 | 260=>381 | 217=>382 | 225=>383 | 224=>384 | 267=>385 | 266=>399 | 314=>400 | n=>n,fun | 9=>9 | 31=>144 | 3=>3 | 4=>4 | 0=>0 | 105=>422 | 21=>21 | 5=>5 | 46=>240 | 119=>444 | 139=>447 | 138=>446 | 146=>352 | 51=>299 | n=>n,fun | 1=>0 | 3=>1 | 4=>2 | n=>n⟩
theorem Tryz.laySplit:Go.Proofs.Lays.n146 prog Tryz.laySplit_ren:={
 mixed:=by kernel_rfl
 f138:=Go.Eng.A0a func327
 f143:=Go.Eng.A0a func328
 f146:=Go.Eng.A0a func194
 f195:=Go.Eng.A0a func361
 f197:=Go.Eng.A0a func362
 f217:=Go.Eng.A0a func382
 f218:=Go.Eng.A0a func363
 f219:=Go.Eng.A0a func364
 f221:=Go.Eng.A0a func263
 f224:=Go.Eng.A0a func384
 f225:=Go.Eng.A0a func383
 f260:=Go.Eng.A0a func381
 f266:=Go.Eng.A0a func399
 f267:=Go.Eng.A0a func385
 f268:=Go.Eng.A0a func326
 f314:=Go.Eng.A0a func400
 t0:=underlying0
 a0:=isAgg0
 z0:=sizeOf0
 v0:=zeroValue0
 t3:=underlying3
 a3:=isAgg3
 z3:=sizeOf3
 v3:=zeroValue3
 t4:=underlying4
 a4:=isAgg4
 z4:=sizeOf4
 v4:=zeroValue4
 t5:=underlying5
 a5:=isAgg5
 z5:=sizeOf5
 v5:=zeroValue5
 t9:=underlying9
 a9:=isAgg9
 z9:=sizeOf9
 v9:=zeroValue9
 t21:=underlying21
 a21:=isAgg21
 z21:=sizeOf21
 v21:=zeroValue21
 t31:=underlying144
 a31:=isAgg144
 z31:=sizeOf144
 v31:=zeroValue144
 t46:=underlying240
 a46:=isAgg240
 z46:=sizeOf240
 v46:=zeroValue240
 t51:=underlying299
 a51:=isAgg299
 z51:=sizeOf299
 v51:=zeroValue299
 t105:=underlying422
 a105:=isAgg422
 z105:=sizeOf422
 v105:=zeroValue422
 t119:=underlying444
 a119:=isAgg444
 z119:=sizeOf444
 t138:=underlying446
 a138:=isAgg446
 z138:=sizeOf446
 v138:=zeroValue446
 t139:=underlying447
 a139:=isAgg447
 z139:=sizeOf447
 v139:=zeroValue447
 t146:=underlying352
 a146:=isAgg352
 z146:=sizeOf352
 v146:=zeroValue352
 g1:=by kernel_rfl
 g3:=by kernel_rfl
 g4:=by kernel_rfl }
def Tryz.layLast_ren:Go.Shelf.Ren:=⟨fun | 148=>133 | 222=>201 | 223=>202 | 269=>267 | n=>n,fun | 9=>9 | 3=>3 | 4=>4 | 5=>5 | 146=>352 | 51=>299 | 46=>240 | n=>n,fun | n=>n⟩
theorem Tryz.layLast:Go.Proofs.Lays.n148 prog Tryz.layLast_ren:={
 mixed:=by kernel_rfl
 f148:=Go.Eng.A0a func133
 f222:=Go.Eng.A0a func201
 f223:=Go.Eng.A0a func202
 f269:=Go.Eng.A0a func267
 t3:=underlying3
 a3:=isAgg3
 z3:=sizeOf3
 v3:=zeroValue3
 t4:=underlying4
 a4:=isAgg4
 z4:=sizeOf4
 v4:=zeroValue4
 t5:=underlying5
 a5:=isAgg5
 z5:=sizeOf5
 v5:=zeroValue5
 t9:=underlying9
 a9:=isAgg9
 z9:=sizeOf9
 v9:=zeroValue9
 t46:=underlying240
 a46:=isAgg240
 z46:=sizeOf240
 v46:=zeroValue240
 t51:=underlying299
 a51:=isAgg299
 z51:=sizeOf299
 v51:=zeroValue299
 t146:=underlying352
 a146:=isAgg352
 z146:=sizeOf352
 v146:=zeroValue352 }
def Tryz.layCut_ren:Go.Shelf.Ren:=⟨fun | 103=>264 | 210=>329 | 206=>335 | n=>n,fun | 9=>9 | 4=>4 | 24=>261 | 3=>3 | n=>n,fun | n=>n⟩
theorem Tryz.layCut:Go.Proofs.Lays.n103 prog Tryz.layCut_ren:={
 mixed:=by kernel_rfl
 f103:=Go.Eng.A0a func264
 f206:=Go.Eng.A0a func335
 f210:=Go.Eng.A0a func329
 t3:=underlying3
 a3:=isAgg3
 z3:=sizeOf3
 v3:=zeroValue3
 t4:=underlying4
 a4:=isAgg4
 z4:=sizeOf4
 v4:=zeroValue4
 t9:=underlying9
 a9:=isAgg9
 z9:=sizeOf9
 v9:=zeroValue9
 t24:=underlying261
 a24:=isAgg261
 z24:=sizeOf261
 v24:=zeroValue261 }
def Tryz.layCont_ren:Go.Shelf.Ren:=⟨fun | 144=>331 | 143=>328 | 219=>364 | 217=>382 | 225=>383 | 224=>384 | 267=>385 | 266=>399 | 314=>400 | n=>n,fun | 9=>9 | 4=>4 | 3=>3 | 5=>5 | 46=>240 | 146=>352 | 51=>299 | n=>n,fun | 1=>0 | n=>n⟩
theorem Tryz.layCont:Go.Proofs.Lays.n144 prog Tryz.layCont_ren:={
 mixed:=by kernel_rfl
 f143:=Go.Eng.A0a func328
 f144:=Go.Eng.A0a func331
 f217:=Go.Eng.A0a func382
 f219:=Go.Eng.A0a func364
 f224:=Go.Eng.A0a func384
 f225:=Go.Eng.A0a func383
 f266:=Go.Eng.A0a func399
 f267:=Go.Eng.A0a func385
 f314:=Go.Eng.A0a func400
 t3:=underlying3
 a3:=isAgg3
 z3:=sizeOf3
 v3:=zeroValue3
 t4:=underlying4
 a4:=isAgg4
 z4:=sizeOf4
 v4:=zeroValue4
 t5:=underlying5
 a5:=isAgg5
 z5:=sizeOf5
 v5:=zeroValue5
 t9:=underlying9
 a9:=isAgg9
 z9:=sizeOf9
 v9:=zeroValue9
 t46:=underlying240
 a46:=isAgg240
 z46:=sizeOf240
 v46:=zeroValue240
 t51:=underlying299
 a51:=isAgg299
 z51:=sizeOf299
 v51:=zeroValue299
 t146:=underlying352
 a146:=isAgg352
 z146:=sizeOf352
 v146:=zeroValue352
 g1:=by kernel_rfl }
end Go.Proofs
namespace Go.Eng
open Go.Proofs Go.Proofs.Tryz
variable (s p:CS)
abbrev dA:CS:=⟨#[47]⟩
abbrev BK:List CS:=Go.Lib.splitB dA 0 (Go.Lib.countB s dA) s
theorem QL:(BK s).map (·.data.toList)=CJ 47 s.data.toList:=lG s 47
abbrev GV:List AV:=[vs s]
theorem zj(hs:Fp s):PC 194 [vs s,vs dA] (sl GV (BK s)):=by
 unfold Fp at hs;have h:=li (P:=prog) (f:=194) (args:=[vs s,vs dA]) [.string s,.string dA] ((BK s).map Value.string) 9 (jG 194 func194 aa4 rfl) rfl (fun x hx=>by
  obtain⟨y,_,rfl⟩:=Ar.1 hx;rfl) (fun w hm=>by
  obtain⟨m,hm⟩:=hm;have hl:(BK s).length=Go.Lib.countB s dA+1:=Go.Lib.splitB_all dA aa3 0 _ s rfl;refine(Any.strings_Split Tryz.laySplit aa4 s dA m w Wk hm aa3).mono ?_
  rintro e w' ⟨rfl,rfl⟩
  exact⟨by simp_all,rfl⟩)
 rw[BH]at h;exact h
theorem AdD(hs:Fp s):PC 133 [vs s,vs p] (G (Go.Lib.lastIndex s.data.toList p.data.toList)):=by
 unfold Fp at hs;exact L3 [.string s,.string p] (.int .i64 (Go.Lib.lastIndex s.data.toList p.data.toList)) (jG 133 func133 aa4 rfl) rfl (fun g w=>.v _ _) fun w _=>Any.strings_LastIndex Tryz.layLast s p Wk w
theorem AdP:PC 264 [vs s,vs p] (.tup [vs ⟨(Go.Lib.trimPrefix s.data.toList p.data.toList).toArray⟩,I (Go.Lib.hasPrefix s.data.toList p.data.toList)]):=by
 exact L3 [.string s,.string p] _ (jG 264 func264 aa4 rfl) rfl (fun g w=>pF [.string ⟨(Go.Lib.trimPrefix s.data.toList p.data.toList).toArray⟩,.bool (Go.Lib.hasPrefix s.data.toList p.data.toList)]) fun w _=>Any.strings_CutPrefix Tryz.layCut s p w
theorem AdW(hs:Fp s):PC 331 [vs s,vs p] (I (Go.Lib.contains s.data.toList p.data.toList)):=by
 unfold Fp at hs;exact L3 [.string s,.string p] (.bool (Go.Lib.contains s.data.toList p.data.toList)) (jG 331 func331 aa4 rfl) rfl (fun g w=>.v _ _) fun w hm=>by
  obtain⟨m,hm⟩:=hm;exact Any.strings_Contains Tryz.layCont s p m w Wk hm
theorem iH:∀x y:List UInt8,QN x y=x.isPrefixOf y
 | [],_=>by simp[QN]
 |_::_,[]=>rfl
 |a::x,b::y=>by
  rw[QN,List.isPrefixOf_cons_cons,iH x y]
  rfl
theorem om(x:List UInt8):∀y:List UInt8,qD x y=Go.Lib.contains y x
 | []=>by
  unfold Go.Lib.contains Go.Lib.index;cases x<;>rfl
 |b::y=>by
  rw[qD,iH,om x y]
  grind [Go.Lib.contains,Go.Lib.index]
theorem OV:∀(l:List UInt8) (h:0<l.length),l.headD 0=l[0]
 | [],h=>by grind
 |_::_,_=>rfl
abbrev uS:CS:=⟨⟨fm⟩⟩
theorem AdR(hs:Fp s):PC 266 [vs s] (I (Wv s.data.toList)):=by
 unfold Fp at hs;have hc:=AdW uS ((⟨#[32]⟩++s)++⟨#[32]⟩) (Et aa4);have e:Go.Lib.contains uS.data.toList ((⟨#[32]⟩++s:CS)++⟨#[32]⟩).data.toList=Wv s.data.toList:=by
  unfold Wv;rw[om]
  congr 1
 rw[e]at hc;refine Ps Dc func266 rfl C4 (J (by show(((1+s.size:Nat)):Int)<=_;omega) ?_);refine J (by show(((⟨#[32]⟩++s:CS).size+1:Nat):Int)<=_;rw[ByteArray.size_append];show(((1+s.size)+1:Nat):Int)<=_;omega) ?_;refine C1 (U (hc) ?_);exact .refl _
theorem AdJ(hs:Fp s):PC 196 [vs s] (I (GD s.data.toList)):=by
 have hk:=AdR s hs;have hw:=vU s 265 FV AdQ (by unfold Fp at hs;simp;omega);have FW:s.size=s.data.toList.length:=aa1
 have en:GD s.data.toList=(!s.data.toList.isEmpty&&decide (s.data.toList.length<=32)&&EP (s.data.toList.headD 0)&&s.data.toList.all FV&&!Wv s.data.toList):=rfl
 by_cases h0:s=⟨#[]⟩
 .subst h0;refine Ps Dc func196 rfl C4 (J ?_ ?_)
  .intro h;exact absurd rfl (show(⟨#[]⟩:CS)≠⟨#[]⟩from h)
  .intro _;exact .refl _
 have h0' : s.data.toList≠[]:=fun e=>h0 (by
  have:s.data=#[]:=aa0
  cases s;simp_all)
 have CN:0<s.data.toList.length:=List.length_pos_iff.2 h0';have r6:s.data.toList.isEmpty=false:=by
  grind
 have hhd:s.data.toList.headD 0=s.data.toList[0]:=OV _ CN;have se:=vV s.data.toList[0];refine Ps Dc func196 rfl C4 (J ?_ ?_)
 rotate_left
 .intro h;exact absurd h0 h
 intro _;refine J ?_ ?_
 rotate_left
 .intro h;exact E I (show false=GD s.data.toList by grind)
 intro h;refine Z s.data.toList[0] (J ⟨B4 _,qR s 0 CN⟩ (Ay (Bt (EP s.data.toList[0])) (fun e1=>?_) (fun e1=>?_)))
 rotate_left
 .rw[e1]at se;refine C1 (U (se) ?_);exact E I (show false=GD s.data.toList by grind)
 rw[e1]at se;refine C1 (U (se) (Ay (Bt (s.data.toList.all FV)) (fun e2=>?_) (fun e2=>?_)))
 rotate_left
 .rw[e2]at hw;refine C1 (U (hw) ?_);exact E I (show false=GD s.data.toList by grind)
 rw[e2]at hw;refine C1 (U (hw) ?_);have ef:GD s.data.toList=!Wv s.data.toList:=aa2
 refine Ay (Bt (Wv s.data.toList)) (fun e3=>?_) (fun e3=>?_)
 .rw[e3]at hk;refine C1 (U (hk) ?_);exact E I (show false=GD s.data.toList by grind)
 .rw[e3]at hk;refine C1 (U (hk) ?_);exact E I (show true=GD s.data.toList by grind)
abbrev ZE:Option Int->AV
 |some n=>.tup [G n,I true]
 |none=>.tup [G 0,I false]
theorem TO{z:Int}(h0:0<=z)(h1:z<256):IntKind.u8.wrap z=z:=by
 show z % 256=z;omega
theorem JR{c:UInt8}(h:Cu c=true):48<=c.toNat/\c.toNat<=57:=by
 grind [Cu,UInt8.le_iff_toNat_le]
theorem Ll(r:List UInt8)(i:Nat)(h:i<r.length):D7 (r.take (i+1))=10*D7 (r.take i)+((r[i].toNat:Int)-48):=by
 grind [D7,List.take_add_one]
theorem AdI(hs:Fp s):PC 195 [vs s] (ZE (Gx s.data.toList)):=by
 unfold Fp at hs;have hc:=AdP s ⟨#[118]⟩
 by_cases hp:∃r,s.data.toList=118::r
 .obtain⟨r,hr⟩:=hp;have e1:Go.Lib.hasPrefix s.data.toList (⟨#[118]⟩:CS).data.toList=true:=by rw[hr];rfl
  have e2:Go.Lib.trimPrefix s.data.toList (⟨#[118]⟩:CS).data.toList=r:=by grind [Go.Lib.trimPrefix]
  rw[e1,e2]at hc;have hv:Gx s.data.toList=if(r.isEmpty||decide (3<r.length)||(decide (1<r.length)&&decide (r.headD 0=48))||!r.all Cu)=true then none else some (D7 r):=by rw[hr];rfl
  have hrl:r.length<s.size:=by
   have:s.size=s.data.toList.length:=aa1
   simp_all
  generalize hB:(⟨r.toArray⟩:CS)=rB at hc;have zP:rB.data.toList=r:=aa2
  have hBs:rB.size=r.length:=by rw[<-hB];rfl
  have hw:=vU rB 200 Cu vW aa2;rw[zP]at hw;have no:∀{b:Bool},b=true->(if b=true then none else some (D7 r))=(none:Option Int):=fun h=>A1 h;refine Ps (DJ []) func195 rfl C4 (C1 (U (hc) (J ?_ ?_)))
  .intro h
   have:r=[]:=aa0
   exact E ZE (show(none:Option Int)=Gx s.data.toList by simp_all)
  intro h;have ER:r≠[]:=fun e=>h aa0;have CN:0<r.length:=List.length_pos_iff.2 ER;have r6:r.isEmpty=false:=by
   simp_all
  refine J ?_ ?_
  .intro h2;exact E ZE (show(none:Option Int)=Gx s.data.toList by grind)
  intro h2;have hl3:r.length<=3:=Wk
  have d3:decide (3<r.length)=false:=At Wk;refine J ?_ ?_
  .intro h3;have AeA:rB.data[(0:Int).toNat]?=some r[0]:=by
    grind
   refine Z r[0] (J ⟨B4 _,AeA⟩ ?_);have hh:=OV r CN;refine J ?_ ?_
   .intro h4
    have:r[0]=48:=Ih.1 aa2
    exact E ZE (show(none:Option Int)=Gx s.data.toList by grind)
   intro h4;have eo:(decide (1<r.length)&&decide (r.headD 0=48))=false:=by rw[hh,At (show ¬r[0]=48 from fun e=>h4 aa0),Bool.and_false]
   have hv2:Gx s.data.toList=if(!r.all Cu)=true then none else some (D7 r):=aa2
   refine Ay (Bt (r.all Cu)) (fun e3=>?_) (fun e3=>?_)
   rotate_left
   .rw[e3]at hw;refine C1 (U (hw) ?_);exact E ZE (show(none:Option Int)=Gx s.data.toList by simp_all)
   rw[e3]at hw;refine C1 (U (hw) ?_);have hv3:Gx s.data.toList=some (D7 r):=aa0
   have z0:D7 (r.take 0)=0:=rfl;refine Z {i:Nat // i<=r.length/\0<=D7 (r.take i)/\(i=0->D7 (r.take i)<=0)/\(i<=1->D7 (r.take i)<=9)/\(i<=2->D7 (r.take i)<=99)/\D7 (r.take i)<=999} (Z (fun i=>⟨[(0,vs rB),(5,G (D7 (r.take i.1))),(39,G rB.size),(40,G i.1)],[],Af⟩) (Z (fun i=>r.length-i.1) (J (Z ⟨0,Ak _,by omega,fun _=>by omega,fun _=>by omega,fun _=>by omega,by omega⟩ ?_) ?_)))
   .exact⟨Z4,W,Fh,W⟩
   intro⟨i,i1,i2,i3,i4,i5,i6⟩;refine J ?_ ?_
   .intro h;have h:(i:Int)<(rB.size:Nat):=h;have h:i<r.length:=Wk
    have hdg:Cu r[i]=true:=AS.1 e3 _ (Ag h);have uy:=JR hdg;have cZ:=Ll r i h;have qC:IntKind.u8.wrap ((r[i].toNat:Int)-48)=(r[i].toNat:Int)-48:=TO Wk Wk;have OU:rB.data[((i:Nat):Int).toNat]?=some r[i]:=aa2
    refine J (by show Au (10*D7 (r.take i));unfold Au;omega) (Z r[i] (J ⟨by omega,OU⟩ ?_));refine J (by show Au (IntKind.u8.wrap ((r[i].toNat:Int)-48));rw[qC];unfold Au;omega) ?_;refine J (by show Au (10*D7 (r.take i)+IntKind.u8.wrap ((r[i].toNat:Int)-48));rw[qC];unfold Au;omega) ?_;refine J (Ii i Wk) ?_;have e5:G (10*D7 (r.take i)+IntKind.u8.wrap ((r[i].toNat:Int)-48))=G (D7 (r.take (i+1))):=aa0
    refine Z ⟨i+1,by omega,by omega,fun _=>by omega,fun _=>by omega,fun _=>by omega,by omega⟩ ?_;exact⟨Dl r.length i Wk,⟨X,⟨e5,rfl⟩,X,X,W⟩,W,Fh,W⟩
   .intro h;have h:¬(i:Int)<(rB.size:Nat):=h;have e6:AV.tup [G (D7 (r.take i)),I true]=ZE (Gx s.data.toList):=aa2
    exact .of_eq e6
  .intro h3;have h3:¬(1:Int)<((rB.size:Nat):Int):=h3;have eo:(decide (1<r.length)&&decide (r.headD 0=48))=false:=aa2
   have hv2:Gx s.data.toList=if(!r.all Cu)=true then none else some (D7 r):=aa2
   refine Ay (Bt (r.all Cu)) (fun e3=>?_) (fun e3=>?_)
   rotate_left
   .rw[e3]at hw;refine C1 (U (hw) ?_);exact E ZE (show(none:Option Int)=Gx s.data.toList by simp_all)
   rw[e3]at hw;refine C1 (U (hw) ?_);have hv3:Gx s.data.toList=some (D7 r):=aa0
   have z0:D7 (r.take 0)=0:=rfl;refine Z {i:Nat // i<=r.length/\0<=D7 (r.take i)/\(i=0->D7 (r.take i)<=0)/\(i<=1->D7 (r.take i)<=9)/\(i<=2->D7 (r.take i)<=99)/\D7 (r.take i)<=999} (Z (fun i=>⟨[(0,vs rB),(5,G (D7 (r.take i.1))),(39,G rB.size),(40,G i.1)],[],Af⟩) (Z (fun i=>r.length-i.1) (J (Z ⟨0,Ak _,by omega,fun _=>by omega,fun _=>by omega,fun _=>by omega,by omega⟩ ?_) ?_)))
   .exact⟨Z4,W,Fh,W⟩
   intro⟨i,i1,i2,i3,i4,i5,i6⟩;refine J ?_ ?_
   .intro h;have h:(i:Int)<(rB.size:Nat):=h;have h:i<r.length:=Wk
    have hdg:Cu r[i]=true:=AS.1 e3 _ (Ag h);have uy:=JR hdg;have cZ:=Ll r i h;have qC:IntKind.u8.wrap ((r[i].toNat:Int)-48)=(r[i].toNat:Int)-48:=TO Wk Wk;have OU:rB.data[((i:Nat):Int).toNat]?=some r[i]:=aa2
    refine J (by show Au (10*D7 (r.take i));unfold Au;omega) (Z r[i] (J ⟨by omega,OU⟩ ?_));refine J (by show Au (IntKind.u8.wrap ((r[i].toNat:Int)-48));rw[qC];unfold Au;omega) ?_;refine J (by show Au (10*D7 (r.take i)+IntKind.u8.wrap ((r[i].toNat:Int)-48));rw[qC];unfold Au;omega) ?_;refine J (Ii i Wk) ?_;have e5:G (10*D7 (r.take i)+IntKind.u8.wrap ((r[i].toNat:Int)-48))=G (D7 (r.take (i+1))):=aa0
    refine Z ⟨i+1,by omega,by omega,fun _=>by omega,fun _=>by omega,fun _=>by omega,by omega⟩ ?_;exact⟨Dl r.length i Wk,⟨X,⟨e5,rfl⟩,X,X,W⟩,W,Fh,W⟩
   .intro h;have h:¬(i:Int)<(rB.size:Nat):=h;have e6:AV.tup [G (D7 (r.take i)),I true]=ZE (Gx s.data.toList):=aa2
    exact .of_eq e6
 .have e1:Go.Lib.hasPrefix s.data.toList (⟨#[118]⟩:CS).data.toList=false:=by
   cases hl:s.data.toList with
   |nil=>rfl
   |cons a l=>
    have:a≠118:=fun e=>hp ⟨l,by simp_all⟩
    show(List.isPrefixOf [118] (a::l))=false
    grind
  have hv:Gx s.data.toList=none:=by
   cases hl:s.data.toList with
   |nil=>rfl
   |cons a l=>
    have:a≠118:=fun e=>hp ⟨l,by simp_all⟩
    show(if a=118 then _ else none)=none;simp_all
  rw[e1]at hc;refine Ps Dc func195 rfl C4 (C1 (U (hc) ?_));exact E ZE hv.symm
abbrev RC:Option Int->AV
 |some n=>.tup [G n,G 0]
 |none=>.tup [G 0,G 4]
theorem Mb(c:UInt8):∀(s x:List UInt8),x∈CJ c s->x.length<=s.length
 | [],x,h=>by
  grind [CJ]
 |b::r,x,h=>by
  have ih:=Mb c r
  grind [CJ]
theorem pm{p x:CS}(hp:Fp p)(hx:x∈BK p):Fp x:=by
 have h:x.data.toList∈CJ 47 p.data.toList:=by grind [QL]
 have:=Mb 47 _ _ h
 unfold Fp at *
 have e1:x.size=x.data.toList.length:=aa1
 have e2:p.size=p.data.toList.length:=aa1
 omega
theorem lg:(BK p).length=(CJ 47 p.data.toList).length:=by grind [QL]
theorem lh:0<(BK p).length:=by
 rw[show(BK p).length=Go.Lib.countB p dA+1 from Go.Lib.splitB_all dA aa3 0 _ p rfl];omega
theorem lf:(BK p).length<=p.size+1:=by
 rw[show(BK p).length=Go.Lib.countB p dA+1 from Go.Lib.splitB_all dA aa3 0 _ p rfl]
 have:=Go.Lib.countB_le dA aa3 p.size p (Ao _);omega
theorem fI(h:(BK p).length-1<(BK p).length):(CJ 47 p.data.toList).getLastD []=((BK p)[(BK p).length-1]).data.toList:=by
 grind [QL]
theorem ld:(CJ 47 p.data.toList).all H2=(BK p).all fun x=>H2 x.data.toList:=by
 grind [QL]
theorem zb(hp:Fp p):PC 131 [vs p] (RC (AP p)):=by
 have hps:=lf p;have AaI:=lh p;have hp1:(BK p).length-1<(BK p).length:=Wk
 have FW:p.size=p.data.toList.length:=aa1
 have hfp:∀{x},x∈BK p->Fp x:=fun h=>pm hp h;unfold Fp at hp;have gX:((BK p).map GV)[((((BK p).map GV).length:Int)-1).toNat]?=some (GV (BK p)[(BK p).length-1]):=by
  rw[Lm,show(((BK p).length:Int)-1).toNat=(BK p).length-1 by omega];grind
 have hv:=AdI (BK p)[(BK p).length-1] (hfp (Ag hp1));have em:AP p=match Gx ((BK p)[(BK p).length-1]).data.toList with
  |none=>none
  |some n=>if(decide (64<p.data.toList.length)||decide ((BK p).length<2))=true then none else if((BK p).all fun x=>H2 x.data.toList)=true then some n else none:=by
  unfold AP Pd;rw[fI p hp1,ld,<-lg];cases Gx ((BK p)[(BK p).length-1]).data.toList<;>grind [Gx]
 cases hve:Gx ((BK p)[(BK p).length-1]).data.toList with
 |none=>
  rw[hve]at hv em;refine Ps (DJ []) func131 rfl C4 (C1 (U (zj p hp) (J (by show Au ((((BK p).map GV).length:Int)-1);unfold Au;rw[Lm];omega) ?_)));refine Z (GV (BK p)[(BK p).length-1]) (J (J aa2 gX) (J rfl (C1 (U (hv) ?_))));exact E RC em.symm
 |some n=>
  rw[hve]at hv em;refine Ps (DJ []) func131 rfl C4 (C1 (U (zj p hp) (J (by show Au ((((BK p).map GV).length:Int)-1);unfold Au;rw[Lm];omega) ?_)));refine Z (GV (BK p)[(BK p).length-1]) (J (J aa2 gX) (J rfl (C1 (U (hv) (J ?_ ?_)))))
  .intro h;exact E RC (show(none:Option Int)=AP p by grind)
  intro h;have d1:decide (64<p.data.toList.length)=false:=At Wk;refine J ?_ ?_
  .intro h2;rw[Lm]at h2;exact E RC (show(none:Option Int)=AP p by grind)
  intro h2;have d2:decide ((BK p).length<2)=false:=At (by rw[Lm]at h2;omega);have em2:AP p=if((BK p).all fun x=>H2 x.data.toList)=true then some n else none:=aa2
  refine Z {i:Nat // i<=(BK p).length/\∀j (hj:j<(BK p).length),j<i->H2 ((BK p)[j]).data.toList=true} (Z (fun i=>⟨[(5,G n),(33,sl GV (BK p)),(34,G ((BK p).map GV).length),(35,G i.1)],[],Af⟩) (Z (fun i=>(BK p).length-i.1) (J (Z ⟨0,Ak _,fun j _ h=>by omega⟩ ?_) ?_)))
  .exact⟨Z4,W,Fh,W⟩
  intro⟨i,i1,i2⟩;refine J ?_ ?_
  .intro h;have h:i<(BK p).length:=by simpa using h
   have hg:(BK p)[i]?=some (BK p)[i]:=Ge h;refine Z (GV (BK p)[i]) (J (J Wk (by simp[hg])) (J rfl ?_));have hfi:=hfp (Ag h);have hn:=AdJ (BK p)[i] hfi;have ha:=vU (BK p)[i] 198 VP AdK (by unfold Fp at hfi;have e1:(BK p)[i].size=(BK p)[i].data.toList.length:=aa1;omega);have no:H2 ((BK p)[i]).data.toList=false->(none:Option Int)=AP p:=fun e=>by
    rw[em2,AL];intro GI
    have:=AS.1 GI _ (Ag h)
    grind
   refine Ay (Bt (GD ((BK p)[i]).data.toList)) (fun e1=>?_) (fun e1=>?_)
   rotate_left
   .rw[e1]at hn;refine C1 (U (hn) ?_);exact E RC (no (by unfold H2;grind))
   rw[e1]at hn;refine C1 (U (hn) (Ay (Bt (((BK p)[i]).data.toList.all VP)) (fun e2=>?_) (fun e2=>?_)))
   rotate_left
   .rw[e2]at ha;refine C1 (U (ha) ?_);exact E RC (no (by unfold H2;grind))
   rw[e2]at ha;refine C1 (U (ha) (J (Ii i Wk) (Z ⟨i+1,by omega,fun j hj F6=>?_⟩ ?_)))
   .rcases B9 j i with z | z
    .exact i2 j hj z
    .have:j=i:=Wk
     subst this;unfold H2;grind
   .exact⟨by show(BK p).length-(i+1)<(BK p).length-i;omega,Z4,W,Fh,W⟩
  .intro h;have h:¬i<(BK p).length:=by simpa using h
   have e:some n=AP p:=by
    rw[em2,A1];exact AS.2 fun x hx=>by
     obtain⟨j,hj,rfl⟩:=Hr hx;exact i2 j hj Wk
   exact E RC e
theorem AdC(hp:Fp p):PC 132 [vs p] (I (AP p).isSome):=by
 have hc:=zb p hp;cases h:AP p with
 |none=>
  rw[h]at hc;refine Ps Dc func132 rfl C4 (C1 (U (hc) (J ?_ ?_)))
  .intro h;exact absurd (show(4:Int)=0 from h) aa3
  .intro _;exact .refl _
 |some n=>
  rw[h]at hc;refine Ps Dc func132 rfl C4 (C1 (U (hc) (J ?_ ?_)))
  .intro _;exact .refl _
  .intro h;exact absurd rfl h
theorem Pt(c:UInt8):∀s:List UInt8,2<=(CJ c s).length->c∈s
 | [],h=>by grind [CJ]
 |b::r,h=>by
  rw[CJ]at h
  by_cases e:b=c
  .simp_all
  .rw[AL e]at h;refine Aj _ (Pt c r ?_)
   grind
theorem oC{p:CS}{m:Int}(h:AP p=some m):0<=Go.Lib.lastIndex p.data.toList [47]/\Go.Lib.lastIndex p.data.toList [47]<=p.size:=by
 have h2:2<=(CJ 47 p.data.toList).length:=by
  grind [AP,Pd]
 have hm:=Pt 47 _ h2;obtain⟨i,hi,e⟩:=Hr hm;have FW:p.size=p.data.toList.length:=aa1
 unfold Go.Lib.lastIndex;rw[A1 aa2];have AkV:Go.Lib.occAt p.data.toList [47] i=true:=by
  grind [Go.Lib.occAt,List.drop_eq_getElem_cons]
 grind [Go.Lib.lastOcc_spec]
abbrev Ve:CS:=p.extract 0 (Go.Lib.lastIndex p.data.toList [47]).toNat
theorem Wm:Wh Ve:=by
 intro p hp;have hc:=zb p hp;have hi:=AdC p hp;unfold Xv;cases h:AP p with
 |none=>
  rw[h]at hc hi;refine Ps Dc func66 rfl C4 (C1 (U (hc) (C1 (U (hi) ?_))));exact .refl _
 |some n=>
  rw[h]at hc hi;obtain⟨l1,l2⟩:=oC h;have hl:PC 133 [vs p,vs dA] (G (Go.Lib.lastIndex p.data.toList [47])):=AdD p dA hp;refine Ps Dc func66 rfl C4 (C1 (U (hc) (C1 (U (hi) (J ?_ ?_)))))
  .intro h;exact absurd rfl h
  intro _;refine C1 (U (hl) (J ⟨B4 _,l1,l2⟩ ?_));exact .refl _
end Go.Eng
