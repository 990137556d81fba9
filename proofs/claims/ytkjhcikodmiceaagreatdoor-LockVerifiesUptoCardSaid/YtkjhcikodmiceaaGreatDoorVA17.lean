/- Lemmas 17. -/
import Derived.Test.YtkjhcikodmiceaaGreatDoorVA16
import Derived.Shelf.Strings.SplitShaped
import Derived.Shelf.Strings.LastIndexAll
import Derived.Shelf.Strings.Search3
import Derived.Shelf.Small.Wraps
import Derived.Ground.NamesProg
import Derived.Lib.LastIndexLaws
namespace Go.Eng
open Go.Proofs Go.Proofs.Tryz
variable {nm:CS->CS}(r:Rl)(a c:UInt8)(s:CS)(n:Nat)
abbrev pM:Nat->CS
 |0=>r.arch
 |1=>r.ifc
 |_=>r.cert
theorem ua{r:Rl}(h:∀j,j<3->CI (pM r j)=true):(CI r.arch&&CI r.ifc&&CI r.cert)=true:=by
 have h0:CI r.arch=true:=h 0 aa1;have h1:CI r.ifc=true:=h 1 aa1;have h2:CI r.cert=true:=h 2 aa1;simp_all
theorem Ab2(hL:Vy nm)(r:Rl)(hr:Fk r):PC 97 [.agg (Am r)] (vi (CP r)):=by
 cases fu:AT r.path with
 |none=>
  have e:(4:Int)=CP r:=by grind [CP]
  have hl:=hL.none hr.1 fu;refine Ps CX func97 rfl (Nz rfl) (C1 (C2 (hl) (Yi ?_ ?_)))
  .intro _;exact .of_eq (Aa vi e)
  .intro h;exact absurd (show(4:Int)≠0 by decide) h
 |some m=>
  have er:CP r=if(!By r.ver||!decide (r.ver.a=m))=true then 2 else if AH r.reqs≠0 then AH r.reqs else if(CI r.arch&&CI r.ifc&&CI r.cert)=true then 0 else 1:=by grind [CP]
  have hl:=hL.some hr.1 fu;have hv:=po r.ver;have hc:=c65 hL r.reqs hr.2;rcases Bt (By r.ver)with h2 | h2
  .rw[h2]at hv;refine Ps (DB []) func97 rfl (Nz rfl) (C1 (C2 (hl) (Yi ?_ ?_)))
   .intro h;exact absurd rfl h
   intro _;refine yN (C1 (C2 (hv) (Yi ?_ ?_)))
   .intro h;have e:(2:Int)=CP r:=by simp_all
    exact .of_eq (Aa vi e)
   intro h;have h3:r.ver.a=m:=GF h;have er2:CP r=if AH r.reqs≠0 then AH r.reqs else if(CI r.arch&&CI r.ifc&&CI r.cert)=true then 0 else 1:=by simp_all
   refine C1 (C2 (hc) (Yi ?_ ?_))
   .intro h4;exact .of_eq (Aa vi (show AH r.reqs=CP r by omega))
   intro h4;have er3:CP r=if(CI r.arch&&CI r.ifc&&CI r.cert)=true then 0 else 1:=by omega
   refine Xi {i:Nat // i<=3/\∀j,j<i->CI (pM r j)=true} (Xi (fun i=>⟨[(41,.slice (.id 41 1) [[vs r.arch],[vs r.ifc],[vs r.cert]]),(42,vi 3),(43,vi i.1)],[(41,.tok 1 3)],Af⟩) (Xi (fun i=>3-i.1) (Yi (Xi ⟨0,by omega,fun j h=>by omega⟩ ?_) ?_)))
   .exact⟨Z3,Z1,Fh,Tv⟩
   intro⟨i,i1,i2⟩;refine Yi ?_ ?_
   .intro h;have h:(i:Int)<3:=h;have next:CI (pM r i)=true->∀j,j<i+1->CI (pM r j)=true:=fun hz j hj=>by
     grind
    match i,i1,i2,h,next with
    |0,i1,i2,h,next=>
     refine Xi [vs r.arch] (Yi (Yi Wk rfl) (Yi rfl (Yi ?_ ?_)))
     .intro h5;refine Yi ?_ ?_
      .intro h6;have e:(1:Int)=CP r:=by grind [CI]
       exact .of_eq (Aa vi e)
      .intro h6;refine Yi (by grind [Au]) (Xi ⟨1,by omega,next (show CI r.arch=true by grind [CI])⟩ ?_)
       exact⟨by simp_all,Z3,Z1,Fh,Tv⟩
     .intro h5;refine Yi (by grind [Au]) (Xi ⟨1,by omega,next (show CI r.arch=true by grind [CI])⟩ ?_)
      exact⟨by simp_all,Z3,Z1,Fh,Tv⟩
    |1,i1,i2,h,next=>
     refine Xi [vs r.ifc] (Yi (Yi Wk rfl) (Yi rfl (Yi ?_ ?_)))
     .intro h5;have h5:((r.ifc.size:Nat):Int)≠0:=h5;refine Yi ?_ ?_
      .intro h6;have h6:((r.ifc.size:Nat):Int)≠32:=h6;have e:(1:Int)=CP r:=by grind [CI]
       exact .of_eq (Aa vi e)
      .intro h6;have h6:¬((r.ifc.size:Nat):Int)≠32:=h6;refine Yi (by grind [Au]) (Xi ⟨2,by omega,next (show CI r.ifc=true by grind [CI])⟩ ?_)
       exact⟨by simp_all,Z3,Z1,Fh,Tv⟩
     .intro h5;have h5:¬((r.ifc.size:Nat):Int)≠0:=h5;refine Yi (by grind [Au]) (Xi ⟨2,by omega,next (show CI r.ifc=true by grind [CI])⟩ ?_)
      exact⟨by simp_all,Z3,Z1,Fh,Tv⟩
    |2,i1,i2,h,next=>
     refine Xi [vs r.cert] (Yi (Yi Wk rfl) (Yi rfl (Yi ?_ ?_)))
     .intro h5;have h5:((r.cert.size:Nat):Int)≠0:=h5;refine Yi ?_ ?_
      .intro h6;have h6:((r.cert.size:Nat):Int)≠32:=h6;have e:(1:Int)=CP r:=by grind [CI]
       exact .of_eq (Aa vi e)
      .intro h6;have h6:¬((r.cert.size:Nat):Int)≠32:=h6;refine Yi (by grind [Au]) (Xi ⟨3,by omega,next (show CI r.cert=true by grind [CI])⟩ ?_)
       exact⟨by simp_all,Z3,Z1,Fh,Tv⟩
     .intro h5;have h5:¬((r.cert.size:Nat):Int)≠0:=h5;refine Yi (by grind [Au]) (Xi ⟨3,by omega,next (show CI r.cert=true by grind [CI])⟩ ?_)
      exact⟨by simp_all,Z3,Z1,Fh,Tv⟩
    |i+3,i1,i2,h,next=>omega
   .intro h;have h:¬(i:Int)<3:=h;have e:(0:Int)=CP r:=by grind [ua]
    exact .of_eq (Aa vi e)
  .rw[h2]at hv;have e:(2:Int)=CP r:=by simp_all
   refine Ps (DB []) func97 rfl (Nz rfl) (C1 (C2 (hl) (Yi ?_ ?_)))
   .intro h;exact absurd rfl h
   intro _;refine yN (C1 (C2 (hv) ?_));exact .of_eq (Aa vi e)
theorem uX{a b:Rl}(h:a.path=b.path/\a.ver.a=b.ver.a/\a.ver.b=b.ver.b/\a.ver.c=b.ver.c):Cp a=Cp b:=by
 unfold Cp;obtain⟨h1,h2,h3,h4⟩:=h
 have:a.ver=b.ver:=by
  cases ha:a.ver<;>simp_all
 simp_all
theorem WJ{a b:Rl}(h:Cp a=Cp b):a.path=b.path/\a.ver.a=b.ver.a/\a.ver.b=b.ver.b/\a.ver.c=b.ver.c:=by
 grind [Cp]
abbrev Xy(x:List Rl):Nat->Option Rl
 |0=>none
 |k+1=>x[k]?
theorem xp(hL:Vy nm)(x:List Rl)(ifs:C0)(hs:∀r∈x,Fk r):PC 47 [.agg (Ic x ifs)] (vi (At x)):=by
 refine Ps (DB []) func47 rfl (Nz rfl) (Yi ?_ ?_)
 .intro h;exact .of_eq (Aa vi (show(7:Int)=At x by grind [At]))
 intro h;have hl:x.length<=256:=by grind
 have Uc:At x=B5 none x:=by grind [At]
 refine Xi {i:Nat // i<=x.length/\B5 none x=B5 (Xy x i) (x.drop i)} (Xi (fun i=>⟨[(1,.ref 1 0),(12,sl Am x),(13,vi (x.map Am).length),(14,vi i.1)],[(1,.cells (Ic x ifs))],Af⟩) (Xi (fun i=>x.length-i.1) (Yi (Xi ⟨0,Al _,rfl⟩ ?_) ?_)))
 .exact⟨Z4,Z1,Fh,Tv⟩
 intro⟨i,h1,h2⟩;refine Yi ?_ ?_
 .intro h;have h:i<x.length:=by simp_all
  have hg:x[i]?=some x[i]:=Ge h;have hd:x.drop i=x[i]::x.drop (i+1):=Be h;have hc:=Ab2 hL x[i] (hs x[i] (Ah h));have JL:B5 none x=if CP x[i]≠0 then CP x[i]else match Xy x i with
   |none=>B5 (some x[i]) (x.drop (i+1))
   |some b=>if Cp b=Cp x[i]then 5 else if 0<IJ b x[i]then 1 else B5 (some x[i]) (x.drop (i+1)):=by rw[h2,hd];rfl
  have sF:Xy x (i+1)=some x[i]:=Ge h;refine Xi (Am x[i]) (Yi (Yi Wk (by simp[hg])) (Yi rfl ?_));refine Yi (Nz rfl) (Yi (Nz rfl) (yN (C1 (C2 (hc) (Yi ?_ ?_)))))
  .intro h4;exact .of_eq (Aa vi (show CP x[i]=At x by omega))
  intro h4;refine Yi ?_ ?_
  .intro h5;have h5:(i:Int)=0:=h5;have h6:i=0:=by omega
   refine Yi (Ii i Wk) (Xi ⟨i+1,by omega,by grind⟩ ?_);exact⟨Dl x.length i Wk,Z4,Z1,Fh,Tv⟩
  intro h5;have h5:¬(i:Int)=0:=h5;have uy:i-1<x.length:=by omega
  have hb:Xy x i=some x[i-1]:=by
   grind
  have AcQ:B5 none x=if Cp x[i-1]=Cp x[i]then 5 else if 0<IJ x[i-1] x[i]then 1 else B5 (some x[i]) (x.drop (i+1)):=by grind
  refine Yi (by grind [Au]) ?_;have fp:(x.map Am)[((i:Int)-1).toNat]?=some (Am x[i-1]):=by rw[show((i:Int)-1).toNat=i-1 by omega];grind
  refine Xi (Am x[i-1]) (Yi (Yi Wk fp) (Yi rfl (Yi (Nz rfl) (yN (yN (C2 (tw x[i-1]) (yN (C2 (tw x[i]) (Yi ?_ ?_)))))))))
  .intro h6;refine Yi aa2 ?_;have e:(5:Int)=At x:=by rw[Uc,AcQ,A3 (uX ⟨h6.1,h6.2.1,h6.2.2.1,h6.2.2.2.1⟩)]
   exact .of_eq (Aa vi e)
  intro h6;refine Yi aa2 ?_;have h7:¬Cp x[i-1]=Cp x[i]:=fun e=>by
   have e:=WJ e;exact h6 ⟨e.1,e.2.1,e.2.2.1,e.2.2.2,trivial⟩
  refine Yi (Nz rfl) (yN (C1 (C2 (Ab3 x[i-1] x[i]) (Yi ?_ ?_))))
  .intro h8;have e:(1:Int)=At x:=by grind
   exact .of_eq (Aa vi e)
  .intro h8;refine Yi (Ii i Wk) (Xi ⟨i+1,by omega,by grind⟩ ?_);exact⟨Dl x.length i Wk,Z4,Z1,Fh,Tv⟩
 .intro h;have h:¬i<x.length:=by simp_all
  have e:(0:Int)=At x:=by rw[Uc,h2,HJ Wk];rfl
  exact .of_eq (Aa vi e)
abbrev rlC(a:AV):List AV:=[vs r.path,vi r.ver.a,vi r.ver.b,vi r.ver.c,a,vs r.arch,vs r.ifc,vs r.cert,vb r.yanked]
abbrev AdW:M5:=⟨[],[],[],[],[],[],[],[(9,(1,4,900,2))],[],[],[]⟩
theorem c98(hr:r.reqs.length<=1000)(hs:∀q∈r.reqs,BO q.set):PC 86 [.agg (Am r)] (.agg (Am r)):=by
 refine Ps AdW func86 rfl (Nz rfl) (yN (Xi {i:Nat // i<=r.reqs.length} (Xi (fun i=>⟨[(1,.ref 1 0),(2,.ref 2 0),(9,sl Ad r.reqs),(10,vi (r.reqs.map Ad).length),(11,vi i.1)],[(1,.cells (rlC r (.slice (.id 900 2) ((r.reqs.take i.1).map Ad)))),(2,.cells YI),(900,.tok 2 ((r.reqs.take i.1).map Ad).length)],Af⟩) (Xi (fun i=>r.reqs.length-i.1) (Yi (Xi ⟨0,Al _⟩ ?_) ?_)))))
 .exact⟨Z5,Z3,Fh,Tv⟩
 intro⟨i,h1⟩;refine Yi ?_ ?_
 .intro h;have h:i<r.reqs.length:=by simp_all
  have hg:r.reqs[i]?=some r.reqs[i]:=Ge h;refine Xi (Ad r.reqs[i]) (Yi (Yi Wk (by simp_all)) (Yi rfl ?_));have hq:=hs r.reqs[i] (Ah h);refine Yi (Nz rfl) (yN (C1 (C2 (w7 r.reqs[i].set hq) (yN (yN ?_)))));have CY:Bh 2 [Ad r.reqs[i]]/\((r.reqs.take i).map Ad).length=((r.reqs.take i).map Ad).length/\(((r.reqs.take i).map Ad).length+[Ad r.reqs[i]].length)*40<=140737488355328/\((r.reqs.take i).map Ad).length+[Ad r.reqs[i]].length<=9223372036854775807:=
   ⟨⟨rfl,trivial⟩,rfl,by grind,by grind⟩
  refine Yi CY (yN (Yi (by grind [Au]) (Xi ⟨i+1,by omega⟩ ?_)));have et:(r.reqs.take (i+1)).map Ad=(r.reqs.take i).map Ad++[Ad r.reqs[i]]:=by rw[Dm,hg,Bk];rfl
  have e1:HO.cells (rlC r (.slice (.id 900 2) ((r.reqs.take i).map Ad++[Ad r.reqs[i]])))=.cells (rlC r (.slice (.id 900 2) ((r.reqs.take (i+1)).map Ad))):=by rw[et]
  have e2:HO.tok 2 (((r.reqs.take i).map Ad).length+[Ad r.reqs[i]].length)=.tok 2 ((r.reqs.take (i+1)).map Ad).length:=by simp_all
  exact⟨by grind,Z5,⟨⟨e1,rfl⟩,Zr,⟨e2,rfl⟩,Tv⟩,Fh,Tv⟩
 .intro h;have h:¬i<r.reqs.length:=by simp_all
  refine Yi (Nz rfl) (Yi (Nz rfl) (yN ?_));have e:AV.agg (rlC r (.slice .none ((r.reqs.take i).map Ad)))=.agg (Am r):=by grind
  exact .of_eq e
abbrev vc:AV:=.v (.int .u8 c.toNat)
theorem Xe(h:n<256):decide (UInt8.ofNat n<=a)=decide ((n:Int)<=(a.toNat:Int)):=by
 grind [UInt8.le_iff_toNat_le,UInt8.toNat_ofNat']
theorem Xd(h:n<256):decide (a<=UInt8.ofNat n)=decide ((a.toNat:Int)<=(n:Int)):=by
 grind [UInt8.le_iff_toNat_le,UInt8.toNat_ofNat']
theorem tQ:PC 199 [vc c] (vb (ED c)):=by
 refine Ps CX func199 rfl (Nz rfl) ?_;have e1:decide ((97:UInt8)<=c)=decide ((97:Int)<=(c.toNat:Int)):=Xe c 97 aa1;have e2:decide (c<=(122:UInt8))=decide ((c.toNat:Int)<=(122:Int)):=Xd c 122 aa1;have es:ED c=(decide ((97:Int)<=(c.toNat:Int))&&decide ((c.toNat:Int)<=(122:Int))):=by grind [ED]
 refine Yi ?_ ?_
 .intro h;refine Yi ?_ ?_
  .intro h2;exact .of_eq (Aa vb (show true=ED c by simp_all))
  .intro h2;exact .of_eq (Aa vb (show false=ED c by simp_all))
 .intro h;exact .of_eq (Aa vb (show false=ED c by simp_all))
theorem tR:PC 200 [vc c] (vb (Cn c)):=by
 refine Ps CX func200 rfl (Nz rfl) ?_;have e1:decide ((48:UInt8)<=c)=decide ((48:Int)<=(c.toNat:Int)):=Xe c 48 aa1;have e2:decide (c<=(57:UInt8))=decide ((c.toNat:Int)<=(57:Int)):=Xd c 57 aa1;have es:Cn c=(decide ((48:Int)<=(c.toNat:Int))&&decide ((c.toNat:Int)<=(57:Int))):=by grind [Cn]
 refine Yi ?_ ?_
 .intro h;refine Yi ?_ ?_
  .intro h2;exact .of_eq (Aa vb (show true=Cn c by simp_all))
  .intro h2;exact .of_eq (Aa vb (show false=Cn c by simp_all))
 .intro h;exact .of_eq (Aa vb (show false=Cn c by simp_all))
theorem AbO:PC 330 [vc c] (vb (Mn c)):=by
 refine Ps CX func330 rfl (Nz rfl) ?_;have e1:decide ((65:UInt8)<=c)=decide ((65:Int)<=(c.toNat:Int)):=Xe c 65 aa1;have e2:decide (c<=(90:UInt8))=decide ((c.toNat:Int)<=(90:Int)):=Xd c 90 aa1;have es:Mn c=(decide ((65:Int)<=(c.toNat:Int))&&decide ((c.toNat:Int)<=(90:Int))):=by grind [Mn]
 refine Yi ?_ ?_
 .intro h;refine Yi ?_ ?_
  .intro h2;exact .of_eq (Aa vb (show true=Mn c by simp_all))
  .intro h2;exact .of_eq (Aa vb (show false=Mn c by simp_all))
 .intro h;exact .of_eq (Aa vb (show false=Mn c by simp_all))
abbrev Va:Bool:=ED c||Cn c
theorem AbD:PC 198 [vc c] (vb (Va c)):=by
 have h1:=tQ c;have h2:=tR c;rcases Bt (ED c)with e | e
 .rw[e]at h1;refine Ps CX func198 rfl (Nz rfl) (C1 (C2 (h1) ?_));exact .of_eq (Aa vb (show true=Va c by simp_all))
 .rw[e]at h1;refine Ps CX func198 rfl (Nz rfl) (C1 (C2 (h1) (C1 (C2 (h2) ?_))));exact .of_eq (Aa vb (show Cn c=Va c by simp_all))
theorem AbJ:PC 265 [vc c] (vb (FS c)):=by
 have h1:=tQ c;have h2:=AbO c;have h3:=tR c;have ew:FS c=(ED c||Mn c||Cn c||decide (c=95)):=rfl;rcases Bt (ED c)with e | e
 .rw[e]at h1;refine Ps CX func265 rfl (Nz rfl) (C1 (C2 (h1) ?_));exact .of_eq (Aa vb (show true=FS c by simp_all))
 rw[e]at h1;rcases Bt (Mn c)with e2 | e2
 .rw[e2]at h2;refine Ps CX func265 rfl (Nz rfl) (C1 (C2 (h1) (C1 (C2 (h2) ?_))));exact .of_eq (Aa vb (show true=FS c by simp_all))
 rw[e2]at h2;rcases Bt (Cn c)with e3 | e3
 .rw[e3]at h3;refine Ps CX func265 rfl (Nz rfl) (C1 (C2 (h1) (C1 (C2 (h2) (C1 (C2 (h3) ?_))))));exact .of_eq (Aa vb (show true=FS c by simp_all))
 rw[e3]at h3;refine Ps CX func265 rfl (Nz rfl) (C1 (C2 (h1) (C1 (C2 (h2) (C1 (C2 (h3) ?_))))));have eb:decide (c=95)=decide ((c.toNat:Int)=95):=by
  rw[Cy,A4,A4];constructor
  .simp_all
  .intro h;exact H1.1 (by grind)
 refine Yi ?_ ?_
 .intro h;exact .of_eq (Aa vb (show true=FS c by simp_all))
 .intro h;exact .of_eq (Aa vb (show false=FS c by simp_all))
theorem pe(i:Nat)(h:i<s.data.toList.length):s.data[i]?=some s.data.toList[i]:=by
 simp_all
theorem tO(f:Nat)(q:UInt8->Bool)(hf:∀c,PC f [vc c] (vb (q c)))(hs:s.data.toList.length<4611686018427387904):PC 197 [vs s,.v (Hf f)] (vb (s.data.toList.all q)):=by
 have FI:s.size=s.data.toList.length:=by simp
 refine Ps CX func197 rfl (Nz rfl) (Xi {i:Nat // i<=s.data.toList.length/\∀j (hj:j<s.data.toList.length),j<i->q s.data.toList[j]=true} (Xi (fun i=>⟨[(0,vs s),(1,.v (Hf f)),(7,vi s.size),(8,vi i.1)],[],Af⟩) (Xi (fun i=>s.data.toList.length-i.1) (Yi (Xi ⟨0,Al _,fun j _ h=>by omega⟩ ?_) ?_))))
 .exact⟨Z4,Tv,Fh,Tv⟩
 intro⟨i,h1,h2⟩;refine Yi ?_ ?_
 .intro h;have h:(i:Int)<(s.size:Nat):=h;have h:i<s.data.toList.length:=by omega
  refine Xi s.data.toList[i] (Yi ⟨by omega,by grind⟩ ?_);have hc:=hf s.data.toList[i];refine Ax (Bt (q s.data.toList[i])) (fun e=>?_) (fun e=>?_)
  .rw[e]at hc;refine C1 (C2 (hc) (Yi (by grind [Au]) (Xi ⟨i+1,by omega,fun j hj GC=>?_⟩ ?_)))
   .grind
   .exact⟨by grind,Z4,Tv,Fh,Tv⟩
  .rw[e]at hc;refine C1 (C2 (hc) ?_);have er:s.data.toList.all q=false:=by
    grind
   exact .of_eq (Aa vb er.symm)
 .intro h;have h:¬(i:Int)<(s.size:Nat):=h;have er:s.data.toList.all q=true:=A0.2 fun c hc=>by
   grind [List.getElem_of_mem]
  exact .of_eq (Aa vb er.symm)
end Go.Eng
namespace Go.Proofs
open Go.Proofs.Tryz
open Go.Shelf
def Tryz.laySplit_ren:Go.Shelf.Ren:=⟨fun | 146=>194 | 221=>263 | 268=>326 | 138=>327 | 143=>328 | 195=>361 | 197=>362 | 218=>363 | 219=>364 | 260=>381 | 217=>382 | 225=>383 | 224=>384 | 267=>385 | 266=>399 | 314=>400 | n=>n,fun | 9=>9 | 31=>144 | 3=>3 | 4=>4 | 0=>0 | 105=>422 | 21=>21 | 5=>5 | 46=>240 | 119=>444 | 139=>447 | 138=>446 | 146=>352 | 51=>299 | n=>n,fun | 1=>0 | 3=>1 | 4=>2 | n=>n⟩
theorem Tryz.laySplit:Go.Proofs.Lays.n146 Tryz.prog Tryz.laySplit_ren:={
 mixed:=by kernel_rfl
 f138:=Go.Eng.A0a func327
 f143:=Go.Eng.A0a func328
 f146:=Go.Eng.A0a func194
 f195:=Go.Eng.A0a func361
 f197:=Go.Eng.A0a func362
 f217:=Go.Eng.A0a func382
 f218:=Go.Eng.A0a func363
 f219:=Go.Eng.A0a func364
 f221:=Go.Eng.A0a func263
 f224:=Go.Eng.A0a func384
 f225:=Go.Eng.A0a func383
 f260:=Go.Eng.A0a func381
 f266:=Go.Eng.A0a func399
 f267:=Go.Eng.A0a func385
 f268:=Go.Eng.A0a func326
 f314:=Go.Eng.A0a func400
 t0:=underlying0
 a0:=isAgg0
 z0:=sizeOf0
 v0:=zeroValue0
 t3:=underlying3
 a3:=isAgg3
 z3:=sizeOf3
 v3:=zeroValue3
 t4:=underlying4
 a4:=isAgg4
 z4:=sizeOf4
 v4:=zeroValue4
 t5:=underlying5
 a5:=isAgg5
 z5:=sizeOf5
 v5:=zeroValue5
 t9:=underlying9
 a9:=isAgg9
 z9:=sizeOf9
 v9:=zeroValue9
 t21:=underlying21
 a21:=isAgg21
 z21:=sizeOf21
 v21:=zeroValue21
 t31:=underlying144
 a31:=isAgg144
 z31:=sizeOf144
 v31:=zeroValue144
 t46:=underlying240
 a46:=isAgg240
 z46:=sizeOf240
 v46:=zeroValue240
 t51:=underlying299
 a51:=isAgg299
 z51:=sizeOf299
 v51:=zeroValue299
 t105:=underlying422
 a105:=isAgg422
 z105:=sizeOf422
 v105:=zeroValue422
 t119:=underlying444
 a119:=isAgg444
 z119:=sizeOf444
 t138:=underlying446
 a138:=isAgg446
 z138:=sizeOf446
 v138:=zeroValue446
 t139:=underlying447
 a139:=isAgg447
 z139:=sizeOf447
 v139:=zeroValue447
 t146:=underlying352
 a146:=isAgg352
 z146:=sizeOf352
 v146:=zeroValue352
 g1:=by kernel_rfl
 g3:=by kernel_rfl
 g4:=by kernel_rfl }
def Tryz.layLast_ren:Go.Shelf.Ren:=⟨fun | 148=>133 | 222=>201 | 223=>202 | 269=>267 | n=>n,fun | 9=>9 | 3=>3 | 4=>4 | 5=>5 | 146=>352 | 51=>299 | 46=>240 | n=>n,fun | n=>n⟩
theorem Tryz.layLast:Go.Proofs.Lays.n148 Tryz.prog Tryz.layLast_ren:={
 mixed:=by kernel_rfl
 f148:=Go.Eng.A0a func133
 f222:=Go.Eng.A0a func201
 f223:=Go.Eng.A0a func202
 f269:=Go.Eng.A0a func267
 t3:=underlying3
 a3:=isAgg3
 z3:=sizeOf3
 v3:=zeroValue3
 t4:=underlying4
 a4:=isAgg4
 z4:=sizeOf4
 v4:=zeroValue4
 t5:=underlying5
 a5:=isAgg5
 z5:=sizeOf5
 v5:=zeroValue5
 t9:=underlying9
 a9:=isAgg9
 z9:=sizeOf9
 v9:=zeroValue9
 t46:=underlying240
 a46:=isAgg240
 z46:=sizeOf240
 v46:=zeroValue240
 t51:=underlying299
 a51:=isAgg299
 z51:=sizeOf299
 v51:=zeroValue299
 t146:=underlying352
 a146:=isAgg352
 z146:=sizeOf352
 v146:=zeroValue352 }
def Tryz.layCut_ren:Go.Shelf.Ren:=⟨fun | 103=>264 | 210=>329 | 206=>335 | n=>n,fun | 9=>9 | 4=>4 | 24=>261 | 3=>3 | n=>n,fun | n=>n⟩
theorem Tryz.layCut:Go.Proofs.Lays.n103 Tryz.prog Tryz.layCut_ren:={
 mixed:=by kernel_rfl
 f103:=Go.Eng.A0a func264
 f206:=Go.Eng.A0a func335
 f210:=Go.Eng.A0a func329
 t3:=underlying3
 a3:=isAgg3
 z3:=sizeOf3
 v3:=zeroValue3
 t4:=underlying4
 a4:=isAgg4
 z4:=sizeOf4
 v4:=zeroValue4
 t9:=underlying9
 a9:=isAgg9
 z9:=sizeOf9
 v9:=zeroValue9
 t24:=underlying261
 a24:=isAgg261
 z24:=sizeOf261
 v24:=zeroValue261 }
def Tryz.layCont_ren:Go.Shelf.Ren:=⟨fun | 144=>331 | 143=>328 | 219=>364 | 217=>382 | 225=>383 | 224=>384 | 267=>385 | 266=>399 | 314=>400 | n=>n,fun | 9=>9 | 4=>4 | 3=>3 | 5=>5 | 46=>240 | 146=>352 | 51=>299 | n=>n,fun | 1=>0 | n=>n⟩
theorem Tryz.layCont:Go.Proofs.Lays.n144 Tryz.prog Tryz.layCont_ren:={
 mixed:=by kernel_rfl
 f143:=Go.Eng.A0a func328
 f144:=Go.Eng.A0a func331
 f217:=Go.Eng.A0a func382
 f219:=Go.Eng.A0a func364
 f224:=Go.Eng.A0a func384
 f225:=Go.Eng.A0a func383
 f266:=Go.Eng.A0a func399
 f267:=Go.Eng.A0a func385
 f314:=Go.Eng.A0a func400
 t3:=underlying3
 a3:=isAgg3
 z3:=sizeOf3
 v3:=zeroValue3
 t4:=underlying4
 a4:=isAgg4
 z4:=sizeOf4
 v4:=zeroValue4
 t5:=underlying5
 a5:=isAgg5
 z5:=sizeOf5
 v5:=zeroValue5
 t9:=underlying9
 a9:=isAgg9
 z9:=sizeOf9
 v9:=zeroValue9
 t46:=underlying240
 a46:=isAgg240
 z46:=sizeOf240
 v46:=zeroValue240
 t51:=underlying299
 a51:=isAgg299
 z51:=sizeOf299
 v51:=zeroValue299
 t146:=underlying352
 a146:=isAgg352
 z146:=sizeOf352
 v146:=zeroValue352
 g1:=by kernel_rfl }
end Go.Proofs
namespace Go.Eng
open Go.Proofs Go.Proofs.Tryz
variable (s p:CS)
abbrev bY:CS:=⟨#[47]⟩
abbrev BL:List CS:=Go.Lib.splitB bY 0 (Go.Lib.countB s bY) s
theorem Qg:(BL s).map (·.data.toList)=CD 47 s.data.toList:=jT s 47
abbrev GN:List AV:=[vs s]
theorem xl(hs:Fl s):PC 194 [vs s,vs bY] (sl GN (BL s)):=by
 unfold Fl at hs;have h:=jB (P:=Tryz.prog) (f:=194) (args:=[vs s,vs bY]) [.string s,.string bY] ((BL s).map Value.string) 9 (ie 194 func194 aa2 rfl) rfl (fun x hx=>by
  obtain⟨y,_,rfl⟩:=Ar.1 hx;rfl) (fun w hm=>by
  obtain⟨m,hm⟩:=hm;have hl:(BL s).length=Go.Lib.countB s bY+1:=Go.Lib.splitB_all bY aa1 0 _ s rfl;refine(Any.strings_Split Tryz.laySplit aa2 s bY m w Wk hm aa1).mono ?_
  rintro e w' ⟨rfl,rfl⟩
  exact⟨by simp_all,rfl⟩)
 rw[BX]at h;exact h
theorem Abw(hs:Fl s):PC 133 [vs s,vs p] (vi (Go.Lib.lastIndex s.data.toList p.data.toList)):=by
 unfold Fl at hs;exact LF [.string s,.string p] (.int .i64 (Go.Lib.lastIndex s.data.toList p.data.toList)) (ie 133 func133 aa2 rfl) rfl (fun g w=>.v _ _) fun w _=>Any.strings_LastIndex Tryz.layLast s p Wk w
theorem AbI:PC 264 [vs s,vs p] (.tup [vs ⟨(Go.Lib.trimPrefix s.data.toList p.data.toList).toArray⟩,vb (Go.Lib.hasPrefix s.data.toList p.data.toList)]):=by
 exact LF [.string s,.string p] _ (ie 264 func264 aa2 rfl) rfl (fun g w=>nP [.string ⟨(Go.Lib.trimPrefix s.data.toList p.data.toList).toArray⟩,.bool (Go.Lib.hasPrefix s.data.toList p.data.toList)]) fun w _=>Any.strings_CutPrefix Tryz.layCut s p w
theorem AbP(hs:Fl s):PC 331 [vs s,vs p] (vb (Go.Lib.contains s.data.toList p.data.toList)):=by
 unfold Fl at hs;exact LF [.string s,.string p] (.bool (Go.Lib.contains s.data.toList p.data.toList)) (ie 331 func331 aa2 rfl) rfl (fun g w=>.v _ _) fun w hm=>by
  obtain⟨m,hm⟩:=hm;exact Any.strings_Contains Tryz.layCont s p m w Wk hm
theorem fW:∀x y:List UInt8,Qi x y=x.isPrefixOf y
 | [],_=>by simp[Qi]
 |_::_,[]=>rfl
 |a::x,b::y=>by
  rw[Qi,List.isPrefixOf_cons_cons,fW x y]
  rfl
theorem mH(x:List UInt8):∀y:List UInt8,oU x y=Go.Lib.contains y x
 | []=>by
  unfold Go.Lib.contains Go.Lib.index;cases x<;>rfl
 |b::y=>by
  rw[oU,fW,mH x y]
  grind [Go.Lib.contains,Go.Lib.index]
theorem Oq:∀(l:List UInt8) (h:0<l.length),l.headD 0=l[0]
 | [],h=>by grind
 |_::_,_=>rfl
abbrev sO:CS:=⟨⟨de⟩⟩
theorem AbK(hs:Fl s):PC 266 [vs s] (vb (VL s.data.toList)):=by
 unfold Fl at hs;have hc:=AbP sO ((⟨#[32]⟩++s)++⟨#[32]⟩) (Ee aa2);have e:Go.Lib.contains sO.data.toList ((⟨#[32]⟩++s:CS)++⟨#[32]⟩).data.toList=VL s.data.toList:=by
  unfold VL;rw[mH]
  congr 1
 rw[e]at hc;refine Ps CX func266 rfl (Nz rfl) (Yi (by show(((1+s.size:Nat)):Int)<=_;omega) ?_);refine Yi (by show(((⟨#[32]⟩++s:CS).size+1:Nat):Int)<=_;rw[ByteArray.size_append];show(((1+s.size)+1:Nat):Int)<=_;omega) ?_;refine C1 (C2 (hc) ?_);exact .refl _
theorem AbC(hs:Fl s):PC 196 [vs s] (vb (Gx s.data.toList)):=by
 have hk:=AbK s hs;have hw:=tO s 265 FS AbJ (by unfold Fl at hs;simp;omega);have FI:s.size=s.data.toList.length:=by simp
 have en:Gx s.data.toList=(!s.data.toList.isEmpty&&decide (s.data.toList.length<=32)&&ED (s.data.toList.headD 0)&&s.data.toList.all FS&&!VL s.data.toList):=rfl
 by_cases h0:s=⟨#[]⟩
 .subst h0;refine Ps CX func196 rfl (Nz rfl) (Yi ?_ ?_)
  .intro h;exact absurd rfl (show(⟨#[]⟩:CS)≠⟨#[]⟩from h)
  .intro _;exact .refl _
 have h0' : s.data.toList≠[]:=fun e=>h0 (by
  have:s.data=#[]:=by simp_all
  cases s;simp_all)
 have CL:0<s.data.toList.length:=List.length_pos_iff.2 h0';have ql:s.data.toList.isEmpty=false:=by
  grind
 have hhd:s.data.toList.headD 0=s.data.toList[0]:=Oq _ CL;have qy:=tQ s.data.toList[0];refine Ps CX func196 rfl (Nz rfl) (Yi ?_ ?_)
 rotate_left
 .intro h;exact absurd h0 h
 intro _;refine Yi ?_ ?_
 rotate_left
 .intro h;exact .of_eq (Aa vb (show false=Gx s.data.toList by grind))
 intro h;refine Xi s.data.toList[0] (Yi ⟨Cb _,pe s 0 CL⟩ (Ax (Bt (ED s.data.toList[0])) (fun e1=>?_) (fun e1=>?_)))
 rotate_left
 .rw[e1]at qy;refine C1 (C2 (qy) ?_);exact .of_eq (Aa vb (show false=Gx s.data.toList by grind))
 rw[e1]at qy;refine C1 (C2 (qy) (Ax (Bt (s.data.toList.all FS)) (fun e2=>?_) (fun e2=>?_)))
 rotate_left
 .rw[e2]at hw;refine C1 (C2 (hw) ?_);exact .of_eq (Aa vb (show false=Gx s.data.toList by grind))
 rw[e2]at hw;refine C1 (C2 (hw) ?_);have ef:Gx s.data.toList=!VL s.data.toList:=by grind
 refine Ax (Bt (VL s.data.toList)) (fun e3=>?_) (fun e3=>?_)
 .rw[e3]at hk;refine C1 (C2 (hk) ?_);exact .of_eq (Aa vb (show false=Gx s.data.toList by grind))
 .rw[e3]at hk;refine C1 (C2 (hk) ?_);exact .of_eq (Aa vb (show true=Gx s.data.toList by grind))
abbrev Yz:Option Int->AV
 |some n=>.tup [vi n,vb true]
 |none=>.tup [vi 0,vb false]
theorem S8{z:Int}(h0:0<=z)(h1:z<256):IntKind.u8.wrap z=z:=by
 show z % 256=z;omega
theorem Jw{c:UInt8}(h:Cn c=true):48<=c.toNat/\c.toNat<=57:=by
 grind [Cn,UInt8.le_iff_toNat_le]
theorem KT(r:List UInt8)(i:Nat)(h:i<r.length):DW (r.take (i+1))=10*DW (r.take i)+((r[i].toNat:Int)-48):=by
 grind [DW,List.take_add_one]
theorem AbB(hs:Fl s):PC 195 [vs s] (Yz (Gr s.data.toList)):=by
 unfold Fl at hs;have hc:=AbI s ⟨#[118]⟩
 by_cases hp:∃r,s.data.toList=118::r
 .obtain⟨r,hr⟩:=hp;have e1:Go.Lib.hasPrefix s.data.toList (⟨#[118]⟩:CS).data.toList=true:=by rw[hr];rfl
  have e2:Go.Lib.trimPrefix s.data.toList (⟨#[118]⟩:CS).data.toList=r:=by grind [Go.Lib.trimPrefix]
  rw[e1,e2]at hc;have hv:Gr s.data.toList=if(r.isEmpty||decide (3<r.length)||(decide (1<r.length)&&decide (r.headD 0=48))||!r.all Cn)=true then none else some (DW r):=by rw[hr];rfl
  have hrl:r.length<s.size:=by
   have:s.size=s.data.toList.length:=by simp
   simp_all
  generalize hB:(⟨r.toArray⟩:CS)=rB at hc;have xQ:rB.data.toList=r:=by grind
  have hBs:rB.size=r.length:=by rw[<-hB];rfl
  have hw:=tO rB 200 Cn tR (by grind);rw[xQ]at hw;have no:∀{b:Bool},b=true->(if b=true then none else some (DW r))=(none:Option Int):=fun h=>A3 h;refine Ps (DB []) func195 rfl (Nz rfl) (C1 (C2 (hc) (Yi ?_ ?_)))
  .intro h
   have:r=[]:=by simp_all
   exact .of_eq (Aa Yz (show(none:Option Int)=Gr s.data.toList by simp_all))
  intro h;have EG:r≠[]:=fun e=>h (by simp_all);have CL:0<r.length:=List.length_pos_iff.2 EG;have ql:r.isEmpty=false:=by
   simp_all
  refine Yi ?_ ?_
  .intro h2;exact .of_eq (Aa Yz (show(none:Option Int)=Gr s.data.toList by grind))
  intro h2;have yF:r.length<=3:=by omega
  have d3:decide (3<r.length)=false:=Aq Wk;refine Yi ?_ ?_
  .intro h3;have Acy:rB.data[(0:Int).toNat]?=some r[0]:=by
    grind
   refine Xi r[0] (Yi ⟨Cb _,Acy⟩ ?_);have hh:=Oq r CL;refine Yi ?_ ?_
   .intro h4
    have:r[0]=48:=H1.1 (by grind)
    exact .of_eq (Aa Yz (show(none:Option Int)=Gr s.data.toList by grind))
   intro h4;have eo:(decide (1<r.length)&&decide (r.headD 0=48))=false:=by rw[hh,Aq (show ¬r[0]=48 from fun e=>h4 (by simp_all)),Bool.and_false]
   have hv2:Gr s.data.toList=if(!r.all Cn)=true then none else some (DW r):=by grind
   refine Ax (Bt (r.all Cn)) (fun e3=>?_) (fun e3=>?_)
   rotate_left
   .rw[e3]at hw;refine C1 (C2 (hw) ?_);exact .of_eq (Aa Yz (show(none:Option Int)=Gr s.data.toList by simp_all))
   rw[e3]at hw;refine C1 (C2 (hw) ?_);have hv3:Gr s.data.toList=some (DW r):=by simp_all
   have z0:DW (r.take 0)=0:=rfl;refine Xi {i:Nat // i<=r.length/\0<=DW (r.take i)/\(i=0->DW (r.take i)<=0)/\(i<=1->DW (r.take i)<=9)/\(i<=2->DW (r.take i)<=99)/\DW (r.take i)<=999} (Xi (fun i=>⟨[(0,vs rB),(5,vi (DW (r.take i.1))),(39,vi rB.size),(40,vi i.1)],[],Af⟩) (Xi (fun i=>r.length-i.1) (Yi (Xi ⟨0,Al _,by omega,fun _=>by omega,fun _=>by omega,fun _=>by omega,by omega⟩ ?_) ?_)))
   .exact⟨Z4,Tv,Fh,Tv⟩
   intro⟨i,i1,i2,i3,i4,i5,i6⟩;refine Yi ?_ ?_
   .intro h;have h:(i:Int)<(rB.size:Nat):=h;have h:i<r.length:=by omega
    have hdg:Cn r[i]=true:=A0.1 e3 _ (Ah h);have su:=Jw hdg;have kk:=KT r i h;have oT:IntKind.u8.wrap ((r[i].toNat:Int)-48)=(r[i].toNat:Int)-48:=S8 Wk Wk;have Oo:rB.data[((i:Nat):Int).toNat]?=some r[i]:=by grind
    refine Yi (by show Au (10*DW (r.take i));unfold Au;omega) (Xi r[i] (Yi ⟨by omega,Oo⟩ ?_));refine Yi (by show Au (IntKind.u8.wrap ((r[i].toNat:Int)-48));rw[oT];unfold Au;omega) ?_;refine Yi (by show Au (10*DW (r.take i)+IntKind.u8.wrap ((r[i].toNat:Int)-48));rw[oT];unfold Au;omega) ?_;refine Yi (Ii i Wk) ?_;have e5:vi (10*DW (r.take i)+IntKind.u8.wrap ((r[i].toNat:Int)-48))=vi (DW (r.take (i+1))):=by simp_all
    refine Xi ⟨i+1,by omega,by omega,fun _=>by omega,fun _=>by omega,fun _=>by omega,by omega⟩ ?_;exact⟨Dl r.length i Wk,⟨Zr,⟨e5,rfl⟩,Zr,Zr,Tv⟩,Tv,Fh,Tv⟩
   .intro h;have h:¬(i:Int)<(rB.size:Nat):=h;have e6:AV.tup [vi (DW (r.take i)),vb true]=Yz (Gr s.data.toList):=by grind
    exact .of_eq e6
  .intro h3;have h3:¬(1:Int)<((rB.size:Nat):Int):=h3;have eo:(decide (1<r.length)&&decide (r.headD 0=48))=false:=by grind
   have hv2:Gr s.data.toList=if(!r.all Cn)=true then none else some (DW r):=by grind
   refine Ax (Bt (r.all Cn)) (fun e3=>?_) (fun e3=>?_)
   rotate_left
   .rw[e3]at hw;refine C1 (C2 (hw) ?_);exact .of_eq (Aa Yz (show(none:Option Int)=Gr s.data.toList by simp_all))
   rw[e3]at hw;refine C1 (C2 (hw) ?_);have hv3:Gr s.data.toList=some (DW r):=by simp_all
   have z0:DW (r.take 0)=0:=rfl;refine Xi {i:Nat // i<=r.length/\0<=DW (r.take i)/\(i=0->DW (r.take i)<=0)/\(i<=1->DW (r.take i)<=9)/\(i<=2->DW (r.take i)<=99)/\DW (r.take i)<=999} (Xi (fun i=>⟨[(0,vs rB),(5,vi (DW (r.take i.1))),(39,vi rB.size),(40,vi i.1)],[],Af⟩) (Xi (fun i=>r.length-i.1) (Yi (Xi ⟨0,Al _,by omega,fun _=>by omega,fun _=>by omega,fun _=>by omega,by omega⟩ ?_) ?_)))
   .exact⟨Z4,Tv,Fh,Tv⟩
   intro⟨i,i1,i2,i3,i4,i5,i6⟩;refine Yi ?_ ?_
   .intro h;have h:(i:Int)<(rB.size:Nat):=h;have h:i<r.length:=by omega
    have hdg:Cn r[i]=true:=A0.1 e3 _ (Ah h);have su:=Jw hdg;have kk:=KT r i h;have oT:IntKind.u8.wrap ((r[i].toNat:Int)-48)=(r[i].toNat:Int)-48:=S8 Wk Wk;have Oo:rB.data[((i:Nat):Int).toNat]?=some r[i]:=by grind
    refine Yi (by show Au (10*DW (r.take i));unfold Au;omega) (Xi r[i] (Yi ⟨by omega,Oo⟩ ?_));refine Yi (by show Au (IntKind.u8.wrap ((r[i].toNat:Int)-48));rw[oT];unfold Au;omega) ?_;refine Yi (by show Au (10*DW (r.take i)+IntKind.u8.wrap ((r[i].toNat:Int)-48));rw[oT];unfold Au;omega) ?_;refine Yi (Ii i Wk) ?_;have e5:vi (10*DW (r.take i)+IntKind.u8.wrap ((r[i].toNat:Int)-48))=vi (DW (r.take (i+1))):=by simp_all
    refine Xi ⟨i+1,by omega,by omega,fun _=>by omega,fun _=>by omega,fun _=>by omega,by omega⟩ ?_;exact⟨Dl r.length i Wk,⟨Zr,⟨e5,rfl⟩,Zr,Zr,Tv⟩,Tv,Fh,Tv⟩
   .intro h;have h:¬(i:Int)<(rB.size:Nat):=h;have e6:AV.tup [vi (DW (r.take i)),vb true]=Yz (Gr s.data.toList):=by grind
    exact .of_eq e6
 .have e1:Go.Lib.hasPrefix s.data.toList (⟨#[118]⟩:CS).data.toList=false:=by
   cases hl:s.data.toList with
   |nil=>rfl
   |cons a l=>
    have:a≠118:=fun e=>hp ⟨l,by simp_all⟩
    show(List.isPrefixOf [118] (a::l))=false
    grind
  have hv:Gr s.data.toList=none:=by
   cases hl:s.data.toList with
   |nil=>rfl
   |cons a l=>
    have:a≠118:=fun e=>hp ⟨l,by simp_all⟩
    show(if a=118 then _ else none)=none;simp_all
  rw[e1]at hc;refine Ps CX func195 rfl (Nz rfl) (C1 (C2 (hc) ?_));exact .of_eq (Aa Yz hv.symm)
abbrev QV:Option Int->AV
 |some n=>.tup [vi n,vi 0]
 |none=>.tup [vi 0,vi 4]
theorem LO(c:UInt8):∀(s x:List UInt8),x∈CD c s->x.length<=s.length
 | [],x,h=>by
  grind [CD]
 |b::r,x,h=>by
  have ih:=LO c r
  grind [CD]
theorem nB{p x:CS}(hp:Fl p)(hx:x∈BL p):Fl x:=by
 have h:x.data.toList∈CD 47 p.data.toList:=by grind [Qg]
 have:=LO 47 _ _ h
 unfold Fl at *
 have e1:x.size=x.data.toList.length:=by simp
 have e2:p.size=p.data.toList.length:=by simp
 omega
theorem jz:(BL p).length=(CD 47 p.data.toList).length:=by grind [Qg]
theorem jA:0<(BL p).length:=by
 rw[show(BL p).length=Go.Lib.countB p bY+1 from Go.Lib.splitB_all bY aa1 0 _ p rfl];omega
theorem jy:(BL p).length<=p.size+1:=by
 rw[show(BL p).length=Go.Lib.countB p bY+1 from Go.Lib.splitB_all bY aa1 0 _ p rfl]
 have:=Go.Lib.countB_le bY aa1 p.size p (Ap _);omega
theorem dw(h:(BL p).length-1<(BL p).length):(CD 47 p.data.toList).getLastD []=((BL p)[(BL p).length-1]).data.toList:=by
 grind [Qg]
theorem jx:(CD 47 p.data.toList).all HH=(BL p).all fun x=>HH x.data.toList:=by
 grind [Qg]
theorem xe(hp:Fl p):PC 131 [vs p] (QV (AT p)):=by
 have hps:=jy p;have yU:=jA p;have hp1:(BL p).length-1<(BL p).length:=by omega
 have FI:p.size=p.data.toList.length:=by simp
 have hfp:∀{x},x∈BL p->Fl x:=fun h=>nB hp h;unfold Fl at hp;have fp:((BL p).map GN)[((((BL p).map GN).length:Int)-1).toNat]?=some (GN (BL p)[(BL p).length-1]):=by
  rw[Lm,show(((BL p).length:Int)-1).toNat=(BL p).length-1 by omega];grind
 have hv:=AbB (BL p)[(BL p).length-1] (hfp (Ah hp1));have em:AT p=match Gr ((BL p)[(BL p).length-1]).data.toList with
  |none=>none
  |some n=>if(decide (64<p.data.toList.length)||decide ((BL p).length<2))=true then none else if((BL p).all fun x=>HH x.data.toList)=true then some n else none:=by
  unfold AT QW;rw[dw p hp1,jx,<-jz];cases Gr ((BL p)[(BL p).length-1]).data.toList<;>grind [Gr]
 cases hve:Gr ((BL p)[(BL p).length-1]).data.toList with
 |none=>
  rw[hve]at hv em;refine Ps (DB []) func131 rfl (Nz rfl) (C1 (C2 (xl p hp) (Yi (by show Au ((((BL p).map GN).length:Int)-1);unfold Au;rw[Lm];omega) ?_)));refine Xi (GN (BL p)[(BL p).length-1]) (Yi (Yi (by grind) fp) (Yi rfl (C1 (C2 (hv) ?_))));exact .of_eq (Aa QV em.symm)
 |some n=>
  rw[hve]at hv em;refine Ps (DB []) func131 rfl (Nz rfl) (C1 (C2 (xl p hp) (Yi (by show Au ((((BL p).map GN).length:Int)-1);unfold Au;rw[Lm];omega) ?_)));refine Xi (GN (BL p)[(BL p).length-1]) (Yi (Yi (by grind) fp) (Yi rfl (C1 (C2 (hv) (Yi ?_ ?_)))))
  .intro h;exact .of_eq (Aa QV (show(none:Option Int)=AT p by grind))
  intro h;have d1:decide (64<p.data.toList.length)=false:=Aq Wk;refine Yi ?_ ?_
  .intro h2;rw[Lm]at h2;exact .of_eq (Aa QV (show(none:Option Int)=AT p by grind))
  intro h2;have d2:decide ((BL p).length<2)=false:=Aq (by rw[Lm]at h2;omega);have em2:AT p=if((BL p).all fun x=>HH x.data.toList)=true then some n else none:=by grind
  refine Xi {i:Nat // i<=(BL p).length/\∀j (hj:j<(BL p).length),j<i->HH ((BL p)[j]).data.toList=true} (Xi (fun i=>⟨[(5,vi n),(33,sl GN (BL p)),(34,vi ((BL p).map GN).length),(35,vi i.1)],[],Af⟩) (Xi (fun i=>(BL p).length-i.1) (Yi (Xi ⟨0,Al _,fun j _ h=>by omega⟩ ?_) ?_)))
  .exact⟨Z4,Tv,Fh,Tv⟩
  intro⟨i,i1,i2⟩;refine Yi ?_ ?_
  .intro h;have h:i<(BL p).length:=by simpa using h
   have hg:(BL p)[i]?=some (BL p)[i]:=Ge h;refine Xi (GN (BL p)[i]) (Yi (Yi Wk (by simp[hg])) (Yi rfl ?_));have hfi:=hfp (Ah h);have hn:=AbC (BL p)[i] hfi;have ha:=tO (BL p)[i] 198 Va AbD (by unfold Fl at hfi;have e1:(BL p)[i].size=(BL p)[i].data.toList.length:=aa0;omega);have no:HH ((BL p)[i]).data.toList=false->(none:Option Int)=AT p:=fun e=>by
    rw[em2,AN];intro GB
    have:=A0.1 GB _ (Ah h)
    grind
   refine Ax (Bt (Gx ((BL p)[i]).data.toList)) (fun e1=>?_) (fun e1=>?_)
   rotate_left
   .rw[e1]at hn;refine C1 (C2 (hn) ?_);exact .of_eq (Aa QV (no (by unfold HH;grind)))
   rw[e1]at hn;refine C1 (C2 (hn) (Ax (Bt (((BL p)[i]).data.toList.all Va)) (fun e2=>?_) (fun e2=>?_)))
   rotate_left
   .rw[e2]at ha;refine C1 (C2 (ha) ?_);exact .of_eq (Aa QV (no (by unfold HH;grind)))
   rw[e2]at ha;refine C1 (C2 (ha) (Yi (Ii i Wk) (Xi ⟨i+1,by omega,fun j hj GC=>?_⟩ ?_)))
   .rcases BR j i with z | z
    .exact i2 j hj z
    .have:j=i:=by omega
     subst this;unfold HH;grind
   .exact⟨by show(BL p).length-(i+1)<(BL p).length-i;omega,Z4,Tv,Fh,Tv⟩
  .intro h;have h:¬i<(BL p).length:=by simpa using h
   have e:some n=AT p:=by
    rw[em2,A3];exact A0.2 fun x hx=>by
     obtain⟨j,hj,rfl⟩:=He hx;exact i2 j hj Wk
   exact .of_eq (Aa QV e)
theorem Abv(hp:Fl p):PC 132 [vs p] (vb (AT p).isSome):=by
 have hc:=xe p hp;cases h:AT p with
 |none=>
  rw[h]at hc;refine Ps CX func132 rfl (Nz rfl) (C1 (C2 (hc) (Yi ?_ ?_)))
  .intro h;exact absurd (show(4:Int)=0 from h) aa1
  .intro _;exact .refl _
 |some n=>
  rw[h]at hc;refine Ps CX func132 rfl (Nz rfl) (C1 (C2 (hc) (Yi ?_ ?_)))
  .intro _;exact .refl _
  .intro h;exact absurd rfl h
theorem OR(c:UInt8):∀s:List UInt8,2<=(CD c s).length->c∈s
 | [],h=>by grind [CD]
 |b::r,h=>by
  rw[CD]at h
  by_cases e:b=c
  .simp_all
  .rw[AN e]at h;refine Aj _ (OR c r ?_)
   grind
theorem mQ{p:CS}{m:Int}(h:AT p=some m):0<=Go.Lib.lastIndex p.data.toList [47]/\Go.Lib.lastIndex p.data.toList [47]<=p.size:=by
 have h2:2<=(CD 47 p.data.toList).length:=by
  grind [AT,QW]
 have hm:=OR 47 _ h2;obtain⟨i,hi,e⟩:=He hm;have FI:p.size=p.data.toList.length:=by simp
 unfold Go.Lib.lastIndex;rw[A3 (by grind)];have AiB:Go.Lib.occAt p.data.toList [47] i=true:=by
  grind [Go.Lib.occAt,List.drop_eq_getElem_cons]
 grind [Go.Lib.lastOcc_spec]
abbrev UA:CS:=p.extract 0 (Go.Lib.lastIndex p.data.toList [47]).toNat
theorem VC:Vy UA:=by
 intro p hp;have hc:=xe p hp;have hi:=Abv p hp;unfold WN;cases h:AT p with
 |none=>
  rw[h]at hc hi;refine Ps CX func66 rfl (Nz rfl) (C1 (C2 (hc) (C1 (C2 (hi) ?_))));exact .refl _
 |some n=>
  rw[h]at hc hi;obtain⟨l1,l2⟩:=mQ h;have hl:PC 133 [vs p,vs bY] (vi (Go.Lib.lastIndex p.data.toList [47])):=Abw p bY hp;refine Ps CX func66 rfl (Nz rfl) (C1 (C2 (hc) (C1 (C2 (hi) (Yi ?_ ?_)))))
  .intro h;exact absurd rfl h
  intro _;refine C1 (C2 (hl) (Yi ⟨Cb _,l1,l2⟩ ?_));exact .refl _
end Go.Eng
