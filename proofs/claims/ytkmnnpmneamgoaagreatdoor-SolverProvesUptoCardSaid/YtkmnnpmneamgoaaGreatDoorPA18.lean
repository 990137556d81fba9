/- Lemmas 18. -/
import Derived.Test.YtkmnnpmneamgoaaGreatDoorPA17
import Derived.Shelf.Strings.SplitShaped
import Derived.Shelf.Strings.LastIndexAll
import Derived.Shelf.Strings.Search3
import Derived.Shelf.Small.Wraps
import Derived.Ground.NamesProg
import Derived.Lib.LastIndexLaws
namespace Go.Eng
open Go.Proofs
variable {nm:ByteArray->ByteArray}(r:Rl)(a c:UInt8)(s:ByteArray)(n:Nat)
abbrev pe:Nat->ByteArray
 |0=>r.arch
 |1=>r.ifc
 |_=>r.cert
theorem sX{r:Rl}(h:∀j,j<3->Ei (pe r j)=true):(Ei r.arch&&Ei r.ifc&&Ei r.cert)=true:=by
 have h0:Ei r.arch=true:=h 0 aa2;have h1:Ei r.ifc=true:=h 1 aa2;have h2:Ei r.cert=true:=h 2 aa2;simp_all
theorem Aa3(hL:U5 nm)(r:Rl)(hr:E4 r):PC 112 [.agg (Am r)] (vi (CL r)):=by
 cases dS:Bj r.path with
 |none=>
  have e:(4:Int)=CL r:=by grind [CL]
  have hl:=hL.none hr.1 dS;refine Ps De Tryz.func112 rfl (Nz rfl) (Xi .pure (Xi _ (Yi (hl) (Yi ?_ ?_))))
  .intro _;exact .of_eq (Aa vi e)
  .intro h;exact absurd (show(4:Int)≠0 by decide) h
 |some m=>
  have er:CL r=if(!BK r.ver||!decide (r.ver.a=m))=true then 2 else if AL r.reqs≠0 then AL r.reqs else if(Ei r.arch&&Ei r.ifc&&Ei r.cert)=true then 0 else 1:=by grind [CL]
  have hl:=hL.some hr.1 dS;have hv:=vV r.ver;have hc:=c65 hL r.reqs hr.2;rcases Bt (BK r.ver)with h2 | h2
  .rw[h2]at hv;refine Ps (Dw []) Tryz.func112 rfl (Nz rfl) (Xi .pure (Xi _ (Yi (hl) (Yi ?_ ?_))))
   .intro h;exact absurd rfl h
   intro _;refine yN (Xi .pure (Xi _ (Yi (hv) (Yi ?_ ?_))))
   .intro h;have e:(2:Int)=CL r:=by simp_all
    exact .of_eq (Aa vi e)
   intro h;have h3:r.ver.a=m:=GL h;have er2:CL r=if AL r.reqs≠0 then AL r.reqs else if(Ei r.arch&&Ei r.ifc&&Ei r.cert)=true then 0 else 1:=by simp_all
   refine Xi .pure (Xi _ (Yi (hc) (Yi ?_ ?_)))
   .intro h4;exact .of_eq (Aa vi (show AL r.reqs=CL r by omega))
   intro h4;have er3:CL r=if(Ei r.arch&&Ei r.ifc&&Ei r.cert)=true then 0 else 1:=by omega
   refine Xi {i:Nat // i<=3/\∀j,j<i->Ei (pe r j)=true} (Xi (fun i=>⟨[(41,.slice (.id 41 1) [[vs r.arch],[vs r.ifc],[vs r.cert]]),(42,vi 3),(43,vi i.1)],[(41,.tok 1 3)],Ae⟩) (Xi (fun i=>3-i.1) (Yi (Xi ⟨0,by omega,fun j h=>by omega⟩ ?_) ?_)))
   .exact⟨Z3,Z1,Fh,Tv⟩
   intro⟨i,i1,i2⟩;refine Yi ?_ ?_
   .intro h;have h:(i:Int)<3:=h;have next:Ei (pe r i)=true->∀j,j<i+1->Ei (pe r j)=true:=fun hz j hj=>by
     grind
    match i,i1,i2,h,next with
    |0,i1,i2,h,next=>
     refine Xi [vs r.arch] (Yi (Yi aa0 rfl) (Yi rfl (Yi ?_ ?_)))
     .intro h5;refine Yi ?_ ?_
      .intro h6;have e:(1:Int)=CL r:=by grind [Ei]
       exact .of_eq (Aa vi e)
      .intro h6;refine Yi (by grind [As]) (Xi ⟨1,by omega,next (show Ei r.arch=true by grind [Ei])⟩ ?_)
       exact⟨by simp_all,Z3,Z1,Fh,Tv⟩
     .intro h5;refine Yi (by grind [As]) (Xi ⟨1,by omega,next (show Ei r.arch=true by grind [Ei])⟩ ?_)
      exact⟨by simp_all,Z3,Z1,Fh,Tv⟩
    |1,i1,i2,h,next=>
     refine Xi [vs r.ifc] (Yi (Yi aa0 rfl) (Yi rfl (Yi ?_ ?_)))
     .intro h5;have h5:((r.ifc.size:Nat):Int)≠0:=h5;refine Yi ?_ ?_
      .intro h6;have h6:((r.ifc.size:Nat):Int)≠32:=h6;have e:(1:Int)=CL r:=by grind [Ei]
       exact .of_eq (Aa vi e)
      .intro h6;have h6:¬((r.ifc.size:Nat):Int)≠32:=h6;refine Yi (by grind [As]) (Xi ⟨2,by omega,next (show Ei r.ifc=true by grind [Ei])⟩ ?_)
       exact⟨by simp_all,Z3,Z1,Fh,Tv⟩
     .intro h5;have h5:¬((r.ifc.size:Nat):Int)≠0:=h5;refine Yi (by grind [As]) (Xi ⟨2,by omega,next (show Ei r.ifc=true by grind [Ei])⟩ ?_)
      exact⟨by simp_all,Z3,Z1,Fh,Tv⟩
    |2,i1,i2,h,next=>
     refine Xi [vs r.cert] (Yi (Yi aa0 rfl) (Yi rfl (Yi ?_ ?_)))
     .intro h5;have h5:((r.cert.size:Nat):Int)≠0:=h5;refine Yi ?_ ?_
      .intro h6;have h6:((r.cert.size:Nat):Int)≠32:=h6;have e:(1:Int)=CL r:=by grind [Ei]
       exact .of_eq (Aa vi e)
      .intro h6;have h6:¬((r.cert.size:Nat):Int)≠32:=h6;refine Yi (by grind [As]) (Xi ⟨3,by omega,next (show Ei r.cert=true by grind [Ei])⟩ ?_)
       exact⟨by simp_all,Z3,Z1,Fh,Tv⟩
     .intro h5;have h5:¬((r.cert.size:Nat):Int)≠0:=h5;refine Yi (by grind [As]) (Xi ⟨3,by omega,next (show Ei r.cert=true by grind [Ei])⟩ ?_)
      exact⟨by simp_all,Z3,Z1,Fh,Tv⟩
    |i+3,i1,i2,h,next=>omega
   .intro h;have h:¬(i:Int)<3:=h;have e:(0:Int)=CL r:=by grind [sX]
    exact .of_eq (Aa vi e)
  .rw[h2]at hv;have e:(2:Int)=CL r:=by simp_all
   refine Ps (Dw []) Tryz.func112 rfl (Nz rfl) (Xi .pure (Xi _ (Yi (hl) (Yi ?_ ?_))))
   .intro h;exact absurd rfl h
   intro _;refine yN (Xi .pure (Xi _ (Yi (hv) ?_)));exact .of_eq (Aa vi e)
theorem ub{a b:Rl}(h:a.path=b.path/\a.ver.a=b.ver.a/\a.ver.b=b.ver.b/\a.ver.c=b.ver.c):Cq a=Cq b:=by
 unfold Cq;obtain⟨h1,h2,h3,h4⟩:=h
 have:a.ver=b.ver:=by
  cases ha:a.ver<;>simp_all
 simp_all
theorem Wa{a b:Rl}(h:Cq a=Cq b):a.path=b.path/\a.ver.a=b.ver.a/\a.ver.b=b.ver.b/\a.ver.c=b.ver.c:=by
 grind [Cq]
abbrev W3(x:List Rl):Nat->Option Rl
 |0=>none
 |k+1=>x[k]?
theorem zh(hL:U5 nm)(x:List Rl)(ifs:List (List AV))(hs:∀r∈x,E4 r):PC 59 [.agg (Ic x ifs)] (vi (Av x)):=by
 refine Ps (Dw []) Tryz.func59 rfl (Nz rfl) (Yi ?_ ?_)
 .intro h;exact .of_eq (Aa vi (show(7:Int)=Av x by grind [Av]))
 intro h;have hl:x.length<=256:=by grind
 have TM:Av x=B5 none x:=by grind [Av]
 refine Xi {i:Nat // i<=x.length/\B5 none x=B5 (W3 x i) (x.drop i)} (Xi (fun i=>⟨[(1,.ref 1 0),(12,sl Am x),(13,vi (x.map Am).length),(14,vi i.1)],[(1,.cells (Ic x ifs))],Ae⟩) (Xi (fun i=>x.length-i.1) (Yi (Xi ⟨0,Ap _,rfl⟩ ?_) ?_)))
 .exact⟨Z4,Z1,Fh,Tv⟩
 intro⟨i,h1,h2⟩;refine Yi ?_ ?_
 .intro h;have h:i<x.length:=by simp_all
  have hg:x[i]?=some x[i]:=Ge h;have hd:x.drop i=x[i]::x.drop (i+1):=Ba h;have hc:=Aa3 hL x[i] (hs x[i] (Ak h));have IE:B5 none x=if CL x[i]≠0 then CL x[i]else match W3 x i with
   |none=>B5 (some x[i]) (x.drop (i+1))
   |some b=>if Cq b=Cq x[i]then 5 else if 0<IA b x[i]then 1 else B5 (some x[i]) (x.drop (i+1)):=by rw[h2,hd];rfl
  have rQ:W3 x (i+1)=some x[i]:=Ge h;refine Xi (Am x[i]) (Yi (Yi aa0 (by simp[hg])) (Yi rfl ?_));refine Yi (Nz rfl) (Yi (Nz rfl) (yN (Xi .pure (Xi _ (Yi (hc) (Yi ?_ ?_))))))
  .intro h4;exact .of_eq (Aa vi (show CL x[i]=Av x by omega))
  intro h4;refine Yi ?_ ?_
  .intro h5;have h5:(i:Int)=0:=h5;have h6:i=0:=by omega
   refine Yi (Ii i aa0) (Xi ⟨i+1,by omega,by grind⟩ ?_);exact⟨Dl x.length i aa0,Z4,Z1,Fh,Tv⟩
  intro h5;have h5:¬(i:Int)=0:=h5;have tx:i-1<x.length:=by omega
  have hb:W3 x i=some x[i-1]:=by
   grind
  have Ac1:B5 none x=if Cq x[i-1]=Cq x[i]then 5 else if 0<IA x[i-1] x[i]then 1 else B5 (some x[i]) (x.drop (i+1)):=by grind
  refine Yi (by grind [As]) ?_;have dQ:(x.map Am)[((i:Int)-1).toNat]?=some (Am x[i-1]):=by rw[show((i:Int)-1).toNat=i-1 by omega];grind
  refine Xi (Am x[i-1]) (Yi (Yi aa0 dQ) (Yi rfl (Yi (Nz rfl) (yN (yN (Xi _ (Yi (sv x[i-1]) (yN (Xi _ (Yi (sv x[i]) (Yi ?_ ?_)))))))))))
  .intro h6;refine Yi aa3 ?_;have e:(5:Int)=Av x:=by rw[TM,Ac1,AX (ub ⟨h6.1,h6.2.1,h6.2.2.1,h6.2.2.2.1⟩)]
   exact .of_eq (Aa vi e)
  intro h6;refine Yi aa3 ?_;have h7:¬Cq x[i-1]=Cq x[i]:=fun e=>by
   have e:=Wa e;exact h6 ⟨e.1,e.2.1,e.2.2.1,e.2.2.2,trivial⟩
  refine Yi (Nz rfl) (yN (Xi .pure (Xi _ (Yi (Aa4 x[i-1] x[i]) (Yi ?_ ?_)))))
  .intro h8;have e:(1:Int)=Av x:=by grind
   exact .of_eq (Aa vi e)
  .intro h8;refine Yi (Ii i aa0) (Xi ⟨i+1,by omega,by grind⟩ ?_);exact⟨Dl x.length i aa0,Z4,Z1,Fh,Tv⟩
 .intro h;have h:¬i<x.length:=by simp_all
  have e:(0:Int)=Av x:=by rw[TM,h2,HF aa0];rfl
  exact .of_eq (Aa vi e)
abbrev zK(a:AV):List AV:=[vs r.path,vi r.ver.a,vi r.ver.b,vi r.ver.c,a,vs r.arch,vs r.ifc,vs r.cert,vb r.yanked]
abbrev Ad4:Md:=⟨[],[],[],[],[],[],[],[(9,(1,4,900,2))],[],[],[]⟩
theorem c98(hr:r.reqs.length<=1000)(hs:∀q∈r.reqs,BL q.set):PC 130 [.agg (Am r)] (.agg (Am r)):=by
 refine Ps Ad4 Tryz.func130 rfl (Nz rfl) (yN (Xi {i:Nat // i<=r.reqs.length} (Xi (fun i=>⟨[(1,.ref 1 0),(2,.ref 2 0),(9,sl Ac r.reqs),(10,vi (r.reqs.map Ac).length),(11,vi i.1)],[(1,.cells (zK r (.slice (.id 900 2) ((r.reqs.take i.1).map Ac)))),(2,.cells X6),(900,.tok 2 ((r.reqs.take i.1).map Ac).length)],Ae⟩) (Xi (fun i=>r.reqs.length-i.1) (Yi (Xi ⟨0,Ap _⟩ ?_) ?_)))))
 .exact⟨Z5,Z3,Fh,Tv⟩
 intro⟨i,h1⟩;refine Yi ?_ ?_
 .intro h;have h:i<r.reqs.length:=by simp_all
  have hg:r.reqs[i]?=some r.reqs[i]:=Ge h;refine Xi (Ac r.reqs[i]) (Yi (Yi aa0 (by simp_all)) (Yi rfl ?_));have hq:=hs r.reqs[i] (Ak h);refine Yi (Nz rfl) (yN (Xi .pure (Xi _ (Yi (Aah r.reqs[i].set hq) (yN (yN ?_))))));have CO:A7 2 [Ac r.reqs[i]]/\((r.reqs.take i).map Ac).length=((r.reqs.take i).map Ac).length/\(((r.reqs.take i).map Ac).length+[Ac r.reqs[i]].length)*40<=140737488355328/\((r.reqs.take i).map Ac).length+[Ac r.reqs[i]].length<=9223372036854775807:=
   ⟨⟨rfl,trivial⟩,rfl,by grind,by grind⟩
  refine Yi CO (yN (Yi (by grind [As]) (Xi ⟨i+1,by omega⟩ ?_)));have et:(r.reqs.take (i+1)).map Ac=(r.reqs.take i).map Ac++[Ac r.reqs[i]]:=by rw[Ck,hg,BD];rfl
  have e1:HO.cells (zK r (.slice (.id 900 2) ((r.reqs.take i).map Ac++[Ac r.reqs[i]])))=.cells (zK r (.slice (.id 900 2) ((r.reqs.take (i+1)).map Ac))):=by rw[et]
  have e2:HO.tok 2 (((r.reqs.take i).map Ac).length+[Ac r.reqs[i]].length)=.tok 2 ((r.reqs.take (i+1)).map Ac).length:=by simp_all
  exact⟨by grind,Z5,⟨⟨e1,rfl⟩,Zr,⟨e2,rfl⟩,Tv⟩,Fh,Tv⟩
 .intro h;have h:¬i<r.reqs.length:=by simp_all
  refine Yi (Nz rfl) (Yi (Nz rfl) (yN ?_));have e:AV.agg (zK r (.slice .none ((r.reqs.take i).map Ac)))=.agg (Am r):=by grind
  exact .of_eq e
abbrev vc:AV:=.v (.int .u8 c.toNat)
theorem WF(h:n<256):decide (UInt8.ofNat n<=a)=decide ((n:Int)<=(a.toNat:Int)):=by
 grind [UInt8.le_iff_toNat_le,UInt8.toNat_ofNat']
theorem WE(h:n<256):decide (a<=UInt8.ofNat n)=decide ((a.toNat:Int)<=(n:Int)):=by
 grind [UInt8.le_iff_toNat_le,UInt8.toNat_ofNat']
theorem sN:PC 245 [vc c] (vb (Ez c)):=by
 refine Ps De Tryz.func245 rfl (Nz rfl) ?_;have e1:decide ((97:UInt8)<=c)=decide ((97:Int)<=(c.toNat:Int)):=WF c 97 aa2;have e2:decide (c<=(122:UInt8))=decide ((c.toNat:Int)<=(122:Int)):=WE c 122 aa2;have es:Ez c=(decide ((97:Int)<=(c.toNat:Int))&&decide ((c.toNat:Int)<=(122:Int))):=by grind [Ez]
 refine Yi ?_ ?_
 .intro h;refine Yi ?_ ?_
  .intro h2;exact .of_eq (Aa vb (show true=Ez c by simp_all))
  .intro h2;exact .of_eq (Aa vb (show false=Ez c by simp_all))
 .intro h;exact .of_eq (Aa vb (show false=Ez c by simp_all))
theorem sO:PC 246 [vc c] (vb (Co c)):=by
 refine Ps De Tryz.func246 rfl (Nz rfl) ?_;have e1:decide ((48:UInt8)<=c)=decide ((48:Int)<=(c.toNat:Int)):=WF c 48 aa2;have e2:decide (c<=(57:UInt8))=decide ((c.toNat:Int)<=(57:Int)):=WE c 57 aa2;have es:Co c=(decide ((48:Int)<=(c.toNat:Int))&&decide ((c.toNat:Int)<=(57:Int))):=by grind [Co]
 refine Yi ?_ ?_
 .intro h;refine Yi ?_ ?_
  .intro h2;exact .of_eq (Aa vb (show true=Co c by simp_all))
  .intro h2;exact .of_eq (Aa vb (show false=Co c by simp_all))
 .intro h;exact .of_eq (Aa vb (show false=Co c by simp_all))
theorem AaT:PC 291 [vc c] (vb (Ml c)):=by
 refine Ps De Tryz.func291 rfl (Nz rfl) ?_;have e1:decide ((65:UInt8)<=c)=decide ((65:Int)<=(c.toNat:Int)):=WF c 65 aa2;have e2:decide (c<=(90:UInt8))=decide ((c.toNat:Int)<=(90:Int)):=WE c 90 aa2;have es:Ml c=(decide ((65:Int)<=(c.toNat:Int))&&decide ((c.toNat:Int)<=(90:Int))):=by grind [Ml]
 refine Yi ?_ ?_
 .intro h;refine Yi ?_ ?_
  .intro h2;exact .of_eq (Aa vb (show true=Ml c by simp_all))
  .intro h2;exact .of_eq (Aa vb (show false=Ml c by simp_all))
 .intro h;exact .of_eq (Aa vb (show false=Ml c by simp_all))
abbrev UJ:Bool:=Ez c||Co c
theorem AaI:PC 244 [vc c] (vb (UJ c)):=by
 have h1:=sN c;have h2:=sO c;rcases Bt (Ez c)with e | e
 .rw[e]at h1;refine Ps De Tryz.func244 rfl (Nz rfl) (Xi .pure (Xi _ (Yi (h1) ?_)));exact .of_eq (Aa vb (show true=UJ c by simp_all))
 .rw[e]at h1;refine Ps De Tryz.func244 rfl (Nz rfl) (Xi .pure (Xi _ (Yi (h1) (Xi .pure (Xi _ (Yi (h2) ?_))))));exact .of_eq (Aa vb (show Co c=UJ c by simp_all))
theorem AaO:PC 268 [vc c] (vb (FU c)):=by
 have h1:=sN c;have h2:=AaT c;have h3:=sO c;have ew:FU c=(Ez c||Ml c||Co c||decide (c=95)):=rfl;rcases Bt (Ez c)with e | e
 .rw[e]at h1;refine Ps De Tryz.func268 rfl (Nz rfl) (Xi .pure (Xi _ (Yi (h1) ?_)));exact .of_eq (Aa vb (show true=FU c by simp_all))
 rw[e]at h1;rcases Bt (Ml c)with e2 | e2
 .rw[e2]at h2;refine Ps De Tryz.func268 rfl (Nz rfl) (Xi .pure (Xi _ (Yi (h1) (Xi .pure (Xi _ (Yi (h2) ?_))))));exact .of_eq (Aa vb (show true=FU c by simp_all))
 rw[e2]at h2;rcases Bt (Co c)with e3 | e3
 .rw[e3]at h3;refine Ps De Tryz.func268 rfl (Nz rfl) (Xi .pure (Xi _ (Yi (h1) (Xi .pure (Xi _ (Yi (h2) (Xi .pure (Xi _ (Yi (h3) ?_)))))))));exact .of_eq (Aa vb (show true=FU c by simp_all))
 rw[e3]at h3;refine Ps De Tryz.func268 rfl (Nz rfl) (Xi .pure (Xi _ (Yi (h1) (Xi .pure (Xi _ (Yi (h2) (Xi .pure (Xi _ (Yi (h3) ?_)))))))));have eb:decide (c=95)=decide ((c.toNat:Int)=95):=by
  rw[Dh,A8,A8];constructor
  .simp_all
  .intro h;exact HS.1 (by grind)
 refine Yi ?_ ?_
 .intro h;exact .of_eq (Aa vb (show true=FU c by simp_all))
 .intro h;exact .of_eq (Aa vb (show false=FU c by simp_all))
theorem oD(i:Nat)(h:i<s.data.toList.length):s.data[i]?=some s.data.toList[i]:=by
 simp_all
theorem sM(f:Nat)(q:UInt8->Bool)(hf:∀c,PC f [vc c] (vb (q c)))(hs:s.data.toList.length<4611686018427387904):PC 243 [vs s,.v (Hf f)] (vb (s.data.toList.all q)):=by
 have FG:s.size=s.data.toList.length:=by simp
 refine Ps De Tryz.func243 rfl (Nz rfl) (Xi {i:Nat // i<=s.data.toList.length/\∀j (hj:j<s.data.toList.length),j<i->q s.data.toList[j]=true} (Xi (fun i=>⟨[(0,vs s),(1,.v (Hf f)),(7,vi s.size),(8,vi i.1)],[],Ae⟩) (Xi (fun i=>s.data.toList.length-i.1) (Yi (Xi ⟨0,Ap _,fun j _ h=>by omega⟩ ?_) ?_))))
 .exact⟨Z4,Tv,Fh,Tv⟩
 intro⟨i,h1,h2⟩;refine Yi ?_ ?_
 .intro h;have h:(i:Int)<(s.size:Nat):=h;have h:i<s.data.toList.length:=by omega
  refine Xi s.data.toList[i] (Yi ⟨by omega,by grind⟩ ?_);have hc:=hf s.data.toList[i];refine AA (Bt (q s.data.toList[i])) (fun e=>?_) (fun e=>?_)
  .rw[e]at hc;refine Xi .pure (Xi _ (Yi (hc) (Yi (by grind [As]) (Xi ⟨i+1,by omega,fun j hj Hg=>?_⟩ ?_))))
   .grind
   .exact⟨by grind,Z4,Tv,Fh,Tv⟩
  .rw[e]at hc;refine Xi .pure (Xi _ (Yi (hc) ?_));have er:s.data.toList.all q=false:=by
    grind
   exact .of_eq (Aa vb er.symm)
 .intro h;have h:¬(i:Int)<(s.size:Nat):=h;have er:s.data.toList.all q=true:=BO.2 fun c hc=>by
   grind [List.getElem_of_mem]
  exact .of_eq (Aa vb er.symm)
end Go.Eng
namespace Go.Proofs
open Go.Shelf
def Tryz.laySplit_ren:Go.Shelf.Ren:=⟨fun | 146=>240 | 221=>266 | 268=>287 | 138=>288 | 143=>289 | 195=>309 | 197=>310 | 218=>311 | 219=>312 | 260=>319 | 217=>320 | 225=>321 | 224=>322 | 267=>323 | 266=>326 | 314=>327 | n=>n,fun | 9=>9 | 31=>52 | 3=>3 | 4=>4 | 0=>0 | 105=>318 | 21=>21 | 5=>5 | 46=>155 | 119=>325 | 139=>328 | 138=>327 | 146=>294 | 51=>221 | n=>n,fun | 1=>0 | 3=>1 | 4=>2 | n=>n⟩
theorem Tryz.laySplit:Go.Proofs.Lays.n146 Tryz.prog Tryz.laySplit_ren:={
 mixed:=by kernel_rfl
 f138:=Go.Eng.A0a Tryz.func288
 f143:=Go.Eng.A0a Tryz.func289
 f146:=Go.Eng.A0a Tryz.func240
 f195:=Go.Eng.A0a Tryz.func309
 f197:=Go.Eng.A0a Tryz.func310
 f217:=Go.Eng.A0a Tryz.func320
 f218:=Go.Eng.A0a Tryz.func311
 f219:=Go.Eng.A0a Tryz.func312
 f221:=Go.Eng.A0a Tryz.func266
 f224:=Go.Eng.A0a Tryz.func322
 f225:=Go.Eng.A0a Tryz.func321
 f260:=Go.Eng.A0a Tryz.func319
 f266:=Go.Eng.A0a Tryz.func326
 f267:=Go.Eng.A0a Tryz.func323
 f268:=Go.Eng.A0a Tryz.func287
 f314:=Go.Eng.A0a Tryz.func327
 t0:=Tryz.underlying0
 a0:=Tryz.isAgg0
 z0:=Tryz.sizeOf0
 v0:=Tryz.zeroValue0
 t3:=Tryz.underlying3
 a3:=Tryz.isAgg3
 z3:=Tryz.sizeOf3
 v3:=Tryz.zeroValue3
 t4:=Tryz.underlying4
 a4:=Tryz.isAgg4
 z4:=Tryz.sizeOf4
 v4:=Tryz.zeroValue4
 t5:=Tryz.underlying5
 a5:=Tryz.isAgg5
 z5:=Tryz.sizeOf5
 v5:=Tryz.zeroValue5
 t9:=Tryz.underlying9
 a9:=Tryz.isAgg9
 z9:=Tryz.sizeOf9
 v9:=Tryz.zeroValue9
 t21:=Tryz.underlying21
 a21:=Tryz.isAgg21
 z21:=Tryz.sizeOf21
 v21:=Tryz.zeroValue21
 t31:=Tryz.underlying52
 a31:=Tryz.isAgg52
 z31:=Tryz.sizeOf52
 v31:=Tryz.zeroValue52
 t46:=Tryz.underlying155
 a46:=Tryz.isAgg155
 z46:=Tryz.sizeOf155
 v46:=Tryz.zeroValue155
 t51:=Tryz.underlying221
 a51:=Tryz.isAgg221
 z51:=Tryz.sizeOf221
 v51:=Tryz.zeroValue221
 t105:=Tryz.underlying318
 a105:=Tryz.isAgg318
 z105:=Tryz.sizeOf318
 v105:=Tryz.zeroValue318
 t119:=Tryz.underlying325
 a119:=Tryz.isAgg325
 z119:=Tryz.sizeOf325
 t138:=Tryz.underlying327
 a138:=Tryz.isAgg327
 z138:=Tryz.sizeOf327
 v138:=Tryz.zeroValue327
 t139:=Tryz.underlying328
 a139:=Tryz.isAgg328
 z139:=Tryz.sizeOf328
 v139:=Tryz.zeroValue328
 t146:=Tryz.underlying294
 a146:=Tryz.isAgg294
 z146:=Tryz.sizeOf294
 v146:=Tryz.zeroValue294
 g1:=by kernel_rfl
 g3:=by kernel_rfl
 g4:=by kernel_rfl }
def Tryz.layLast_ren:Go.Shelf.Ren:=⟨fun | 148=>213 | 222=>247 | 223=>248 | 269=>270 | n=>n,fun | 9=>9 | 3=>3 | 4=>4 | 5=>5 | 146=>294 | 51=>221 | 46=>155 | n=>n,fun | n=>n⟩
theorem Tryz.layLast:Go.Proofs.Lays.n148 Tryz.prog Tryz.layLast_ren:={
 mixed:=by kernel_rfl
 f148:=Go.Eng.A0a Tryz.func213
 f222:=Go.Eng.A0a Tryz.func247
 f223:=Go.Eng.A0a Tryz.func248
 f269:=Go.Eng.A0a Tryz.func270
 t3:=Tryz.underlying3
 a3:=Tryz.isAgg3
 z3:=Tryz.sizeOf3
 v3:=Tryz.zeroValue3
 t4:=Tryz.underlying4
 a4:=Tryz.isAgg4
 z4:=Tryz.sizeOf4
 v4:=Tryz.zeroValue4
 t5:=Tryz.underlying5
 a5:=Tryz.isAgg5
 z5:=Tryz.sizeOf5
 v5:=Tryz.zeroValue5
 t9:=Tryz.underlying9
 a9:=Tryz.isAgg9
 z9:=Tryz.sizeOf9
 v9:=Tryz.zeroValue9
 t46:=Tryz.underlying155
 a46:=Tryz.isAgg155
 z46:=Tryz.sizeOf155
 v46:=Tryz.zeroValue155
 t51:=Tryz.underlying221
 a51:=Tryz.isAgg221
 z51:=Tryz.sizeOf221
 v51:=Tryz.zeroValue221
 t146:=Tryz.underlying294
 a146:=Tryz.isAgg294
 z146:=Tryz.sizeOf294
 v146:=Tryz.zeroValue294 }
def Tryz.layCut_ren:Go.Shelf.Ren:=⟨fun | 103=>267 | 210=>290 | 206=>313 | n=>n,fun | 9=>9 | 4=>4 | 24=>128 | 3=>3 | n=>n,fun | n=>n⟩
theorem Tryz.layCut:Go.Proofs.Lays.n103 Tryz.prog Tryz.layCut_ren:={
 mixed:=by kernel_rfl
 f103:=Go.Eng.A0a Tryz.func267
 f206:=Go.Eng.A0a Tryz.func313
 f210:=Go.Eng.A0a Tryz.func290
 t3:=Tryz.underlying3
 a3:=Tryz.isAgg3
 z3:=Tryz.sizeOf3
 v3:=Tryz.zeroValue3
 t4:=Tryz.underlying4
 a4:=Tryz.isAgg4
 z4:=Tryz.sizeOf4
 v4:=Tryz.zeroValue4
 t9:=Tryz.underlying9
 a9:=Tryz.isAgg9
 z9:=Tryz.sizeOf9
 v9:=Tryz.zeroValue9
 t24:=Tryz.underlying128
 a24:=Tryz.isAgg128
 z24:=Tryz.sizeOf128
 v24:=Tryz.zeroValue128 }
def Tryz.layCont_ren:Go.Shelf.Ren:=⟨fun | 144=>292 | 143=>289 | 219=>312 | 217=>320 | 225=>321 | 224=>322 | 267=>323 | 266=>326 | 314=>327 | n=>n,fun | 9=>9 | 4=>4 | 3=>3 | 5=>5 | 46=>155 | 146=>294 | 51=>221 | n=>n,fun | 1=>0 | n=>n⟩
theorem Tryz.layCont:Go.Proofs.Lays.n144 Tryz.prog Tryz.layCont_ren:={
 mixed:=by kernel_rfl
 f143:=Go.Eng.A0a Tryz.func289
 f144:=Go.Eng.A0a Tryz.func292
 f217:=Go.Eng.A0a Tryz.func320
 f219:=Go.Eng.A0a Tryz.func312
 f224:=Go.Eng.A0a Tryz.func322
 f225:=Go.Eng.A0a Tryz.func321
 f266:=Go.Eng.A0a Tryz.func326
 f267:=Go.Eng.A0a Tryz.func323
 f314:=Go.Eng.A0a Tryz.func327
 t3:=Tryz.underlying3
 a3:=Tryz.isAgg3
 z3:=Tryz.sizeOf3
 v3:=Tryz.zeroValue3
 t4:=Tryz.underlying4
 a4:=Tryz.isAgg4
 z4:=Tryz.sizeOf4
 v4:=Tryz.zeroValue4
 t5:=Tryz.underlying5
 a5:=Tryz.isAgg5
 z5:=Tryz.sizeOf5
 v5:=Tryz.zeroValue5
 t9:=Tryz.underlying9
 a9:=Tryz.isAgg9
 z9:=Tryz.sizeOf9
 v9:=Tryz.zeroValue9
 t46:=Tryz.underlying155
 a46:=Tryz.isAgg155
 z46:=Tryz.sizeOf155
 v46:=Tryz.zeroValue155
 t51:=Tryz.underlying221
 a51:=Tryz.isAgg221
 z51:=Tryz.sizeOf221
 v51:=Tryz.zeroValue221
 t146:=Tryz.underlying294
 a146:=Tryz.isAgg294
 z146:=Tryz.sizeOf294
 v146:=Tryz.zeroValue294
 g1:=by kernel_rfl }
end Go.Proofs
namespace Go.Eng
open Go.Proofs
variable (s p:ByteArray)
abbrev aY:ByteArray:=⟨#[47]⟩
abbrev BI:List ByteArray:=Go.Lib.splitB aY 0 (Go.Lib.countB s aY) s
theorem PD:(BI s).map (·.data.toList)=CA 47 s.data.toList:=jf s 47
abbrev GR:List AV:=[vs s]
theorem wu(hs:F1 s):PC 240 [vs s,vs aY] (sl GR (BI s)):=by
 unfold F1 at hs;have h:=iL (P:=Tryz.prog) (f:=240) (args:=[vs s,vs aY]) [.string s,.string aY] ((BI s).map Value.string) 9 (ku 240 Tryz.func240 aa3 rfl) rfl (fun x hx=>by
  obtain⟨y,_,rfl⟩:=Ar.1 hx;rfl) (fun w hm=>by
  obtain⟨m,hm⟩:=hm;have hl:(BI s).length=Go.Lib.countB s aY+1:=Go.Lib.splitB_all aY aa2 0 _ s rfl;refine(Any.strings_Split Tryz.laySplit aa3 s aY m w aa0 hm aa2).mono ?_
  rintro e w' ⟨rfl,rfl⟩
  exact⟨by simp_all,rfl⟩)
 rw[B2]at h;exact h
theorem Aaz(hs:F1 s):PC 213 [vs s,vs p] (vi (Go.Lib.lastIndex s.data.toList p.data.toList)):=by
 unfold F1 at hs;exact Ly [.string s,.string p] (.int .i64 (Go.Lib.lastIndex s.data.toList p.data.toList)) (ku 213 Tryz.func213 aa3 rfl) rfl (fun g w=>.v _ _) fun w _=>Any.strings_LastIndex Tryz.layLast s p aa0 w
theorem AaN:PC 267 [vs s,vs p] (.tup [vs ⟨(Go.Lib.trimPrefix s.data.toList p.data.toList).toArray⟩,vb (Go.Lib.hasPrefix s.data.toList p.data.toList)]):=by
 exact Ly [.string s,.string p] _ (ku 267 Tryz.func267 aa3 rfl) rfl (fun g w=>m8 [.string ⟨(Go.Lib.trimPrefix s.data.toList p.data.toList).toArray⟩,.bool (Go.Lib.hasPrefix s.data.toList p.data.toList)]) fun w _=>Any.strings_CutPrefix Tryz.layCut s p w
theorem AaU(hs:F1 s):PC 292 [vs s,vs p] (vb (Go.Lib.contains s.data.toList p.data.toList)):=by
 unfold F1 at hs;exact Ly [.string s,.string p] (.bool (Go.Lib.contains s.data.toList p.data.toList)) (ku 292 Tryz.func292 aa3 rfl) rfl (fun g w=>.v _ _) fun w hm=>by
  obtain⟨m,hm⟩:=hm;exact Any.strings_Contains Tryz.layCont s p m w aa0 hm
theorem eK:∀x y:List UInt8,PF x y=x.isPrefixOf y
 | [],_=>by simp[PF]
 |_::_,[]=>rfl
 |a::x,b::y=>by
  rw[PF,List.isPrefixOf_cons_cons,eK x y]
  rfl
theorem lW(x:List UInt8):∀y:List UInt8,oh x y=Go.Lib.contains y x
 | []=>by
  unfold Go.Lib.contains Go.Lib.index;cases x<;>rfl
 |b::y=>by
  rw[oh,eK,lW x y]
  grind [Go.Lib.contains,Go.Lib.index]
theorem Ob:∀(l:List UInt8) (h:0<l.length),l.headD 0=l[0]
 | [],h=>by grind
 |_::_,_=>rfl
abbrev rW:ByteArray:=⟨⟨ca⟩⟩
theorem AaP(hs:F1 s):PC 269 [vs s] (vb (Vm s.data.toList)):=by
 unfold F1 at hs;have hc:=AaU rW ((⟨#[32]⟩++s)++⟨#[32]⟩) (Gm aa3);have e:Go.Lib.contains rW.data.toList ((⟨#[32]⟩++s:ByteArray)++⟨#[32]⟩).data.toList=Vm s.data.toList:=by
  unfold Vm;rw[lW]
  congr 1
 rw[e]at hc;refine Ps De Tryz.func269 rfl (Nz rfl) (Yi (by show(((1+s.size:Nat)):Int)<=_;omega) ?_);refine Yi (by show(((⟨#[32]⟩++s:ByteArray).size+1:Nat):Int)<=_;rw[ByteArray.size_append];show(((1+s.size)+1:Nat):Int)<=_;omega) ?_;refine Xi .pure (Xi _ (Yi (hc) ?_));exact .refl _
theorem AaH(hs:F1 s):PC 242 [vs s] (vb (GE s.data.toList)):=by
 have hk:=AaP s hs;have hw:=sM s 268 FU AaO (by unfold F1 at hs;simp;omega);have FG:s.size=s.data.toList.length:=by simp
 have en:GE s.data.toList=(!s.data.toList.isEmpty&&decide (s.data.toList.length<=32)&&Ez (s.data.toList.headD 0)&&s.data.toList.all FU&&!Vm s.data.toList):=rfl
 by_cases h0:s=⟨#[]⟩
 .subst h0;refine Ps De Tryz.func242 rfl (Nz rfl) (Yi ?_ ?_)
  .intro h;exact absurd rfl (show(⟨#[]⟩:ByteArray)≠⟨#[]⟩from h)
  .intro _;exact .refl _
 have h0' : s.data.toList≠[]:=fun e=>h0 (by
  have:s.data=#[]:=by simp_all
  cases s;simp_all)
 have CD:0<s.data.toList.length:=List.length_pos_iff.2 h0';have pO:s.data.toList.isEmpty=false:=by
  grind
 have hhd:s.data.toList.headD 0=s.data.toList[0]:=Ob _ CD;have gN:=sN s.data.toList[0];refine Ps De Tryz.func242 rfl (Nz rfl) (Yi ?_ ?_)
 rotate_left
 .intro h;exact absurd h0 h
 intro _;refine Yi ?_ ?_
 rotate_left
 .intro h;exact .of_eq (Aa vb (show false=GE s.data.toList by grind))
 intro h;refine Xi s.data.toList[0] (Yi ⟨Ce _,oD s 0 CD⟩ (AA (Bt (Ez s.data.toList[0])) (fun e1=>?_) (fun e1=>?_)))
 rotate_left
 .rw[e1]at gN;refine Xi .pure (Xi _ (Yi (gN) ?_));exact .of_eq (Aa vb (show false=GE s.data.toList by grind))
 rw[e1]at gN;refine Xi .pure (Xi _ (Yi (gN) (AA (Bt (s.data.toList.all FU)) (fun e2=>?_) (fun e2=>?_))))
 rotate_left
 .rw[e2]at hw;refine Xi .pure (Xi _ (Yi (hw) ?_));exact .of_eq (Aa vb (show false=GE s.data.toList by grind))
 rw[e2]at hw;refine Xi .pure (Xi _ (Yi (hw) ?_));have ef:GE s.data.toList=!Vm s.data.toList:=by grind
 refine AA (Bt (Vm s.data.toList)) (fun e3=>?_) (fun e3=>?_)
 .rw[e3]at hk;refine Xi .pure (Xi _ (Yi (hk) ?_));exact .of_eq (Aa vb (show false=GE s.data.toList by grind))
 .rw[e3]at hk;refine Xi .pure (Xi _ (Yi (hk) ?_));exact .of_eq (Aa vb (show true=GE s.data.toList by grind))
abbrev X1:Option Int->AV
 |some n=>.tup [vi n,vb true]
 |none=>.tup [vi 0,vb false]
theorem Sz{z:Int}(h0:0<=z)(h1:z<256):IntKind.u8.wrap z=z:=by
 show z % 256=z;omega
theorem Jf{c:UInt8}(h:Co c=true):48<=c.toNat/\c.toNat<=57:=by
 grind [Co,UInt8.le_iff_toNat_le]
theorem KT(r:List UInt8)(i:Nat)(h:i<r.length):DX (r.take (i+1))=10*DX (r.take i)+((r[i].toNat:Int)-48):=by
 grind [DX,List.take_add_one]
theorem AaG(hs:F1 s):PC 241 [vs s] (X1 (Gz s.data.toList)):=by
 unfold F1 at hs;have hc:=AaN s ⟨#[118]⟩
 by_cases hp:∃r,s.data.toList=118::r
 .obtain⟨r,hr⟩:=hp;have e1:Go.Lib.hasPrefix s.data.toList (⟨#[118]⟩:ByteArray).data.toList=true:=by rw[hr];rfl
  have e2:Go.Lib.trimPrefix s.data.toList (⟨#[118]⟩:ByteArray).data.toList=r:=by grind [Go.Lib.trimPrefix]
  rw[e1,e2]at hc;have hv:Gz s.data.toList=if(r.isEmpty||decide (3<r.length)||(decide (1<r.length)&&decide (r.headD 0=48))||!r.all Co)=true then none else some (DX r):=by rw[hr];rfl
  have Jh:r.length<s.size:=by
   have:s.size=s.data.toList.length:=by simp
   simp_all
  generalize hB:(⟨r.toArray⟩:ByteArray)=rB at hc;have wY:rB.data.toList=r:=by grind
  have zo:rB.size=r.length:=by rw[<-hB];rfl
  have hw:=sM rB 246 Co sO (by grind);rw[wY]at hw;have no:∀{b:Bool},b=true->(if b=true then none else some (DX r))=(none:Option Int):=fun h=>AX h;refine Ps (Dw []) Tryz.func241 rfl (Nz rfl) (Xi .pure (Xi _ (Yi (hc) (Yi ?_ ?_))))
  .intro h
   have:r=[]:=by simp_all
   exact .of_eq (Aa X1 (show(none:Option Int)=Gz s.data.toList by simp_all))
  intro h;have D8:r≠[]:=fun e=>h (by simp_all);have CD:0<r.length:=List.length_pos_iff.2 D8;have pO:r.isEmpty=false:=by
   simp_all
  refine Yi ?_ ?_
  .intro h2;exact .of_eq (Aa X1 (show(none:Option Int)=Gz s.data.toList by grind))
  intro h2;have xM:r.length<=3:=by omega
  have d3:decide (3<r.length)=false:=AP aa0;refine Yi ?_ ?_
  .intro h3;have AbK:rB.data[(0:Int).toNat]?=some r[0]:=by
    grind
   refine Xi r[0] (Yi ⟨Ce _,AbK⟩ ?_);have hh:=Ob r CD;refine Yi ?_ ?_
   .intro h4
    have:r[0]=48:=HS.1 (by grind)
    exact .of_eq (Aa X1 (show(none:Option Int)=Gz s.data.toList by grind))
   intro h4;have eo:(decide (1<r.length)&&decide (r.headD 0=48))=false:=by rw[hh,AP (show ¬r[0]=48 from fun e=>h4 (by simp_all)),Bool.and_false]
   have hv2:Gz s.data.toList=if(!r.all Co)=true then none else some (DX r):=by grind
   refine AA (Bt (r.all Co)) (fun e3=>?_) (fun e3=>?_)
   rotate_left
   .rw[e3]at hw;refine Xi .pure (Xi _ (Yi (hw) ?_));exact .of_eq (Aa X1 (show(none:Option Int)=Gz s.data.toList by simp_all))
   rw[e3]at hw;refine Xi .pure (Xi _ (Yi (hw) ?_));have hv3:Gz s.data.toList=some (DX r):=by simp_all
   have z0:DX (r.take 0)=0:=rfl;refine Xi {i:Nat // i<=r.length/\0<=DX (r.take i)/\(i=0->DX (r.take i)<=0)/\(i<=1->DX (r.take i)<=9)/\(i<=2->DX (r.take i)<=99)/\DX (r.take i)<=999} (Xi (fun i=>⟨[(0,vs rB),(5,vi (DX (r.take i.1))),(39,vi rB.size),(40,vi i.1)],[],Ae⟩) (Xi (fun i=>r.length-i.1) (Yi (Xi ⟨0,Ap _,by omega,fun _=>by omega,fun _=>by omega,fun _=>by omega,by omega⟩ ?_) ?_)))
   .exact⟨Z4,Tv,Fh,Tv⟩
   intro⟨i,i1,i2,i3,i4,i5,i6⟩;refine Yi ?_ ?_
   .intro h;have h:(i:Int)<(rB.size:Nat):=h;have h:i<r.length:=by omega
    have zv:Co r[i]=true:=BO.1 e3 _ (Ak h);have rH:=Jf zv;have jz:=KT r i h;have oe:IntKind.u8.wrap ((r[i].toNat:Int)-48)=(r[i].toNat:Int)-48:=Sz aa0 aa0;have Oa:rB.data[((i:Nat):Int).toNat]?=some r[i]:=by grind
    refine Yi (by show As (10*DX (r.take i));unfold As;omega) (Xi r[i] (Yi ⟨by omega,Oa⟩ ?_));refine Yi (by show As (IntKind.u8.wrap ((r[i].toNat:Int)-48));rw[oe];unfold As;omega) ?_;refine Yi (by show As (10*DX (r.take i)+IntKind.u8.wrap ((r[i].toNat:Int)-48));rw[oe];unfold As;omega) ?_;refine Yi (Ii i aa0) ?_;have e5:vi (10*DX (r.take i)+IntKind.u8.wrap ((r[i].toNat:Int)-48))=vi (DX (r.take (i+1))):=by simp_all
    refine Xi ⟨i+1,by omega,by omega,fun _=>by omega,fun _=>by omega,fun _=>by omega,by omega⟩ ?_;exact⟨Dl r.length i aa0,⟨Zr,⟨e5,rfl⟩,Zr,Zr,Tv⟩,Tv,Fh,Tv⟩
   .intro h;have h:¬(i:Int)<(rB.size:Nat):=h;have e6:AV.tup [vi (DX (r.take i)),vb true]=X1 (Gz s.data.toList):=by grind
    exact .of_eq e6
  .intro h3;have h3:¬(1:Int)<((rB.size:Nat):Int):=h3;have eo:(decide (1<r.length)&&decide (r.headD 0=48))=false:=by grind
   have hv2:Gz s.data.toList=if(!r.all Co)=true then none else some (DX r):=by grind
   refine AA (Bt (r.all Co)) (fun e3=>?_) (fun e3=>?_)
   rotate_left
   .rw[e3]at hw;refine Xi .pure (Xi _ (Yi (hw) ?_));exact .of_eq (Aa X1 (show(none:Option Int)=Gz s.data.toList by simp_all))
   rw[e3]at hw;refine Xi .pure (Xi _ (Yi (hw) ?_));have hv3:Gz s.data.toList=some (DX r):=by simp_all
   have z0:DX (r.take 0)=0:=rfl;refine Xi {i:Nat // i<=r.length/\0<=DX (r.take i)/\(i=0->DX (r.take i)<=0)/\(i<=1->DX (r.take i)<=9)/\(i<=2->DX (r.take i)<=99)/\DX (r.take i)<=999} (Xi (fun i=>⟨[(0,vs rB),(5,vi (DX (r.take i.1))),(39,vi rB.size),(40,vi i.1)],[],Ae⟩) (Xi (fun i=>r.length-i.1) (Yi (Xi ⟨0,Ap _,by omega,fun _=>by omega,fun _=>by omega,fun _=>by omega,by omega⟩ ?_) ?_)))
   .exact⟨Z4,Tv,Fh,Tv⟩
   intro⟨i,i1,i2,i3,i4,i5,i6⟩;refine Yi ?_ ?_
   .intro h;have h:(i:Int)<(rB.size:Nat):=h;have h:i<r.length:=by omega
    have zv:Co r[i]=true:=BO.1 e3 _ (Ak h);have rH:=Jf zv;have jz:=KT r i h;have oe:IntKind.u8.wrap ((r[i].toNat:Int)-48)=(r[i].toNat:Int)-48:=Sz aa0 aa0;have Oa:rB.data[((i:Nat):Int).toNat]?=some r[i]:=by grind
    refine Yi (by show As (10*DX (r.take i));unfold As;omega) (Xi r[i] (Yi ⟨by omega,Oa⟩ ?_));refine Yi (by show As (IntKind.u8.wrap ((r[i].toNat:Int)-48));rw[oe];unfold As;omega) ?_;refine Yi (by show As (10*DX (r.take i)+IntKind.u8.wrap ((r[i].toNat:Int)-48));rw[oe];unfold As;omega) ?_;refine Yi (Ii i aa0) ?_;have e5:vi (10*DX (r.take i)+IntKind.u8.wrap ((r[i].toNat:Int)-48))=vi (DX (r.take (i+1))):=by simp_all
    refine Xi ⟨i+1,by omega,by omega,fun _=>by omega,fun _=>by omega,fun _=>by omega,by omega⟩ ?_;exact⟨Dl r.length i aa0,⟨Zr,⟨e5,rfl⟩,Zr,Zr,Tv⟩,Tv,Fh,Tv⟩
   .intro h;have h:¬(i:Int)<(rB.size:Nat):=h;have e6:AV.tup [vi (DX (r.take i)),vb true]=X1 (Gz s.data.toList):=by grind
    exact .of_eq e6
 .have e1:Go.Lib.hasPrefix s.data.toList (⟨#[118]⟩:ByteArray).data.toList=false:=by
   cases hl:s.data.toList with
   |nil=>rfl
   |cons a l=>
    have:a≠118:=fun e=>hp ⟨l,by simp_all⟩
    show(List.isPrefixOf [118] (a::l))=false
    grind
  have hv:Gz s.data.toList=none:=by
   cases hl:s.data.toList with
   |nil=>rfl
   |cons a l=>
    have:a≠118:=fun e=>hp ⟨l,by simp_all⟩
    show(if a=118 then _ else none)=none;simp_all
  rw[e1]at hc;refine Ps De Tryz.func241 rfl (Nz rfl) (Xi .pure (Xi _ (Yi (hc) ?_)));exact .of_eq (Aa X1 hv.symm)
abbrev Qu:Option Int->AV
 |some n=>.tup [vi n,vi 0]
 |none=>.tup [vi 0,vi 4]
theorem LI(c:UInt8):∀(s x:List UInt8),x∈CA c s->x.length<=s.length
 | [],x,h=>by
  grind [CA]
 |b::r,x,h=>by
  have ih:=LI c r
  grind [CA]
theorem mO{p x:ByteArray}(hp:F1 p)(hx:x∈BI p):F1 x:=by
 have h:x.data.toList∈CA 47 p.data.toList:=by grind [PD]
 have:=LI 47 _ _ h
 unfold F1 at *
 have e1:x.size=x.data.toList.length:=by simp
 have e2:p.size=p.data.toList.length:=by simp
 omega
theorem iJ:(BI p).length=(CA 47 p.data.toList).length:=by grind [PD]
theorem iK:0<(BI p).length:=by
 rw[show(BI p).length=Go.Lib.countB p aY+1 from Go.Lib.splitB_all aY aa2 0 _ p rfl];omega
theorem iI:(BI p).length<=p.size+1:=by
 rw[show(BI p).length=Go.Lib.countB p aY+1 from Go.Lib.splitB_all aY aa2 0 _ p rfl]
 have:=Go.Lib.countB_le aY aa2 p.size p (Ao _);omega
theorem ct(h:(BI p).length-1<(BI p).length):(CA 47 p.data.toList).getLastD []=((BI p)[(BI p).length-1]).data.toList:=by
 grind [PD]
theorem iH:(CA 47 p.data.toList).all HD=(BI p).all fun x=>HD x.data.toList:=by
 grind [PD]
theorem wj(hp:F1 p):PC 211 [vs p] (Qu (Bj p)):=by
 have tM:=iI p;have xZ:=iK p;have hp1:(BI p).length-1<(BI p).length:=by omega
 have FG:p.size=p.data.toList.length:=by simp
 have hfp:∀{x},x∈BI p->F1 x:=fun h=>mO hp h;unfold F1 at hp;have dQ:((BI p).map GR)[((((BI p).map GR).length:Int)-1).toNat]?=some (GR (BI p)[(BI p).length-1]):=by
  rw[Lm,show(((BI p).length:Int)-1).toNat=(BI p).length-1 by omega];grind
 have hv:=AaG (BI p)[(BI p).length-1] (hfp (Ak hp1));have em:Bj p=match Gz ((BI p)[(BI p).length-1]).data.toList with
  |none=>none
  |some n=>if(decide (64<p.data.toList.length)||decide ((BI p).length<2))=true then none else if((BI p).all fun x=>HD x.data.toList)=true then some n else none:=by
  unfold Bj Qw;rw[ct p hp1,iH,<-iJ];cases Gz ((BI p)[(BI p).length-1]).data.toList<;>grind [Gz]
 cases hve:Gz ((BI p)[(BI p).length-1]).data.toList with
 |none=>
  rw[hve]at hv em;refine Ps (Dw []) Tryz.func211 rfl (Nz rfl) (Xi .pure (Xi _ (Yi (wu p hp) (Yi (by show As ((((BI p).map GR).length:Int)-1);unfold As;rw[Lm];omega) ?_))));refine Xi (GR (BI p)[(BI p).length-1]) (Yi (Yi (by grind) dQ) (Yi rfl (Xi .pure (Xi _ (Yi (hv) ?_)))));exact .of_eq (Aa Qu em.symm)
 |some n=>
  rw[hve]at hv em;refine Ps (Dw []) Tryz.func211 rfl (Nz rfl) (Xi .pure (Xi _ (Yi (wu p hp) (Yi (by show As ((((BI p).map GR).length:Int)-1);unfold As;rw[Lm];omega) ?_))));refine Xi (GR (BI p)[(BI p).length-1]) (Yi (Yi (by grind) dQ) (Yi rfl (Xi .pure (Xi _ (Yi (hv) (Yi ?_ ?_))))))
  .intro h;exact .of_eq (Aa Qu (show(none:Option Int)=Bj p by grind))
  intro h;have d1:decide (64<p.data.toList.length)=false:=AP aa0;refine Yi ?_ ?_
  .intro h2;rw[Lm]at h2;exact .of_eq (Aa Qu (show(none:Option Int)=Bj p by grind))
  intro h2;have d2:decide ((BI p).length<2)=false:=AP (by rw[Lm]at h2;omega);have em2:Bj p=if((BI p).all fun x=>HD x.data.toList)=true then some n else none:=by grind
  refine Xi {i:Nat // i<=(BI p).length/\∀j (hj:j<(BI p).length),j<i->HD ((BI p)[j]).data.toList=true} (Xi (fun i=>⟨[(5,vi n),(33,sl GR (BI p)),(34,vi ((BI p).map GR).length),(35,vi i.1)],[],Ae⟩) (Xi (fun i=>(BI p).length-i.1) (Yi (Xi ⟨0,Ap _,fun j _ h=>by omega⟩ ?_) ?_)))
  .exact⟨Z4,Tv,Fh,Tv⟩
  intro⟨i,i1,i2⟩;refine Yi ?_ ?_
  .intro h;have h:i<(BI p).length:=by simpa using h
   have hg:(BI p)[i]?=some (BI p)[i]:=Ge h;refine Xi (GR (BI p)[i]) (Yi (Yi aa0 (by simp[hg])) (Yi rfl ?_));have hfi:=hfp (Ak h);have hn:=AaH (BI p)[i] hfi;have ha:=sM (BI p)[i] 244 UJ AaI (by unfold F1 at hfi;have e1:(BI p)[i].size=(BI p)[i].data.toList.length:=aa1;omega);have no:HD ((BI p)[i]).data.toList=false->(none:Option Int)=Bj p:=fun e=>by
    rw[em2,AI];intro GI
    have:=BO.1 GI _ (Ak h)
    grind
   refine AA (Bt (GE ((BI p)[i]).data.toList)) (fun e1=>?_) (fun e1=>?_)
   rotate_left
   .rw[e1]at hn;refine Xi .pure (Xi _ (Yi (hn) ?_));exact .of_eq (Aa Qu (no (by unfold HD;grind)))
   rw[e1]at hn;refine Xi .pure (Xi _ (Yi (hn) (AA (Bt (((BI p)[i]).data.toList.all UJ)) (fun e2=>?_) (fun e2=>?_))))
   rotate_left
   .rw[e2]at ha;refine Xi .pure (Xi _ (Yi (ha) ?_));exact .of_eq (Aa Qu (no (by unfold HD;grind)))
   rw[e2]at ha;refine Xi .pure (Xi _ (Yi (ha) (Yi (Ii i aa0) (Xi ⟨i+1,by omega,fun j hj Hg=>?_⟩ ?_))))
   .rcases El j i with z | z
    .exact i2 j hj z
    .have:j=i:=by omega
     subst this;unfold HD;grind
   .exact⟨by show(BI p).length-(i+1)<(BI p).length-i;omega,Z4,Tv,Fh,Tv⟩
  .intro h;have h:¬i<(BI p).length:=by simpa using h
   have e:some n=Bj p:=by
    rw[em2,AX];exact BO.2 fun x hx=>by
     obtain⟨j,hj,rfl⟩:=He hx;exact i2 j hj aa0
   exact .of_eq (Aa Qu e)
theorem Aay(hp:F1 p):PC 212 [vs p] (vb (Bj p).isSome):=by
 have hc:=wj p hp;cases h:Bj p with
 |none=>
  rw[h]at hc;refine Ps De Tryz.func212 rfl (Nz rfl) (Xi .pure (Xi _ (Yi (hc) (Yi ?_ ?_))))
  .intro h;exact absurd (show(4:Int)=0 from h) aa2
  .intro _;exact .refl _
 |some n=>
  rw[h]at hc;refine Ps De Tryz.func212 rfl (Nz rfl) (Xi .pure (Xi _ (Yi (hc) (Yi ?_ ?_))))
  .intro _;exact .refl _
  .intro h;exact absurd rfl h
theorem OC(c:UInt8):∀s:List UInt8,2<=(CA c s).length->c∈s
 | [],h=>by grind [CA]
 |b::r,h=>by
  rw[CA]at h
  by_cases e:b=c
  .simp_all
  .rw[AI e]at h;refine Ai _ (OC c r ?_)
   grind
theorem l8{p:ByteArray}{m:Int}(h:Bj p=some m):0<=Go.Lib.lastIndex p.data.toList [47]/\Go.Lib.lastIndex p.data.toList [47]<=p.size:=by
 have h2:2<=(CA 47 p.data.toList).length:=by
  grind [Bj,Qw]
 have hm:=OC 47 _ h2;obtain⟨i,hi,e⟩:=He hm;have FG:p.size=p.data.toList.length:=by simp
 unfold Go.Lib.lastIndex;rw[AX (by grind)];have Ahu:Go.Lib.occAt p.data.toList [47] i=true:=by
  grind [Go.Lib.occAt,List.drop_eq_getElem_cons]
 grind [Go.Lib.lastOcc_spec]
abbrev cf:ByteArray:=p.extract 0 (Go.Lib.lastIndex p.data.toList [47]).toNat
theorem fS:U5 cf:=by
 intro p hp;have hc:=wj p hp;have hi:=Aay p hp;unfold Zz;cases h:Bj p with
 |none=>
  rw[h]at hc hi;refine Ps De Tryz.func163 rfl (Nz rfl) (Xi .pure (Xi _ (Yi (hc) (Xi .pure (Xi _ (Yi (hi) ?_))))));exact .refl _
 |some n=>
  rw[h]at hc hi;obtain⟨l1,l2⟩:=l8 h;have hl:PC 213 [vs p,vs aY] (vi (Go.Lib.lastIndex p.data.toList [47])):=Aaz p aY hp;refine Ps De Tryz.func163 rfl (Nz rfl) (Xi .pure (Xi _ (Yi (hc) (Xi .pure (Xi _ (Yi (hi) (Yi ?_ ?_)))))))
  .intro h;exact absurd rfl h
  intro _;refine Xi .pure (Xi _ (Yi (hl) (Yi ⟨Ce _,l1,l2⟩ ?_)));exact .refl _
end Go.Eng
