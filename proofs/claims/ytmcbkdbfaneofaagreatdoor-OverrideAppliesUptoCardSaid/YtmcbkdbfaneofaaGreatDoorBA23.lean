/- Lemmas for the claims of this seat, without a condition: part 23 (R2, R3, R4, R5, C60, C61, C62, C63, C64, R6, R7, R8, R9, R10). -/
import Derived.Test.YtmcbkdbfaneofaaGreatDoorBA22
namespace Go.Eng
open Go.Proofs
abbrev uv:List ByteArray:=pA.map bs
theorem vX:PC 216 [] (sl Dx uv):=by
 refine Ps EY Tryz.func216 rfl (Nz rfl) ?_;exact .refl _
theorem vW(l:List ByteArray)(s:ByteArray)(hl:Ci l):PC 215 [sl Dx l,vs s] (vb (l.any fun q=>decide (q=s))):=by
 unfold Ci at hl;refine Ps EY Tryz.func215 rfl (Nz rfl) ?_;refine Xi {i:Nat // i≤l.length∧∀j (hj:j<l.length),j<i→l[j]≠s} (Xi (fun i=>⟨[(0,sl Dx l),(1,vs s),(5,vi i.1)],[],Ab⟩) (Xi (fun i=>l.length-i.1) (Yi (Xi ⟨0,AF _,fun j _ h=>by omega⟩ ?_) ?_)))
 ·exact⟨Z3,Tv,Fh,Tv⟩
 intro⟨i,h1,h2⟩;refine Yi ?_ ?_
 ·intro h;have h:(i:Int)<(l.map Dx).length:=h;have h:i<l.length:=by simpa using h
  have hg:l[i]?=some l[i]:=Ge h;refine Xi (Dx l[i]) (Yi (Yi (Nn i) (by simp[hg])) (Yi rfl ?_));refine Yi ?_ ?_
  ·intro he;have he:l[i]=s:=he;exact .of_eq (Aa vb (show true=_ from(A8.2 ⟨l[i],Ak h,by simpa using he⟩).symm))
  ·intro he;have he:¬l[i]=s:=he;refine Yi (Ii i (by omega)) ?_;refine Xi ⟨i+1,by omega,fun j hj GF=>?_⟩ ?_
   ·rcases Cv j i with z | z
    ·exact h2 j hj z
    ·have:j=i:=by omega
     subst this;exact he
   ·exact⟨Dl l.length i (by omega),Z3,Tv,Fh,Tv⟩
 ·intro h;have h:¬(i:Int)<(l.map Dx).length:=h;have h:¬i<l.length:=by simpa using h
  have er:(l.any fun q=>decide (q=s))=false:=by
   rw[FE];intro q hq;obtain⟨j,hj,rfl⟩:=B9 hq;simpa using h2 j hj (by omega)
  exact .of_eq (Aa vb er.symm)
theorem qW{w:List UInt8}{s:ByteArray}:bs w=s↔w=s.data.toList:=by
 constructor
 ·intro h;rw[←h];rfl
 ·intro h;rw[h];rfl
theorem pC(s:ByteArray):(uv.any fun q=>decide (q=s))=pA.any (fun w=>decide (w=s.data.toList)):=by
 unfold uv;rw[List.any_map]
 congr 1
 funext w
 simp only[Function.comp];rw[Te];exact qW
theorem vR(s:ByteArray)(hs:s.data.toList.length<4611686018427387904):PC 184 [vs s] (vb (Gq s.data.toList)):=by
 have El:s.size=s.data.toList.length:=by simp
 obtain⟨N,hN⟩:∃N,N=Gq s.data.toList:=⟨_,rfl⟩;rw[←hN];unfold Gq at hN;have lk:=vV s hs;have gG:=vW uv s (by decide);rw[pC]at gG;refine Ps EY Tryz.func184 rfl (Nz rfl) ?_;refine Yi (fun h=>?_) (fun h=>?_)
 rotate_left
 ·have h:¬(1:Int)≤(s.size:Nat):=h;have e:s.data.toList=[]:=AA (by omega);exact .of_eq (Aa vb (show false=N by rw[hN,e];rfl))
 have h:(1:Int)≤(s.size:Nat):=h;have he:s.data.toList.isEmpty=false:=by
  cases e:s.data.toList with
  |nil=>rw[e,AE]at El;omega
  |cons _ _=>rfl
 refine Yi (fun h2=>?_) (fun h2=>?_)
 rotate_left
 ·have h2:¬((s.size:Nat):Int)≤32:=h2;exact .of_eq (Aa vb (show false=N by rw[hN,he,Aj (by omega)];rfl))
 have h2:((s.size:Nat):Int)≤32:=h2;refine BM (show ∃c l,s.data.toList=c::l by cases e:s.data.toList with | nil=>rw[e]at he;cases he | cons c l=>exact⟨c,l,rfl⟩) (fun c hc=>?_);refine BM hc (fun l hc=>?_);refine Xi c (Yi ⟨by decide,by show s.data[(0:Int).toNat]?=_;rw[←AR,hc];rfl⟩ ?_);have lj:=oz c;have hN:N=(EH c&&s.data.toList.all F2&&!UY s.data.toList):=by
  rw[hN,he,At (by omega),hc];rfl
 refine Bp (Bt (EH c)).symm (fun e=>?_) (fun e=>?_)
 ·rw[e]at lj;refine Xi .pure (Xi _ (Yi (lj) ?_));exact .of_eq (Aa vb (show false=N by rw[hN,e];rfl))
 rw[e]at lj;refine Xi .pure (Xi _ (Yi (lj) ?_));refine Bp (Bt (s.data.toList.all F2)).symm (fun e2=>?_) (fun e2=>?_)
 ·rw[e2]at lk;refine Xi .pure (Xi _ (Yi (lk) ?_));exact .of_eq (Aa vb (show false=N by rw[hN,e,e2];rfl))
 rw[e2]at lk;refine Xi .pure (Xi _ (Yi (lk) ?_));refine Xi .pure (Xi _ (Yi (vX) ?_));rw[Z0 e2]at hN;refine Bp (Bt (pA.any (fun w=>decide (w=s.data.toList)))) (fun e3=>?_) (fun e3=>?_)
 ·rw[e3]at gG;refine Xi .pure (Xi _ (Yi (gG) ?_));exact .of_eq (Aa vb (show false=N by rw[hN,e,e2,e3];rfl))
 ·rw[e3]at gG;refine Xi .pure (Xi _ (Yi (gG) ?_));exact .of_eq (Aa vb (show true=N by rw[hN,e,e2,e3];rfl))
theorem jI{s:ByteArray}:Hc s.data.toList=(s.data.toList.all NC&&Gq s.data.toList):=by
 unfold Hc;rw[Bool.and_comm]
theorem vK(s:ByteArray)(hs:s.data.toList.length<4611686018427387904):PC 136 [vs s] (vb (Hc s.data.toList)):=by
 have El:s.size=s.data.toList.length:=by simp
 have wg:=vR s hs;rw[jI];refine Ps EY Tryz.func136 rfl (Nz rfl) ?_;refine Xi {i:Nat // i≤s.data.toList.length∧∀j (hj:j<s.data.toList.length),j<i→NC s.data.toList[j]=true} (Xi (fun i=>⟨[(0,vs s),(3,vi i.1)],[],Ab⟩) (Xi (fun i=>s.data.toList.length-i.1) (Yi (Xi ⟨0,AF _,fun j _ h=>by omega⟩ ?_) ?_)))
 ·exact⟨Z2,Tv,Fh,Tv⟩
 intro⟨i,h1,h2⟩;refine Yi ?_ ?_
 ·intro h;have h:(i:Int)<(s.size:Nat):=h;have h:i<s.data.toList.length:=by omega
  have RZ:(0:Int)≤i∧s.data[((i:Nat):Int).toNat]?=some s.data.toList[i]:=⟨by omega,by rw[Bl];exact MZ s i h⟩;have nx:NC s.data.toList[i]=true→∀j (hj:j<s.data.toList.length),j<i+1→NC s.data.toList[j]=true:=fun e j hj GF=>by
   rcases Cv j i with z | z
   ·exact h2 j hj z
   ·have:j=i:=by omega
    subst this;exact e
  refine Xi s.data.toList[i] (Yi RZ ?_);have h3:=oz s.data.toList[i];have h4:=kT s.data.toList[i];refine Bp (Bt (EH s.data.toList[i])) (fun e=>?_) (fun e=>?_)
  ·rw[e]at h3;refine Xi .pure (Xi _ (Yi (h3) ?_));refine Yi (Ii i (by omega)) ?_;refine Xi ⟨i+1,by omega,nx (by unfold NC;rw[e];rfl)⟩ ?_;exact⟨Dl s.data.toList.length i (by omega),Z2,Tv,Fh,Tv⟩
  rw[e]at h3;refine Xi .pure (Xi _ (Yi (h3) ?_));refine Xi s.data.toList[i] (Yi RZ ?_);refine Bp (Bt (CK s.data.toList[i])) (fun e2=>?_) (fun e2=>?_)
  ·rw[e2]at h4;refine Xi .pure (Xi _ (Yi (h4) ?_));refine Yi (Ii i (by omega)) ?_;refine Xi ⟨i+1,by omega,nx (by unfold NC;rw[e2,UG])⟩ ?_;exact⟨Dl s.data.toList.length i (by omega),Z2,Tv,Fh,Tv⟩
  rw[e2]at h4;refine Xi .pure (Xi _ (Yi (h4) ?_));have er:s.data.toList.all NC=false:=by
   rw[AD];intro ha
   have:=AS.1 ha _ (Ak h)
   unfold NC at this;rw[e,e2]at this;cases this
  exact .of_eq (Aa vb (by rw[er];rfl))
 ·intro h;have h:¬(i:Int)<(s.size:Nat):=h;have er:s.data.toList.all NC=true:=AS.2 fun c hc=>by
   obtain⟨j,hj,rfl⟩:=B9 hc;exact h2 j hj (by omega)
  refine Xi .pure (Xi _ (Yi (wg) ?_));exact .of_eq (Aa vb (by rw[er];rfl))
abbrev U5:Option Int→AV
 |some n=>vi n
 |none=>vi (-1)
theorem vL(s:ByteArray)(hs:s.data.toList.length<4611686018427387904):PC 137 [vs s] (U5 (Gp s.data.toList)):=by
 have El:s.size=s.data.toList.length:=by simp
 refine Ps (Ip [3]) Tryz.func137 rfl (Nz rfl) ?_;refine Yi (fun h=>?_) (fun h=>?_)
 ·have h:((s.size:Nat):Int)<2:=h;exact .of_eq (Aa U5 (show(none:Option Int)=Gp s.data.toList by
   cases hs:s.data.toList with
   |nil=>rfl
   |cons c r =>
    cases r with
    |nil=>unfold Gp;simp
    |cons d r=>rw[hs]at El;simp only[Av]at El;omega))
 have h:¬((s.size:Nat):Int)<2:=h;refine BM (show ∃c r,s.data.toList=c::r by
  cases e:s.data.toList with
  |nil=>rw[e]at El;simp only[AE]at El;omega
  |cons c l=>exact⟨c,l,rfl⟩) (fun c hc=>?_)
 refine BM hc (fun r bt=>?_);have WU:s.size=r.length+1:=by rw[El,bt];rfl
 have xt:Gp s.data.toList=if c=118 then(if(r.isEmpty||decide (3<r.length)||(decide (1<r.length)&&decide (r.headD 0=48))||!r.all CK)=true then none else some (D3 r))else none:=by rw[bt];rfl
 refine Yi (fun h2=>?_) (fun h2=>?_)
 ·have h2:(4:Int)<((s.size:Nat):Int):=h2;exact .of_eq (Aa U5 (show(none:Option Int)=Gp s.data.toList by rw[xt,At (by omega:3<r.length)];simp))
 have h2:¬(4:Int)<((s.size:Nat):Int):=h2;refine Xi c (Yi ⟨by decide,by show s.data[(0:Int).toNat]?=_;rw[←AR,bt];rfl⟩ ?_);refine Yi (fun h3=>?_) (fun h3=>?_)
 ·have h3:¬(c.toNat:Int)=118:=h3;have h3:¬c=118:=fun e=>h3 (by rw[e];rfl);exact .of_eq (Aa U5 (show(none:Option Int)=Gp s.data.toList by rw[xt,Al h3]))
 have h3:¬¬(c.toNat:Int)=118:=h3;have h3:(c.toNat:Int)=118:=B1.1 h3;have h3:c=118:=Gv.1 (by show c.toNat=118;omega);have hr:s.data.toList=118::r:=by rw[bt,h3]
 have hv:Gp s.data.toList=if(r.isEmpty||decide (3<r.length)||(decide (1<r.length)&&decide (r.headD 0=48))||!r.all CK)=true then none else some (D3 r):=by rw[xt,Au h3]
 have CF:0<r.length:=by omega
 have Qx:r.isEmpty=false:=by
  cases hl:r with
  |nil=>rw[hl]at CF;exact absurd CF (by decide)
  |cons a l=>rfl
 have si:r.length≤3:=by omega
 have d3:decide (3<r.length)=false:=Aj (by omega);have z0:D3 (r.take 0)=0:=rfl;have hh:=Oc r CF;refine Xi r[0] (Yi ⟨by decide,by show s.data[(1:Int).toNat]?=_;rw[←AR,bt];show r[0]?=_;exact Ge CF⟩ ?_);refine Yi (fun h4=>?_) (fun h4=>?_)
 ·have h4:(r[0].toNat:Int)=48:=h4;have h4:r[0]=48:=Gv.1 (by show r[0].toNat=48;omega);refine Yi (fun h5=>?_) (fun h5=>?_)
  ·have h5:(2:Int)<((s.size:Nat):Int):=h5;exact .of_eq (Aa U5 (show(none:Option Int)=Gp s.data.toList by rw[hv,hh,h4,At (by omega:1<r.length)];simp))
  have h5:¬(2:Int)<((s.size:Nat):Int):=h5;have eo:(decide (1<r.length)&&decide (r.headD 0=48))=false:=by rw[Aj (by omega:¬1<r.length)];rfl
  refine Xi ⟨[(0,vs s)],[],Ab⟩ (Yi ⟨Z1,Tv,Fh,Tv⟩ ?_)
  refine Xi {i:Nat // i≤r.length∧(∀j (hj:j<r.length),j<i→CK r[j]=true)∧0≤D3 (r.take i)∧(i=0→D3 (r.take i)≤0)∧(i≤1→D3 (r.take i)≤9)∧(i≤2→D3 (r.take i)≤99)∧D3 (r.take i)≤999} (Xi (fun i=>⟨[(0,vs s),(3,vi (D3 (r.take i.1))),(4,vi (1+(i.1:Int)))],[],Ab⟩) (Xi (fun i=>r.length-i.1) (Yi (Xi ⟨0,AF _,fun j _ h=>by omega,by omega,fun _=>by omega,fun _=>by omega,fun _=>by omega,by omega⟩ ?_) ?_)))
  ·exact⟨Z3,Tv,Fh,Tv⟩
  intro⟨i,i1,i0,i2,i3,i4,i5,i6⟩;refine Yi ?_ ?_
  ·intro h;have h:1+(i:Int)<(s.size:Nat):=h;have h:i<r.length:=by omega
   have RZ:(0:Int)≤1+(i:Int)∧s.data[(1+(i:Int)).toNat]?=some r[i]:=⟨by omega,by rw[show(1+(i:Int)).toNat=i+1 by omega,←AR,hr,EB];exact Ge h⟩;refine Xi r[i] (Yi RZ ?_);have hc:=kT r[i];refine Bp (Bt (CK r[i])).symm (fun e=>?_) (fun e=>?_)
   ·rw[e]at hc;refine Xi .pure (Xi _ (Yi (hc) ?_));have Fm:r.all CK=false:=by
     rw[AD];intro ha
     have:=AS.1 ha _ (Ak h)
     rw[e]at this;cases this
    exact .of_eq (Aa U5 (show(none:Option Int)=Gp s.data.toList by rw[hv,Fm];simp))
   rw[e]at hc;refine Xi .pure (Xi _ (Yi (hc) ?_));have m7:=Jr e;have kl:=K6 r i h;have Yn:IntKind.u8.wrap ((r[i].toNat:Int)-48)=(r[i].toNat:Int)-48:=SC (by omega) (by omega);refine Yi (by show Bs (10*D3 (r.take i));unfold Bs;omega) ?_;refine Xi r[i] (Yi RZ ?_);refine Yi (by show Bs (IntKind.u8.wrap ((r[i].toNat:Int)-48));rw[Yn];unfold Bs;omega) ?_;refine Yi (by show Bs (10*D3 (r.take i)+IntKind.u8.wrap ((r[i].toNat:Int)-48));rw[Yn];unfold Bs;omega) ?_;refine Yi (by show Bs (1+(i:Int)+1);unfold Bs;omega) ?_;have e5:vi (10*D3 (r.take i)+IntKind.u8.wrap ((r[i].toNat:Int)-48))=vi (D3 (r.take (i+1))):=by rw[Yn,kl]
   have e6:vi (1+(i:Int)+1)=vi (1+((i+1:Nat):Int)):=Aa vi (by omega);refine Xi ⟨i+1,by omega,fun j hj GF=>?_,by omega,fun _=>by omega,fun _=>by omega,fun _=>by omega,by omega⟩ ?_
   ·rcases Cv j i with z | z
    ·exact i0 j hj z
    ·have:j=i:=by omega
     subst this;exact e
   ·exact⟨Dl r.length i (by omega),⟨Zr,⟨e5,rfl⟩,⟨e6,rfl⟩,Tv⟩,Tv,Fh,Tv⟩
  ·intro h;have h:¬1+(i:Int)<(s.size:Nat):=h;have e3:r.all CK=true:=AS.2 fun c hc=>by
    obtain⟨j,hj,rfl⟩:=B9 hc;exact i0 j hj (by omega)
   have e6:vi (D3 (r.take i))=U5 (Gp s.data.toList):=by rw[hv,Qx,d3,eo,e3,AL (by omega)];rfl
   exact .of_eq e6
 have h4:¬(r[0].toNat:Int)=48:=h4;have eo:(decide (1<r.length)&&decide (r.headD 0=48))=false:=by rw[hh,Aj (show ¬r[0]=48 from fun e=>h4 (by rw[e];rfl)),Cz]
 refine Xi ⟨[(0,vs s)],[],Ab⟩ (Yi ⟨Z1,Tv,Fh,Tv⟩ ?_)
 refine Xi {i:Nat // i≤r.length∧(∀j (hj:j<r.length),j<i→CK r[j]=true)∧0≤D3 (r.take i)∧(i=0→D3 (r.take i)≤0)∧(i≤1→D3 (r.take i)≤9)∧(i≤2→D3 (r.take i)≤99)∧D3 (r.take i)≤999} (Xi (fun i=>⟨[(0,vs s),(3,vi (D3 (r.take i.1))),(4,vi (1+(i.1:Int)))],[],Ab⟩) (Xi (fun i=>r.length-i.1) (Yi (Xi ⟨0,AF _,fun j _ h=>by omega,by omega,fun _=>by omega,fun _=>by omega,fun _=>by omega,by omega⟩ ?_) ?_)))
 ·exact⟨Z3,Tv,Fh,Tv⟩
 intro⟨i,i1,i0,i2,i3,i4,i5,i6⟩;refine Yi ?_ ?_
 ·intro h;have h:1+(i:Int)<(s.size:Nat):=h;have h:i<r.length:=by omega
  have RZ:(0:Int)≤1+(i:Int)∧s.data[(1+(i:Int)).toNat]?=some r[i]:=⟨by omega,by rw[show(1+(i:Int)).toNat=i+1 by omega,←AR,hr,EB];exact Ge h⟩;refine Xi r[i] (Yi RZ ?_);have hc:=kT r[i];refine Bp (Bt (CK r[i])).symm (fun e=>?_) (fun e=>?_)
  ·rw[e]at hc;refine Xi .pure (Xi _ (Yi (hc) ?_));have Fm:r.all CK=false:=by
    rw[AD];intro ha
    have:=AS.1 ha _ (Ak h)
    rw[e]at this;cases this
   exact .of_eq (Aa U5 (show(none:Option Int)=Gp s.data.toList by rw[hv,Fm];simp))
  rw[e]at hc;refine Xi .pure (Xi _ (Yi (hc) ?_));have m7:=Jr e;have kl:=K6 r i h;have Yn:IntKind.u8.wrap ((r[i].toNat:Int)-48)=(r[i].toNat:Int)-48:=SC (by omega) (by omega);refine Yi (by show Bs (10*D3 (r.take i));unfold Bs;omega) ?_;refine Xi r[i] (Yi RZ ?_);refine Yi (by show Bs (IntKind.u8.wrap ((r[i].toNat:Int)-48));rw[Yn];unfold Bs;omega) ?_;refine Yi (by show Bs (10*D3 (r.take i)+IntKind.u8.wrap ((r[i].toNat:Int)-48));rw[Yn];unfold Bs;omega) ?_;refine Yi (by show Bs (1+(i:Int)+1);unfold Bs;omega) ?_;have e5:vi (10*D3 (r.take i)+IntKind.u8.wrap ((r[i].toNat:Int)-48))=vi (D3 (r.take (i+1))):=by rw[Yn,kl]
  have e6:vi (1+(i:Int)+1)=vi (1+((i+1:Nat):Int)):=Aa vi (by omega);refine Xi ⟨i+1,by omega,fun j hj GF=>?_,by omega,fun _=>by omega,fun _=>by omega,fun _=>by omega,by omega⟩ ?_
  ·rcases Cv j i with z | z
   ·exact i0 j hj z
   ·have:j=i:=by omega
    subst this;exact e
  ·exact⟨Dl r.length i (by omega),⟨Zr,⟨e5,rfl⟩,⟨e6,rfl⟩,Tv⟩,Tv,Fh,Tv⟩
 ·intro h;have h:¬1+(i:Int)<(s.size:Nat):=h;have e3:r.all CK=true:=AS.2 fun c hc=>by
   obtain⟨j,hj,rfl⟩:=B9 hc;exact i0 j hj (by omega)
  have e6:vi (D3 (r.take i))=U5 (Gp s.data.toList):=by rw[hv,Qx,d3,eo,e3,AL (by omega)];rfl
  exact .of_eq e6
abbrev Zd(l:List UInt8):List ByteArray:=(CQ 47 l).map bs
def VY:List (List UInt8)→UInt8→List (List UInt8)
 | [],_=>[]
 | [x],b=>[x++[b]]
 |x::l,b=>x::VY l b
theorem Lb(c:UInt8)(s:List UInt8):CQ c s≠[]:=by
 cases s with
 |nil=>rw[CQ];exact SG _ _
 |cons b r =>
  rw[CQ];split
  ·exact SG _ _
  ·split<;>exact SG _ _
theorem Uz(c:UInt8):∀s:List UInt8,CQ c (s++[c])=CQ c s++[[]]
 | []=>by simp[CQ]
 |b::r=>by
  rw[D7,CQ,Uz c r,CQ]
  by_cases e:b=c
  ·rw[Au e,Au e];rfl
  ·rw[Al e,Al e];cases h:CQ c r with
   |nil=>exact absurd h (Lb c r)
   |cons x l=>rfl
theorem Ul(x:List UInt8){l:List (List UInt8)}(b:UInt8)(h:l≠[]):VY (x::l) b=x::VY l b:=by
 cases l with
 |nil=>exact absurd rfl h
 |cons y l=>rfl
theorem RR(c b:UInt8)(hb:b≠c):∀s:List UInt8,CQ c (s++[b])=VY (CQ c s) b
 | []=>by simp[CQ,hb,VY]
 |a::r=>by
  rw[D7,CQ,RR c b hb r,CQ]
  by_cases e:a=c
  ·rw[Au e,Au e,Ul _ _ (Lb c r)]
  ·rw[Al e,Al e];cases h:CQ c r with
   |nil=>exact absurd h (Lb c r)
   |cons x l =>
    cases l with
    |nil=>rfl
    |cons y l=>rfl
theorem VZ(b:UInt8):∀(l:List (List UInt8)) (x:List UInt8),l[l.length-1]?=some x→l.set (l.length-1) (x++[b])=VY l b
 | [],_,h=>by cases h
 | [y],x,h=>by
  have h:some y=some x:=h;rw[Bv h];rfl
 |y::z::l,x,h=>by
  have h:(z::l)[(z::l).length-1]?=some x:=h;rw[Ul y b (SG _ _),←VZ b (z::l) x h];rfl
theorem Uy(c:UInt8)(s:List UInt8):(CQ c s).length≤s.length+1:=by
 induction s with
 |nil=>rw[CQ];exact Am _
 |cons b r ih =>
  rw[CQ,Av];split
  ·rw[Av];omega
  ·split
   ·simp
   ·rename_i x l e;rw[e,Av]at ih;rw[Av];omega
abbrev tf:Si:=⟨[],[],[(5,1)],[],[],[],[],[],[],[(36,3)],[4]⟩
theorem ji{l:List UInt8}{c:UInt8}(hc:c≠47){x:ByteArray}(h:(Zd l)[(Zd l).length-1]?=some x):(Zd l).set ((Zd l).length-1) (x++bs [c])=Zd (l++[c]):=by
 have h2:=h;rw[AJ,Lm]at h;obtain⟨y,hy,e⟩:=AY.1 h;subst e;show _=(CQ 47 (l++[c])).map bs;rw[RR 47 c hc l,←VZ c (CQ 47 l) y hy,HF,Lm]
 congr 1
theorem vJ(s:ByteArray)(hs:E7 s):PC 135 [vs s] (sl EI (Zd s.data.toList)):=by
 unfold E7 at hs;have El:s.size=s.data.toList.length:=by simp
 refine Ps tf Tryz.func135 rfl (Nz rfl) ?_;refine Xi {p:Nat×List ByteArray // p.1≤s.data.toList.length∧p.2=Zd (s.data.toList.take p.1)} (Xi (fun p=>⟨[(0,vs s),(3,.msl 5 p.1.2.length),(4,vi p.1.1)],[(5,.arr 1 (p.1.2.map EI))],Ab⟩) (Xi (fun p=>s.data.toList.length-p.1.1) (Yi (Xi ⟨(0,[bs []]),AF _,rfl⟩ ?_) ?_)))
 ·exact⟨Z3,Z1,Fh,Tv⟩
 intro⟨⟨i,A⟩,h1,hA⟩;have h1:i≤s.data.toList.length:=h1;have hA:A=Zd (s.data.toList.take i):=hA;have sx:A.length≤i+1:=by
  have:=Uy 47 (s.data.toList.take i)
  rw[AH]at this;rw[hA,Lm];omega
 have kp:0<A.length:=by
  rw[hA,Lm];exact G2.2 (Lb 47 _)
 refine Yi (fun h=>?_) (fun h=>?_)
 ·have h:(i:Int)<(s.size:Nat):=h;have h:i<s.data.toList.length:=by omega
  have RZ:(0:Int)≤i∧s.data[((i:Nat):Int).toNat]?=some s.data.toList[i]:=⟨by omega,by rw[Bl];exact MZ s i h⟩;have qw:s.data.toList.take (i+1)=s.data.toList.take i++[s.data.toList[i]]:=by rw[BA,Ge h];rfl
  refine Xi s.data.toList[i] (Yi RZ ?_);refine Yi (fun h2=>?_) (fun h2=>?_)
  ·have h2:(s.data.toList[i].toNat:Int)=47:=h2;have h2:s.data.toList[i]=47:=Gv.1 (by show s.data.toList[i].toNat=47;omega);have F3:Da 1 [[vs (bs [])]]∧(A.map EI).length=A.length∧((A.map EI).length+[[vs (bs [])]].length)*16≤140737488355328∧(A.map EI).length+[[vs (bs [])]].length≤9223372036854775807 :=
    ⟨⟨rfl,trivial⟩,by rw[Lm],by rw[Lm,Aq];omega,by rw[Lm,Aq];omega⟩
   refine Yi F3 ?_;refine Xi ⟨[(0,vs s),(3,.msl 5 (A++[bs []]).length),(4,vi i)],[(5,.arr 1 ((A++[bs []]).map EI))],Ab⟩ (Yi ?_ ?_)
   ·have e1:AV.msl 5 ((A.map EI).length+[[vs (bs [])]].length)=.msl 5 (A++[bs []]).length:=by simp
    have e2:HO.arr 1 (A.map EI++[[vs (bs [])]])=.arr 1 ((A++[bs []]).map EI):=by rw[AG];rfl
    exact⟨⟨Zr,⟨e1,rfl⟩,Zr,Tv⟩,⟨⟨e2,rfl⟩,Tv⟩,Fh,Tv⟩
   refine Yi (Ii i (by omega)) ?_;have eA:A++[bs []]=Zd (s.data.toList.take (i+1)):=by
    rw[hA,qw,h2];show _=(CQ 47 _).map bs;rw[Uz,AG];rfl
   refine Xi ⟨(i+1,A++[bs []]),by omega,eA⟩ ?_;exact⟨Dl s.data.toList.length i (by omega),Z3,Z1,Fh,Tv⟩
  have h2:¬(s.data.toList[i].toNat:Int)=47:=h2;have h2:s.data.toList[i]≠47:=fun e=>h2 (by rw[e];rfl);have ne:Bs ((A.length:Int)-1):=by unfold Bs;omega
  have DH:A.length-1<A.length:=by omega
  have hn:((A.length:Int)-1).toNat=A.length-1:=by omega
  have hg:A[A.length-1]?=some A[A.length-1]:=Ge DH;have r5:E7 A[A.length-1]:=by
   have lB:∀x∈A,x∈Zd (s.data.toList.take i):=fun x hx=>hA▸hx;obtain⟨y,hy,e⟩:=Ao.1 (lB _ (Ak DH));have h5:=LK 47 _ y hy;rw[AH]at h5;unfold E7;rw[←e,show(bs y).size=y.length from rfl];omega
  have Ks:((A[A.length-1].size+(⟨[s.data.toList[i]].toArray⟩:ByteArray).size:Nat):Int)≤9223372036854775807:=by
   unfold E7 at r5
   have:(⟨[s.data.toList[i]].toArray⟩:ByteArray).size=1:=rfl
   omega
  refine Yi ne (Yi ne ?_);refine Yi (show(0:Int)≤(A.length:Int)-1∧(A.length:Int)-1<(A.length:Int) by omega) ?_;refine Yi (by rw[Lm]) ?_;have qo:(A.map EI)[((A.length:Int)-1).toNat]?=some (EI A[A.length-1]):=by rw[hn];exact B3 hg
  refine Xi (EI A[A.length-1]) (Yi qo ?_);refine Xi s.data.toList[i] (Yi RZ ?_);refine Xi [s.data.toList[i]] (Yi rfl ?_);refine Yi Ks ?_;refine Yi (show(0:Int)≤(A.length:Int)-1∧(A.length:Int)-1<(A.length:Int) by omega) ?_;refine Yi (by rw[Lm]) ?_;refine Xi (EI A[A.length-1]) (Yi qo (Yi (Nz rfl) ?_));refine Yi (by kernel_rfl) ?_;refine BM (show ∃B,B=A.set (A.length-1) (A[A.length-1]++bs [s.data.toList[i]])from⟨_,rfl⟩) (fun B hB=>?_);have gH:B.length=A.length:=by rw[hB,CH]
  have e2:HO.arr 1 ((A.map EI).set ((A.length:Int)-1).toNat [vs (A[A.length-1]++⟨[s.data.toList[i]].toArray⟩)])=.arr 1 (B.map EI):=by rw[hn,hB,HF];rfl
  refine Xi ⟨[(0,vs s),(3,.msl 5 B.length),(4,vi i)],[(5,.arr 1 (B.map EI))],Ab⟩ (Yi ⟨⟨Zr,⟨Aa (AV.msl 5) gH.symm,rfl⟩,Zr,Tv⟩,⟨⟨e2,rfl⟩,Tv⟩,Fh,Tv⟩ ?_)
  refine Yi (Ii i (by omega)) ?_;have eB:B=Zd (s.data.toList.take (i+1)):=by
   rw[qw,hB];subst hA;exact ji h2 hg
  refine Xi ⟨(i+1,B),by omega,eB⟩ ?_;exact⟨Dl s.data.toList.length i (by omega),Z3,Z1,Fh,Tv⟩
 ·have h:¬(i:Int)<(s.size:Nat):=h;refine Yi (by rw[Lm]) ?_;exact .of_eq (Aa (sl EI) (show A=Zd s.data.toList by rw[hA,AL (by omega)]))
theorem Y9{s:List UInt8}{n:Int}(h:Gp s=some n):0≤n:=by
 cases s with
 |nil=>unfold Gp at h;cases h
 |cons c r =>
  have h:(if c=118 then(if(r.isEmpty||decide (3<r.length)||(decide (1<r.length)&&decide (r.headD 0=48))||!r.all CK)=true then none else some (D3 r))else none)=some n:=h
  by_cases hc:c=118
  ·rw[Au hc]at h
   by_cases hb:(r.isEmpty||decide (3<r.length)||(decide (1<r.length)&&decide (r.headD 0=48))||!r.all CK)=true
   ·rw[Au hb]at h;cases h
   ·rw[Al hb]at h;have ha:r.all CK=true:=by
     cases hr:r.all CK
     ·rw[hr]at hb;simp at hb
     ·rfl
    rw[←Bv h]
    suffices hh:∀i,i≤r.length→0≤D3 (r.take i) by
     have:=hh r.length (Am _)
     rwa [Dq]at this
    intro i
    induction i with
    |zero=>intro _;exact AZ _
    |succ i ih =>
     intro hi;have hd:=Jr (AS.1 ha _ (Ak (show i<r.length by omega)))
     have:=ih (by omega)
     rw[K6 r i (by omega)];omega
  ·rw[Al hc]at h;cases h
theorem jh{l:List UInt8}{x:ByteArray}(h:(Zd l)[(Zd l).length-1]?=some x):(CQ 47 l).getLastD []=x.data.toList:=by
 rw[Lm,AJ,←List.getLast?_eq_getElem?]at h;obtain⟨y,hy,e⟩:=AY.1 h;rw[List.getLastD_eq_getLast?,hy,←e];rfl
theorem rf(p:ByteArray)(hp:E7 p):PC 111 [vs p] (QH (Bh p)):=by
 have El:p.size=p.data.toList.length:=by simp
 have hc:=vJ p hp;unfold E7 at hp;obtain⟨A,hA⟩:∃A,A=Zd p.data.toList:=⟨_,rfl⟩;rw[←hA]at hc;have wh:A.length=(CQ 47 p.data.toList).length:=by rw[hA,Lm]
 have sx:=Uy 47 p.data.toList;have kp:0<A.length:=by rw[wh];exact G2.2 (Lb 47 _)
 have sn:∀x∈A,x.data.toList.length<4611686018427387904:=fun x hx=>by
  obtain⟨y,hy,e⟩:=Ao.1 (hA▸hx:x∈Zd p.data.toList);have h5:=LK 47 _ y hy;rw[←e];show y.length<_;omega
 have Fm:(CQ 47 p.data.toList).all Hc=A.all fun x=>Hc x.data.toList:=by rw[hA,List.all_map];rfl
 have DH:A.length-1<A.length:=by omega
 have hg:A[A.length-1]?=some A[A.length-1]:=Ge DH;have Yf:(CQ 47 p.data.toList).getLastD []=A[A.length-1].data.toList:=by
  subst hA;exact jh hg
 have em:Bh p=match Gp A[A.length-1].data.toList with
  |none=>none
  |some n=>if(decide (64<p.data.toList.length)||decide (A.length<2))=true then none else if(A.all fun x=>Hc x.data.toList)=true then some n else none:=by
  unfold Bh QI;rw[Yf,Fm,←wh];cases Gp A[A.length-1].data.toList with
  |none=>rfl
  |some n=>rfl
 clear Fm Yf
 have hv:=vL A[A.length-1] (sn _ (Ak DH));obtain⟨o,ho⟩:∃o,o=Gp A[A.length-1].data.toList:=⟨_,rfl⟩;rw[←ho]at hv em;have hz:∀n,o=some n→0≤n:=fun n e=>by
  rw[e]at ho;exact Y9 ho.symm
 refine Ps (Ip [4,9,10]) Tryz.func111 rfl (Nz rfl) ?_;refine Yi (fun h=>?_) (fun h=>?_)
 ·have h:(64:Int)<((p.size:Nat):Int):=h;exact .of_eq (Aa QH (show(none:Option Int)=Bh p by rw[em,At (by omega:64<p.data.toList.length)];cases o<;>rfl))
 have h:¬(64:Int)<((p.size:Nat):Int):=h;have d1:decide (64<p.data.toList.length)=false:=Aj (by omega);refine Xi .pure (Xi _ (Yi (hc) ?_));refine Xi ⟨[(4,sl EI A)],[],Ab⟩ (Yi ⟨Z1,Tv,Fh,Tv⟩ ?_)
 refine Xi {i:Nat // i≤A.length∧∀j (hj:j<A.length),j<i→Hc (A[j]).data.toList=true} (Xi (fun i=>⟨[(4,sl EI A),(5,vi i.1)],[],Ab⟩) (Xi (fun i=>A.length-i.1) (Yi (Xi ⟨0,AF _,fun j _ h=>by omega⟩ ?_) ?_)))
 ·exact⟨Z2,Tv,Fh,Tv⟩
 intro⟨i,i1,i2⟩;refine Yi (fun h2=>?_) (fun h2=>?_)
 ·have h2:(i:Int)<((A.map EI).length:Int):=h2;have h2:i<A.length:=by simpa using h2
  have hg:A[i]?=some A[i]:=Ge h2;refine Xi (EI A[i]) (Yi (Yi (Nn i) (by simp[hg])) (Yi rfl ?_));have hn:=vK A[i] (sn _ (Ak h2));refine Bp (Bt (Hc A[i].data.toList)).symm (fun e1=>?_) (fun e1=>?_)
  ·rw[e1]at hn;refine Xi .pure (Xi _ (Yi (hn) ?_));have e2:(A.all fun x=>Hc x.data.toList)=false:=by
    rw[AD];intro hh
    have:=AS.1 hh _ (Ak h2)
    rw[e1]at this;cases this
   exact .of_eq (Aa QH (show(none:Option Int)=Bh p by
    rw[em,e2];cases o with
    |none=>rfl
    |some n=>cases (decide (64<p.data.toList.length)||decide (A.length<2))<;>rfl))
  rw[e1]at hn;refine Xi .pure (Xi _ (Yi (hn) ?_));refine Yi (Ii i (by omega)) ?_;refine Xi ⟨i+1,by omega,fun j hj GF=>?_⟩ ?_
  ·rcases Cv j i with z | z
   ·exact i2 j hj z
   ·have:j=i:=by omega
    subst this;exact e1
  ·exact⟨Dl A.length i (by omega),Z2,Tv,Fh,Tv⟩
 have h2:¬(i:Int)<((A.map EI).length:Int):=h2;have h2:¬i<A.length:=by simpa using h2
 have e2:(A.all fun x=>Hc x.data.toList)=true:=AS.2 fun x hx=>by
  obtain⟨j,hj,rfl⟩:=B9 hx;exact i2 j hj (by omega)
 have em:Bh p=match(generalizing:=false) o with
  |none=>none
  |some n=>if decide (A.length<2)=true then none else some n:=by
  rw[em,e2,d1];cases o<;>rfl
 refine Xi ⟨[(4,sl EI A)],[],Ab⟩ (Yi ⟨Z1,Tv,Fh,Tv⟩ ?_)
 have Zc:(((A.map EI).length:Int)-1).toNat=A.length-1:=by rw[Lm];omega
 refine Yi (by show Bs (((A.map EI).length:Int)-1);rw[Lm];unfold Bs;omega) ?_;refine Xi (EI A[A.length-1]) (Yi (Yi (by show(0:Int)≤((A.map EI).length:Int)-1;rw[Lm];omega) (by rw[Zc];exact B3 hg)) (Yi rfl ?_));refine Xi .pure (Xi _ (Yi (hv) ?_));refine BM (show ∃z:Int,U5 o=vi z∧(z<0↔o=none)∧∀n,o=some n→z=n by
  cases o with
  |none=>exact⟨-1,rfl,⟨fun _=>rfl,fun _=>by decide⟩,fun n h=>by cases h⟩
  |some n=>exact⟨n,rfl,⟨fun h=>absurd (hz n rfl) (by omega),fun h=>by cases h⟩,fun m h=>by cases h;rfl⟩) (fun z ut=>?_)
 refine Xi ⟨[(4,sl EI A),(6,vi z)],[],Ab⟩ (Yi ⟨⟨Zr,⟨ut.1,rfl⟩,Tv⟩,Tv,Fh,Tv⟩ ?_)
 refine Yi (fun h3=>?_) (fun h3=>?_)
 ·have h3:((A.map EI).length:Int)<2:=h3;rw[Lm]at h3;exact .of_eq (Aa QH (show(none:Option Int)=Bh p by rw[em,At (by omega:A.length<2)];cases o<;>rfl))
 have h3:¬((A.map EI).length:Int)<2:=h3;rw[Lm]at h3;refine Yi (fun h4=>?_) (fun h4=>?_)
 ·have h4:z<0:=h4;exact .of_eq (Aa QH (show(none:Option Int)=Bh p by rw[em,ut.2.1.1 h4]))
 have h4:¬z<0:=h4;refine BM (show ∃n,o=some n by
  cases o with
  |none=>exact absurd (ut.2.1.2 rfl) h4
  |some n=>exact⟨n,rfl⟩) (fun n hn=>?_)
 exact .of_eq (show AV.tup [vi z,vi 0]=QH (Bh p) by rw[em,hn,ut.2.2 n hn,Aj (by omega:¬A.length<2)];rfl)
theorem vE(p:ByteArray)(hp:E7 p):PC 110 [vs p] (vb (Bh p).isSome):=by
 have hc:=rf p hp;cases h:Bh p with
 |none =>
  rw[h]at hc;refine Ps EY Tryz.func110 rfl (Nz rfl) ?_;refine Xi .pure (Xi _ (Yi (hc) ?_));refine Yi ?_ ?_
  ·intro h;exact absurd (show(4:Int)=0 from h) (by decide)
  ·intro _;exact .refl _
 |some n =>
  rw[h]at hc;refine Ps EY Tryz.func110 rfl (Nz rfl) ?_;refine Xi .pure (Xi _ (Yi (hc) ?_));refine Yi ?_ ?_
  ·intro _;exact .refl _
  ·intro h;exact absurd rfl h
theorem y9(s:List Sl)(hs:Ci s):PC 57 [sl Ae s] (vb (Et s)):=by
 unfold Ci at hs;refine Ps EY Tryz.func57 rfl (Nz rfl) ?_;refine Xi {i:Nat // 1≤i∧(s=[]∨i≤s.length)∧Et s=(match s[i-1]? with | none=>true | some y=>In (some y.path) (s.drop i))} (Xi (fun i=>⟨[(0,sl Ae s),(3,vi i.1)],[],Ab⟩) (Xi (fun i=>s.length-i.1) (Yi (Xi ⟨1,Am _,by cases s with | nil=>exact .inl rfl | cons _ _=>exact .inr (by simp),by cases s<;>rfl⟩ ?_) ?_)))
 ·exact⟨Z2,Tv,Fh,Tv⟩
 intro⟨i,h1,h2,h3⟩;refine Yi ?_ ?_
 ·intro h;have h:(i:Int)<(s.map Ae).length:=h;have h:i<s.length:=by simpa using h
  have hg:s[i]?=some s[i]:=Ge h;have h' : i-1<s.length:=by omega
  have gS : s[i-1]?=some s[i-1]:=Ge h';have e1:((i:Int)-1).toNat=i-1:=by omega
  have nu:Et s=(EJ s[i-1].path s[i].path&&In (some s[i].path) (s.drop (i+1))):=by
   rw[h3,gS]
   have:=iu s (i-1) (by omega)
   simp only[show i-1+1=i by omega,show i-1+2=i+1 by omega]at this;exact this
  refine Xi (Ae s[i]) (Yi (Yi (Nn i) (by simp[hg])) (Yi rfl ?_));refine Yi (by show Bs ((i:Int)-1);unfold Bs;omega) ?_;refine Xi (Ae s[i-1]) (Yi (Yi (by show(0:Int)≤(i:Int)-1;omega) (by show(s.map Ae)[((i:Int)-1).toNat]?=_;rw[e1];simp[gS])) (Yi rfl ?_));refine Yi ?_ ?_
  ·intro h4;have h4:Op.bytesLess s[i-1].path.toList s[i].path.toList=false:=h4;rw[←EX]at h4;refine Yi (by kernel_rfl) ?_;exact .of_eq (Aa vb (show false=Et s by rw[nu,h4];rfl))
  ·intro h4;have h4:¬Op.bytesLess s[i-1].path.toList s[i].path.toList=false:=h4;rw[←EX,Bool.not_eq_false]at h4;refine Yi (by kernel_rfl) ?_;refine Yi (Ii i (by omega)) ?_;refine Xi ⟨i+1,by omega,.inr (by omega),by rw[nu,h4,show i+1-1=i by omega,hg];rfl⟩ ?_;exact⟨Dl s.length i (by omega),Z2,Tv,Fh,Tv⟩
 ·intro h;have h:¬(i:Int)<(s.map Ae).length:=h;have h:¬i<s.length:=by simpa using h
  have wQ:Et s=true:=by
   rcases h2 with h2 | h2
   ·rw[h2];rfl
   ·have e:i=s.length:=by omega
    rw[h3,e,List.drop_length];cases s[s.length-1]?<;>rfl
  exact .of_eq (Aa vb wQ.symm)
abbrev QG(p:ByteArray):Int:=match Bh p with | none=>-1 | some m=>m
abbrev qJ:Prop:=∀p:ByteArray,E7 p→PC 105 [vs p] (vi (QG p))
abbrev qK:Prop:=∀s:Bc,Ci s→PC 133 [sl Af s] (sl Af (canon s))
theorem md{r:List UInt8}(h:r.all CK=true):0≤D3 r:=by
 have:∀(l:List UInt8) (n:Int),0≤n→(∀c∈l,CK c=true)→0≤l.foldl (fun n c=>10*n+((c.toNat:Int)-48)) n:=by
  intro l
  induction l with
  |nil=>intro n hn _;exact hn
  |cons c l ih =>
   intro n hn hc
   have:=Jr (hc c (Ac ..))
   exact ih _ (show 0≤10*n+((c.toNat:Int)-48) by omega) fun d hd=>hc d (Ah _ hd)
 exact this r 0 (AZ _) (fun c hc=>AS.1 h c hc)
theorem mN{s:List UInt8}{n:Int}(h:Gp s=some n):0≤n:=by
 unfold Gp at h;split at h
 ·split at h
  ·split at h
   ·cases h
   ·rename_i r _ hc;cases h;refine md ?_;cases hd:r.all CK with
    |true=>rfl
    |false=>rw[hd]at hc;simp at hc
  ·cases h
 ·cases h
theorem iH{p:ByteArray}{m:Int}(h:Bh p=some m):0≤m:=by
 unfold Bh QI at h;split at h
 ·cases h
 ·rename_i n e;split at h
  ·cases h
  ·split at h
   ·cases h;exact mN e
   ·cases h
theorem Pz(p:ByteArray):QG p<0↔(Bh p).isNone=true:=by
 unfold QG;cases h:Bh p with
 |none=>simp
 |some m=>have:=iH h;simp;omega
theorem c68(lh:qJ)(oM:qK)(l:List Rq)(hs:∀q∈l,N0 q):PC 106 [sl AM l] (vi (Bx l)):=by
 refine Ps (Ip [8,10]) Tryz.func106 rfl (Nz rfl) ?_;refine Yi ?_ ?_
 ·intro h;have h:(16:Int)<(l.map AM).length:=h;exact .of_eq (Aa vi (show(7:Int)=Bx l by unfold Bx;rw[Au (by rw[Lm]at h;omega)]))
 intro h;have h:¬(16:Int)<(l.map AM).length:=h;have hl:l.length≤16:=by rw[Lm]at h;omega
 have OH:Bx l=Ed none l:=by unfold Bx;rw[Al (by omega)]
 refine Xi {i:Nat // i≤l.length∧Ed none l=Ed (G7 l i) (l.drop i)} (Xi (fun i=>⟨[(0,sl AM l),(3,vi i.1)],[],Ab⟩) (Xi (fun i=>l.length-i.1) (Yi (Xi ⟨0,AF _,rfl⟩ ?_) ?_)))
 ·exact⟨Z2,Tv,Fh,Tv⟩
 intro⟨i,h1,h2⟩;refine Yi ?_ ?_
 ·intro h;have h:(i:Int)<(l.map AM).length:=h;have h:i<l.length:=by simpa using h
  have hg:l[i]?=some l[i]:=Ge h;have hd:l.drop i=l[i]::l.drop (i+1):=Bd h;have hq:=hs l[i] (Ak h);have HH:Ed none l=if Gb (G7 l i) l[i]=0 then Ed (some l[i].path) (l.drop (i+1))else Gb (G7 l i) l[i]:=by rw[h2,hd];rfl
  have fail:∀e:Int,Gb (G7 l i) l[i]=e→e≠0→e=Bx l:=fun e he hz=>by rw[OH,HH,he,Al hz]
  have kl:G7 l (i+1)=some l[i].path:=Mf h;refine Xi (AM l[i]) (Yi (Yi (Nn i) (by simp[hg])) (Yi rfl ?_));refine Xi .pure (Xi _ (Yi (lh l[i].path hq.2) ?_));refine Yi ?_ ?_
  ·intro h3;have h3:QG l[i].path<0:=h3;exact .of_eq (Aa vi (fail 4 (by unfold Gb;rw[Au ((Pz _).1 h3)]) (by decide)))
  intro h3;have h3:¬QG l[i].path<0:=h3;have hmj:(Bh l[i].path).isNone=false:=by
   rw[AD];exact fun e=>h3 ((Pz _).2 e)
  have er:Gb (G7 l i) l[i]=if(l[i].set.isEmpty||!decide (l[i].set=canon l[i].set)||(match G7 l i with | some b=>!EJ b l[i].path | none=>false))=true then 1 else 0:=by unfold Gb;rw[hmj];rfl
  refine Xi ⟨[(0,sl AM l),(3,vi i)],[],Ab⟩ (Yi ⟨Z2,Tv,Fh,Tv⟩ ?_)
  refine Xi (AM l[i]) (Yi (Yi (Nn i) (by simp[hg])) (Yi rfl ?_));refine Yi ?_ ?_
  ·intro h4;have h4:((l[i].set.map Af).length:Int)=0:=h4;have h5:l[i].set.isEmpty=true:=by
    rw[Lm]at h4;rw[F7];exact AA (by omega)
   refine Yi (by kernel_rfl) ?_;exact .of_eq (Aa vi (fail 1 (by rw[er,h5];rfl) (by decide)))
  intro h4;have h4:¬((l[i].set.map Af).length:Int)=0:=h4;have h5:l[i].set.isEmpty=false:=by
   cases hqs:l[i].set with
   |nil=>rw[hqs]at h4;exact absurd rfl h4
   |cons a b=>rfl
  have he:=wa l[i].set (canon l[i].set) hq.1;refine Xi (AM l[i]) (Yi (Yi (Nn i) (by simp[hg])) (Yi rfl ?_));refine Xi (AM l[i]) (Yi (Yi (Nn i) (by simp[hg])) (Yi rfl ?_));refine Xi _ (Yi (oM l[i].set hq.1) ?_);refine Bp (Bt (decide (l[i].set=canon l[i].set))) (fun e=>?_) (fun e=>?_)
  rotate_left
  ·rw[e]at he;refine Xi _ (Yi (he) ?_);refine Yi (by kernel_rfl) ?_;exact .of_eq (Aa vi (fail 1 (by rw[er,h5,e];rfl) (by decide)))
  rw[e]at he;refine Xi _ (Yi (he) ?_);refine Yi (by kernel_rfl) ?_;refine Xi ⟨[(0,sl AM l),(3,vi i)],[],Ab⟩ (Yi ⟨Z2,Tv,Fh,Tv⟩ ?_)
  refine Yi ?_ ?_
  ·intro h6;have h6:(0:Int)<i:=h6;have h7:i-1<l.length:=by omega
   have hb:G7 l i=some l[i-1].path:=by
    obtain⟨k,rfl⟩:∃k,i=k+1:=⟨i-1,by omega⟩;exact Mf h7
   refine Xi (AM l[i]) (Yi (Yi (Nn i) (by simp[hg])) (Yi rfl ?_));refine Yi (by show Bs ((i:Int)-1);unfold Bs;omega) ?_;refine Xi (AM l[i-1]) (Yi (Yi (by show(0:Int)≤(i:Int)-1;omega) (by rw[show((i:Int)-1).toNat=i-1 by omega];exact B3 (Ge h7))) (Yi rfl ?_));refine Yi ?_ ?_
   ·intro h8;have h8:Op.bytesLess l[i-1].path.toList l[i].path.toList=false:=h8;refine Yi (by kernel_rfl) ?_;exact .of_eq (Aa vi (fail 1 (by rw[er,h5,e,hb];show(if(!EJ l[i-1].path l[i].path)=true then(1:Int)else 0)=1;rw[EX,h8];rfl) (by decide)))
   ·intro h8;have h8:¬Op.bytesLess l[i-1].path.toList l[i].path.toList=false:=h8;have h8:Op.bytesLess l[i-1].path.toList l[i].path.toList=true:=by simpa using h8
    refine Yi (by kernel_rfl) ?_;refine Yi (Ii i (by omega)) ?_;refine Xi ⟨i+1,by omega,by rw[HH,kl,Au (by rw[er,h5,e,hb];show(if(!EJ l[i-1].path l[i].path)=true then(1:Int)else 0)=0;rw[EX,h8];rfl)]⟩ ?_;exact⟨Dl l.length i (by omega),Z2,Tv,Fh,Tv⟩
  ·intro h6;have h6:¬(0:Int)<i:=h6;have h7:i=0:=by omega
   refine Yi (by kernel_rfl) ?_;refine Yi (Ii i (by omega)) ?_;refine Xi ⟨i+1,by omega,by rw[HH,kl,Au (by rw[er,h5,e];subst h7;rfl)]⟩ ?_;exact⟨Dl l.length i (by omega),Z2,Tv,Fh,Tv⟩
 ·intro h;have h:¬(i:Int)<(l.map AM).length:=h;have h:¬i<l.length:=by simpa using h
  have e:(0:Int)=Bx l:=by rw[OH,h2,HD (by omega)];rfl
  exact .of_eq (Aa vi e)
theorem ab(p:ByteArray)(k:Nat)(hk:k<p.data.toList.length)(h1:p.data.toList[k]=47)(h2:∀j (hj:j<p.data.toList.length),k<j→p.data.toList[j]≠47):Go.Lib.lastIndex p.data.toList [47]=k:=by
 have qt:∀i (hi:i<p.data.toList.length),Go.Lib.occAt p.data.toList [47] i=true↔p.data.toList[i]=47:=fun i hi=>by
  unfold Go.Lib.occAt;rw[Bd hi];simp;exact eq_comm
 unfold Go.Lib.lastIndex;rw[Au (by simp only[Aq];omega)];rcases Go.Lib.lastOcc_spec p.data.toList [47] (p.data.toList.length - [(47:UInt8)].length+1)with ⟨_,h3⟩ | ⟨j,h3,h4,h5,h6⟩
 ·have:=h3 k (by simp only[Aq];omega)
  rw[(qt k hk).2 h1]at this;cases this
 ·rw[h4];simp only[Aq]at h3;have e:j=k:=by
   rcases Nat.lt_trichotomy j k with z | z | z
   ·have:=h6 k z (by simp only[Aq];omega)
    rw[(qt k hk).2 h1]at this;cases this
   ·exact z
   ·exact absurd ((qt j (by omega)).1 h5) (h2 j (by omega) z)
  rw[e]
theorem eD{p:ByteArray}{m:Int}(h:Bh p=some m):(47:UInt8)∈p.data.toList:=by
 refine OD 47 _ ?_;unfold Bh QI at h;split at h
 ·cases h
 ·split at h
  ·cases h
  ·rename_i hn;simp only[CG,Ay]at hn;omega
theorem rb(p:ByteArray)(hp:E7 p):PC 85 [vs p] (MC QF p):=by
 have hc:=rf p hp;have hi:=vE p hp;have El:p.size=p.data.toList.length:=by simp
 unfold MC;cases h:Bh p with
 |none =>
  rw[h]at hi;refine Ps EY Tryz.func85 rfl (Nz rfl) ?_;refine Xi .pure (Xi _ (Yi (hi) ?_));exact .refl _
 |some n =>
  have fm:=eD h;rw[h]at hc hi;unfold E7 at hp;refine BM (show ∃q,∃hq:q<p.data.toList.length,p.data.toList[q]=47 from B9 fm) (fun q hq=>?_);refine BM hq (fun hq eq=>?_);refine Ps EY Tryz.func85 rfl (Nz rfl) ?_;refine Xi .pure (Xi _ (Yi (hi) ?_));refine Xi .pure (Xi _ (Yi (hc) ?_));refine Yi (fun h=>absurd rfl h) (fun _=>?_);refine Yi (show Bs (((p.size:Nat):Int)-1) by unfold Bs;omega) ?_;refine Xi {k:Nat // k<p.data.toList.length∧∀j (hj:j<p.data.toList.length),k<j→p.data.toList[j]≠47} (Xi (fun k=>⟨[(0,vs p),(5,vi n),(7,vi k.1)],[],Ab⟩) (Xi (fun k=>k.1) (Yi (Xi ⟨p.data.toList.length-1,by omega,fun j hj GF=>by omega⟩ ?_) ?_)))
  ·have e1:vi (((p.size:Nat):Int)-1)=vi ((p.data.toList.length-1:Nat):Int):=Aa vi (by omega);exact⟨⟨Zr,Zr,⟨e1,rfl⟩,Tv⟩,Tv,Fh,Tv⟩
  intro⟨k,k1,k2⟩;have RZ:(0:Int)≤k∧p.data[((k:Nat):Int).toNat]?=some p.data.toList[k]:=⟨by omega,by rw[Bl];exact MZ p k k1⟩;refine Xi p.data.toList[k] (Yi RZ ?_);refine Yi (fun h2=>?_) (fun h2=>?_)
  ·have h2:¬(p.data.toList[k].toNat:Int)=47:=h2;have h2:p.data.toList[k]≠47:=fun e=>h2 (by rw[e];rfl);have hqk:q≤k:=by
    rcases Cv k q with z | z
    ·exact absurd eq (k2 q hq z)
    ·exact z
   have Xm:q≠k:=fun e=>by subst e;exact h2 eq
   refine Yi (show Bs ((k:Int)-1) by unfold Bs;omega) ?_;have e1:vi ((k:Int)-1)=vi ((k-1:Nat):Int):=Aa vi (by omega);refine Xi ⟨k-1,by omega,fun j hj GF=>?_⟩ ?_
   ·rcases Cv k j with z | z
    ·exact k2 j hj z
    ·have:j=k:=by omega
     subst this;exact h2
   ·exact⟨by show k-1<k;omega,⟨Zr,Zr,⟨e1,rfl⟩,Tv⟩,Tv,Fh,Tv⟩
  ·have h2:¬¬(p.data.toList[k].toNat:Int)=47:=h2;have h2:p.data.toList[k]=47:=Gv.1 (by have:=B1.1 h2;show p.data.toList[k].toNat=47;omega);have el:=ab p k k1 h2 k2;refine Yi ⟨AZ _,by show(0:Int)≤k;omega,by show(k:Int)≤p.size;omega⟩ ?_;have e3:p.extract 0 ((k:Nat):Int).toNat=QF p:=by unfold QF;rw[el]
   exact .of_eq (show AV.tup [vs (p.extract 0 ((k:Nat):Int).toNat),vi n,vi 0]=_ by rw[e3])
theorem u9(p:ByteArray)(hp:E7 p):PC 105 [vs p] (vi (QG p)):=by
 have hc:=rb p hp;unfold MC at hc;unfold QG;cases h:Bh p with
 |none =>
  rw[h]at hc;refine Ps EY Tryz.func105 rfl (Nz rfl) ?_;refine Xi .pure (Xi _ (Yi (hc) ?_));refine Yi (fun _=>?_) (fun h=>absurd (show(4:Int)≠0 by decide) h);exact .refl _
 |some m =>
  rw[h]at hc;refine Ps EY Tryz.func105 rfl (Nz rfl) ?_;refine Xi .pure (Xi _ (Yi (hc) ?_));refine Yi (fun h=>absurd rfl h) (fun _=>?_);exact .refl _
theorem lh:qJ:=u9
abbrev te:Si:=⟨[],[(3,0)],[(63,2)],[],[],[],[],[],[],[(112,7)],[4,6,10,11,14,16,17,18]⟩
theorem La(s:Bc):∀cs∈s.map Af,cs.length=2:=fun cs h=>by
 obtain⟨x,_,rfl⟩:=Ao.1 h;rfl
theorem KN{n:Nat}:∀{l:List (List AV)},(∀c∈l,c.length=n)→Da n l
 | [],_=>trivial
 |c::_,h=>⟨h c (Ac ..),KN fun d hd=>h d (Ah _ hd)⟩
abbrev MO(s:Bc)(k:Nat):List (List AV):=((s.map Af).take (((s.map Af).length:Nat):Int).toNat).drop ((k:Nat):Int).toNat
theorem Uq(s:Bc)(k:Nat):MO s k=(s.drop k).map Af:=by
 unfold MO;rw[Bl,Bl,AL (Am _),List.map_drop]
theorem mU(s:Bc)(x:Int×Int)(k:Nat)(h:s.length≤1073741824):Da 2 (MO s k)∧[Af x].length=1∧([Af x].length+(MO s k).length)*16≤140737488355328∧[Af x].length+(MO s k).length≤9223372036854775807:=by
 rw[Uq];refine⟨KN (La _),rfl,?_,?_⟩<;>rw[Lm,Ar,Aq]<;>omega
abbrev RA(s:Bc)(k:Nat):List (List AV):=((s.map Af).take ((k:Nat):Int).toNat).drop ((0:Int)).toNat
theorem Yd(s:Bc)(k:Nat):RA s k=(s.take k).map Af:=by
 unfold RA;rw[Bl,show(0:Int).toNat=0 from rfl,OM,L8]
theorem mV(s:Bc)(x:Int×Int)(k:Nat)(hk:k≤s.length)(h:s.length≤1073741824):Da 2 ([Af x]++MO s k)∧(RA s k).length=((k:Nat):Int).toNat-((0:Int)).toNat∧((RA s k).length+([Af x]++MO s k).length)*16≤140737488355328∧(RA s k).length+([Af x]++MO s k).length≤9223372036854775807:=by
 rw[Uq,Yd];refine⟨⟨rfl,KN (La _)⟩,?_,?_,?_⟩
 ·rw[Lm,AH,Bl];show min k s.length=k-0;omega
 ·rw[Ad,Lm,Lm,AH,Ar,Aq];omega
 ·rw[Ad,Lm,Lm,AH,Ar,Aq];omega
theorem sN(s:Bc)(x:Int×Int)(k:Nat):RA s k++([Af x]++MO s k)=(s.take k++([x]++s.drop k)).map Af:=by
 rw[Uq,Yd,AG,AG];rfl
theorem dp{s A:Bc}{j:Nat}(h:j<s.length)(hA:A=(By (s.take j)).reverse){y:Int×Int}(hy:A[A.length-1]?=some y)(Ho:s[j].1≤y.2):A.set (A.length-1) (y.1,max y.2 s[j].2)=(By (s.take (j+1))).reverse:=by
 rw[Fy s j h];cases hr:By (s.take j)with
 |nil=>rw[hA,hr]at hy;cases hy
 |cons z t =>
  have eA:A=t.reverse++[z]:=by rw[hA,hr,ES]
  have eL:A.length-1=t.reverse.length:=by rw[eA,Ad,Aq];omega
  rw[eL,eA,A1 (Am _),ET]at hy;have ez:z=y:=Bv hy;have e2:JU (z::t) s[j]=(z.1,max z.2 s[j].2)::t:=by show(if s[j].1≤z.2 then _ else _)=_;rw[Au (ez▸Ho)]
  rw[e2,eL,eA,List.set_append_right _ _ (Am _),ET,ES,ez];rfl
theorem Yv{s A:Bc}{j:Nat}(h:j<s.length)(hA:A=(By (s.take j)).reverse)(hn:∀y,A[A.length-1]?=some y→¬s[j].1≤y.2):A++[s[j]]=(By (s.take (j+1))).reverse:=by
 rw[Fy s j h];cases hr:By (s.take j)with
 |nil=>rw[hA,hr];rfl
 |cons z t =>
  have eA:A=t.reverse++[z]:=by rw[hA,hr,ES]
  have eL:A.length-1=t.reverse.length:=by rw[eA,Ad,Aq];omega
  have:=hn z (by rw[eL,eA,A1 (Am _),ET];rfl)
  have e2:JU (z::t) s[j]=s[j]::z::t:=by show(if s[j].1≤z.2 then _ else _)=_;rw[Al this]
  rw[e2,eA,ES,ES]
theorem sQ(A:Bc)(k:Nat)(y x:Int×Int):(A.map Af).set k [vi y.1,vi (max y.2 x.2)]=(A.set k (y.1,max y.2 x.2)).map Af:=by rw[HF]
set_option maxHeartbeats 4000000 in
theorem vd(l:Bc)(hl:Ci l):PC 133 [sl Af l] (sl Af (canon l)):=by
 have hl:l.length≤1073741824:=hl;refine Ps te Tryz.func133 rfl (Nz rfl) ?_;refine Xi {p:Nat×Bc // p.1≤l.length∧p.2.Perm (CM (l.take p.1))∧p.2.Pairwise fun a b=>a.1≤b.1} (Xi (fun p=>⟨[(0,sl Af l),(3,sl Af p.1.2),(4,vi p.1.1)],[],Ab⟩) (Xi (fun p=>l.length-p.1.1) (Yi (Xi ⟨(0,[]),AF _,.refl _,.nil⟩ ?_) ?_)))
 ·exact⟨Z3,Tv,Fh,Tv⟩
 intro⟨⟨i,s⟩,i1,i2,i3⟩;have i1:i≤l.length:=i1;have i2:s.Perm (CM (l.take i)):=i2;have i3:s.Pairwise fun a b=>a.1≤b.1:=i3;have WV:s.length≤i:=by rw[i2.length_eq];exact Ta l i
 refine Yi (fun h=>?_) (fun h=>?_)
 ·skip
  have h:(i:Int)<(l.map Af).length:=h;have h:i<l.length:=by simpa using h
  have hg:l[i]?=some l[i]:=Ge h;refine Xi (Af l[i]) (Yi (Yi (Nn i) (by simp[hg])) (Yi rfl ?_));refine Xi (Af l[i]) (Yi (Yi (Nn i) (by simp[hg])) (Yi rfl ?_));refine Yi (Nz rfl) ?_;refine Yi (by kernel_rfl) ?_;refine Xi ⟨[(0,sl Af l),(3,sl Af s),(4,vi i),(5,.ref 5 0)],[(5,.cells (Af (Ef l[i])))],Ab⟩ (Yi ?_ ?_)
  ·have e0:HO.cells [vi (max 0 l[i].1),vi (min 1000000 l[i].2)]=.cells (Af (Ef l[i])):=by
    rw[Int.max_comm,Int.min_comm];rfl
   exact⟨Z4,⟨⟨e0,rfl⟩,Tv⟩,Fh,Tv⟩
  refine Yi (fun h3=>?_) (fun h3=>?_)
  ·have h3:(Ef l[i]).2≤(Ef l[i]).1:=h3;refine Xi ⟨[(0,sl Af l),(3,sl Af s),(4,vi i)],[],Ab⟩ (Yi ⟨Z3,Tv,Fh,Tv⟩ ?_)
   refine Yi (Ii i (by omega)) ?_;have e:=S8 h (show ¬(Ef l[i]).1<(Ef l[i]).2 by omega);refine Xi ⟨(i+1,s),by omega,by show s.Perm (CM (l.take (i+1)));rw[e];exact i2,i3⟩ ?_;exact⟨Dl l.length i (by omega),Z3,Tv,Fh,Tv⟩
  have h3:¬(Ef l[i]).2≤(Ef l[i]).1:=h3;have e:=Qo h (show(Ef l[i]).1<(Ef l[i]).2 by omega);refine Xi {k:Nat // k≤s.length∧∀j (hj:j<s.length),k≤j→(Ef l[i]).1<s[j].1} (Xi (fun k=>⟨[(0,sl Af l),(3,sl Af s),(4,vi i),(5,.ref 5 0),(6,vi k.1)],[(5,.cells (Af (Ef l[i])))],Ab⟩) (Xi (fun k=>k.1) (Yi (Xi ⟨s.length,Am _,fun j hj GF=>by omega⟩ ?_) ?_)))
  ·have e1:vi ((s.map Af).length:Int)=vi (s.length:Int):=by rw[Lm]
   exact⟨⟨Zr,Zr,Zr,Zr,⟨e1,rfl⟩,Tv⟩,Z1,Fh,Tv⟩
  intro⟨k,k1,k2⟩;refine Yi (fun h4=>?_) (fun h4=>?_)
  ·have h4:(0:Int)<k:=h4;refine Yi (show Bs ((k:Int)-1) by unfold Bs;omega) ?_;have hk:k-1<s.length:=by omega
   have hg:s[k-1]?=some s[k-1]:=Ge hk;have hn:((k:Int)-1).toNat=k-1:=by omega
   refine Xi (Af s[k-1]) (Yi (Yi (by show(0:Int)≤(k:Int)-1;omega) (by rw[hn];exact B3 hg)) (Yi rfl ?_));refine Yi (fun h5=>?_) (fun h5=>?_)
   ·have h5:(Ef l[i]).1<s[k-1].1:=h5;refine Yi (by kernel_rfl) ?_;refine Yi (show Bs ((k:Int)-1) by unfold Bs;omega) ?_;have e1:vi ((k:Int)-1)=vi ((k-1:Nat):Int):=Aa vi (by omega);refine Xi ⟨k-1,by omega,fun j hj GF=>?_⟩ ?_
    ·rcases Cv j k with z | z
     ·have:j=k-1:=by omega
      subst this;exact h5
     ·exact k2 j hj z
    ·exact⟨by show k-1<k;omega,⟨Zr,Zr,Zr,Zr,⟨e1,rfl⟩,Tv⟩,Z1,Fh,Tv⟩
   have h5:¬(Ef l[i]).1<s[k-1].1:=h5;have Ij:k=0∨∃h:k-1<s.length,s[k-1].1≤(Ef l[i]).1:=.inr ⟨hk,by omega⟩;refine Yi (by kernel_rfl) ?_;refine Xi ⟨[(0,sl Af l),(3,sl Af s),(4,vi i),(5,.ref 5 0),(6,vi k)],[(5,.cells (Af (Ef l[i])))],Ab⟩ (Yi ⟨Z5,Z1,Fh,Tv⟩ ?_)
   refine Yi (show(0:Int)≤0∧(0:Int)≤k∧(k:Int)=k∧(k:Int)≤((s.map Af).length:Nat) by rw[Lm];omega) (Yi (La s) ?_);refine Yi (Nz rfl) ?_;refine Yi (show(0:Int)≤k∧(k:Int)≤((s.map Af).length:Nat)∧(((s.map Af).length:Nat):Int)≤((s.map Af).length:Nat) by rw[Lm];omega) (Yi (La s) ?_);refine Yi (mU s (Ef l[i]) k (by omega)) ?_;refine Yi (mV s (Ef l[i]) k k1 (by omega)) ?_;refine Yi (by kernel_rfl) ?_;refine BM (show ∃t,t=s.take k++([Ef l[i]]++s.drop k)from⟨_,rfl⟩) (fun t ht=>?_);refine Xi ⟨[(0,sl Af l),(3,sl Af t),(4,vi i)],[],Ab⟩ (Yi ?_ ?_)
   ·have e3:AV.slice .none (RA s k++([Af (Ef l[i])]++MO s k))=sl Af t:=by rw[ht];exact Aa (AV.slice .none) (sN s (Ef l[i]) k)
    exact⟨⟨Zr,⟨e3,rfl⟩,Zr,Tv⟩,Tv,Fh,Tv⟩
   refine Yi (Ii i (by omega)) ?_;refine Xi ⟨(i+1,t),by omega,by show t.Perm (CM (l.take (i+1)));rw[e,ht];exact Yu s _ k i2,by show t.Pairwise _;rw[ht];exact TV s _ k i3 k2 Ij⟩ ?_;exact⟨Dl l.length i (by omega),Z3,Tv,Fh,Tv⟩
  ·have h4:¬(0:Int)<k:=h4;have Ij:k=0∨∃h:k-1<s.length,s[k-1].1≤(Ef l[i]).1:=.inl (by omega);refine Yi (by kernel_rfl) ?_;refine Xi ⟨[(0,sl Af l),(3,sl Af s),(4,vi i),(5,.ref 5 0),(6,vi k)],[(5,.cells (Af (Ef l[i])))],Ab⟩ (Yi ⟨Z5,Z1,Fh,Tv⟩ ?_)
   refine Yi (show(0:Int)≤0∧(0:Int)≤k∧(k:Int)=k∧(k:Int)≤((s.map Af).length:Nat) by rw[Lm];omega) (Yi (La s) ?_);refine Yi (Nz rfl) ?_;refine Yi (show(0:Int)≤k∧(k:Int)≤((s.map Af).length:Nat)∧(((s.map Af).length:Nat):Int)≤((s.map Af).length:Nat) by rw[Lm];omega) (Yi (La s) ?_);refine Yi (mU s (Ef l[i]) k (by omega)) ?_;refine Yi (mV s (Ef l[i]) k k1 (by omega)) ?_;refine Yi (by kernel_rfl) ?_;refine BM (show ∃t,t=s.take k++([Ef l[i]]++s.drop k)from⟨_,rfl⟩) (fun t ht=>?_);refine Xi ⟨[(0,sl Af l),(3,sl Af t),(4,vi i)],[],Ab⟩ (Yi ?_ ?_)
   ·have e3:AV.slice .none (RA s k++([Af (Ef l[i])]++MO s k))=sl Af t:=by rw[ht];exact Aa (AV.slice .none) (sN s (Ef l[i]) k)
    exact⟨⟨Zr,⟨e3,rfl⟩,Zr,Tv⟩,Tv,Fh,Tv⟩
   refine Yi (Ii i (by omega)) ?_;refine Xi ⟨(i+1,t),by omega,by show t.Perm (CM (l.take (i+1)));rw[e,ht];exact Yu s _ k i2,by show t.Pairwise _;rw[ht];exact TV s _ k i3 k2 Ij⟩ ?_;exact⟨Dl l.length i (by omega),Z3,Tv,Fh,Tv⟩
 ·skip
  have h:¬(i:Int)<(l.map Af).length:=h;have h:¬i<l.length:=by simpa using h
  have fin:(By s).reverse=canon l:=LQ (by rw[AL (by omega)]at i2;exact i2) i3;refine Xi ⟨[(3,sl Af s)],[],Ab⟩ (Yi ⟨Z1,Tv,Fh,Tv⟩ ?_)
  refine Xi {p:Nat×Bc // p.1≤s.length∧p.2=(By (s.take p.1)).reverse} (Xi (fun p=>⟨[(3,sl Af s),(7,.msl 63 p.1.2.length),(8,vi p.1.1)],[(63,FS p.1.2)],Ab⟩) (Xi (fun p=>s.length-p.1.1) (Yi (Xi ⟨(0,[]),AF _,rfl⟩ ?_) ?_)))
  ·exact⟨Z3,Z1,Fh,Tv⟩
  intro⟨⟨j,A⟩,j1,hA⟩;have j1:j≤s.length:=j1;have hA:A=(By (s.take j)).reverse:=hA;have wh:A.length≤j:=by rw[hA,Di];exact(Oo s j j1).1
  refine Yi (fun h2=>?_) (fun h2=>?_)
  ·have h2:(j:Int)<((s.map Af).length:Int):=h2;have h2:j<s.length:=by simpa using h2
   have qn:s[j]?=some s[j]:=Ge h2;refine Xi ⟨[(3,sl Af s),(7,.msl 63 A.length),(8,vi j),(9,vi A.length)],[(63,FS A)],Ab⟩ (Yi ⟨Z4,Z1,Fh,Tv⟩ ?_)
   refine Yi (fun h3=>?_) (fun h3=>?_)
   ·have h3:(0:Int)<A.length:=h3;have ne:Bs ((A.length:Int)-1):=by unfold Bs;omega
    have hn:((A.length:Int)-1).toNat=A.length-1:=by omega
    have Zc:(0:Int)≤(A.length:Int)-1∧(A.length:Int)-1<(A.length:Int):=by omega
    have DH:A.length-1<A.length:=by omega
    have hg:A[A.length-1]?=some A[A.length-1]:=Ge DH;have qo:(A.map Af)[((A.length:Int)-1).toNat]?=some (Af A[A.length-1]):=by rw[hn];exact B3 hg
    have wU:A.length=(A.map Af).length:=by rw[Lm]
    have sH:(0:Int)≤j∧(s.map Af)[((j:Nat):Int).toNat]?=some (Af s[j]):=⟨by omega,by rw[Bl];exact B3 qn⟩;refine Xi (Af s[j]) (Yi sH (Yi rfl ?_));refine Yi ne (Yi Zc (Yi wU (Xi (Af A[A.length-1]) (Yi qo ?_))));refine Yi (fun h4=>?_) (fun h4=>?_)
    ·have h4:s[j].1≤A[A.length-1].2:=h4;refine Yi (by kernel_rfl) ?_;refine Xi ⟨[(3,sl Af s),(7,.msl 63 A.length),(8,vi j),(9,vi A.length)],[(63,FS A)],Ab⟩ (Yi ⟨Z4,Z1,Fh,Tv⟩ ?_)
     refine Yi ne (Yi ne (Yi Zc (Yi wU (Xi (Af A[A.length-1]) (Yi qo ?_)))));refine Xi (Af s[j]) (Yi sH (Yi rfl ?_));refine Yi Zc (Yi wU (Xi (Af A[A.length-1]) (Yi qo (Yi (Nz rfl) ?_))));refine Yi (by kernel_rfl) ?_;refine BM (show ∃B,B=A.set (A.length-1) (A[A.length-1].1,max A[A.length-1].2 s[j].2)from⟨_,rfl⟩) (fun B hB=>?_);have e2:HO.arr 2 ((A.map Af).set ((A.length:Int)-1).toNat [vi A[A.length-1].1,vi (max A[A.length-1].2 s[j].2)])=FS B:=by rw[hn,hB];exact Aa (HO.arr 2) (sQ A _ _ _)
     have e1:AV.msl 63 A.length=.msl 63 B.length:=by rw[hB,CH]
     refine Xi ⟨[(3,sl Af s),(7,.msl 63 B.length),(8,vi j)],[(63,FS B)],Ab⟩ (Yi ⟨⟨Zr,⟨e1,rfl⟩,Zr,Tv⟩,⟨⟨e2,rfl⟩,Tv⟩,Fh,Tv⟩ ?_)
     refine Yi (Ii j (by omega)) ?_;refine Xi ⟨(j+1,B),by omega,by rw[hB];exact dp h2 hA hg h4⟩ ?_;exact⟨Dl s.length j (by omega),Z3,Z1,Fh,Tv⟩
    have h4:¬s[j].1≤A[A.length-1].2:=h4;have wR:A++[s[j]]=(By (s.take (j+1))).reverse:=Yv h2 hA fun y hy=>by
     rw[hg]at hy;rw[←Bv hy];exact h4
    refine Yi (by kernel_rfl) ?_;refine Xi ⟨[(3,sl Af s),(7,.msl 63 A.length),(8,vi j),(9,vi A.length)],[(63,FS A)],Ab⟩ (Yi ⟨Z4,Z1,Fh,Tv⟩ ?_)
    refine Xi (Af s[j]) (Yi sH (Yi rfl ?_));refine Yi (Nz rfl) ?_;have F3:Da 2 [Af s[j]]∧(A.map Af).length=A.length∧((A.map Af).length+[Af s[j]].length)*16≤140737488355328∧(A.map Af).length+[Af s[j]].length≤9223372036854775807 :=
     ⟨⟨rfl,trivial⟩,by rw[Lm],by rw[Lm,Aq];omega,by rw[Lm,Aq];omega⟩
    refine Yi F3 ?_;refine BM (show ∃B,B=A++[s[j]]from⟨_,rfl⟩) (fun B hB=>?_);have e1:AV.msl 63 ((A.map Af).length+[Af s[j]].length)=.msl 63 B.length:=by rw[hB];simp
    have e2:HO.arr 2 (A.map Af++[Af s[j]])=FS B:=by rw[hB];simp
    refine Xi ⟨[(3,sl Af s),(7,.msl 63 B.length),(8,vi j)],[(63,FS B)],Ab⟩ (Yi ⟨⟨Zr,⟨e1,rfl⟩,Zr,Tv⟩,⟨⟨e2,rfl⟩,Tv⟩,Fh,Tv⟩ ?_)
    refine Yi (Ii j (by omega)) ?_;refine Xi ⟨(j+1,B),by omega,by rw[hB];exact wR⟩ ?_;exact⟨Dl s.length j (by omega),Z3,Z1,Fh,Tv⟩
   ·have h3:¬(0:Int)<A.length:=h3;have sH:(0:Int)≤j∧(s.map Af)[((j:Nat):Int).toNat]?=some (Af s[j]):=⟨by omega,by rw[Bl];exact B3 qn⟩;have wR:A++[s[j]]=(By (s.take (j+1))).reverse:=Yv h2 hA fun y hy=>by
     rw[AA (by omega:A.length=0)]at hy;cases hy
    refine Yi (by kernel_rfl) ?_;refine Xi ⟨[(3,sl Af s),(7,.msl 63 A.length),(8,vi j),(9,vi A.length)],[(63,FS A)],Ab⟩ (Yi ⟨Z4,Z1,Fh,Tv⟩ ?_)
    refine Xi (Af s[j]) (Yi sH (Yi rfl ?_));refine Yi (Nz rfl) ?_;have F3:Da 2 [Af s[j]]∧(A.map Af).length=A.length∧((A.map Af).length+[Af s[j]].length)*16≤140737488355328∧(A.map Af).length+[Af s[j]].length≤9223372036854775807 :=
     ⟨⟨rfl,trivial⟩,by rw[Lm],by rw[Lm,Aq];omega,by rw[Lm,Aq];omega⟩
    refine Yi F3 ?_;refine BM (show ∃B,B=A++[s[j]]from⟨_,rfl⟩) (fun B hB=>?_);have e1:AV.msl 63 ((A.map Af).length+[Af s[j]].length)=.msl 63 B.length:=by rw[hB];simp
    have e2:HO.arr 2 (A.map Af++[Af s[j]])=FS B:=by rw[hB];simp
    refine Xi ⟨[(3,sl Af s),(7,.msl 63 B.length),(8,vi j)],[(63,FS B)],Ab⟩ (Yi ⟨⟨Zr,⟨e1,rfl⟩,Zr,Tv⟩,⟨⟨e2,rfl⟩,Tv⟩,Fh,Tv⟩ ?_)
    refine Yi (Ii j (by omega)) ?_;refine Xi ⟨(j+1,B),by omega,by rw[hB];exact wR⟩ ?_;exact⟨Dl s.length j (by omega),Z3,Z1,Fh,Tv⟩
  ·have h2:¬(j:Int)<((s.map Af).length:Int):=h2;have h2:¬j<s.length:=by simpa using h2
   refine Yi (by rw[Lm]) ?_;exact .of_eq (Aa (sl Af) (show A=canon l by rw[hA,AL (by omega)];exact fin))
theorem oM:qK:=vd
end Go.Eng
