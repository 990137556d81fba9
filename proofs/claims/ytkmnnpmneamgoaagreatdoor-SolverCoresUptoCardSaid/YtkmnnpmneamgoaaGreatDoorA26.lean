/- Lemmas for the claims of this seat, without a condition: part 26 (R3, R4, R5, C60, C61, C62, C63, C64, R6, R7, R8, R9, R10, R11). -/
import Derived.Test.YtkmnnpmneamgoaaGreatDoorA25
namespace Go.Eng
open Go.Proofs
theorem js{s:ByteArray}:G8 s.data.toList=(s.data.toList.all Nk&&Gp s.data.toList):=by
 unfold G8;rw[Bool.and_comm]
theorem vE(s:ByteArray)(hs:s.data.toList.length<4611686018427387904):PC 259 [vs s] (vb (G8 s.data.toList)):=by
 have En:s.size=s.data.toList.length:=by simp
 have wj:=vM s hs;rw[js];refine Ps EP Tryz.func259 rfl (Nz rfl) ?_;refine Xi {i:Nat // i≤s.data.toList.length∧∀j (hj:j<s.data.toList.length),j<i→Nk s.data.toList[j]=true} (Xi (fun i=>⟨[(0,vs s),(3,vi i.1)],[],Aa⟩) (Xi (fun i=>s.data.toList.length-i.1) (Yi (Xi ⟨0,AL _,fun j _ h=>by omega⟩ ?_) ?_)))
 ·exact⟨Z2,Tv,Fh,Tv⟩
 intro⟨i,h1,h2⟩;refine Yi ?_ ?_
 ·intro h;have h:(i:Int)<(s.size:Nat):=h;have h:i<s.data.toList.length:=by omega
  have RA:(0:Int)≤i∧s.data[((i:Nat):Int).toNat]?=some s.data.toList[i]:=⟨by omega,by rw[AX];exact MJ s i h⟩;have nx:Nk s.data.toList[i]=true→∀j (hj:j<s.data.toList.length),j<i+1→Nk s.data.toList[j]=true:=fun e j hj IL=>by
   rcases BZ j i with z | z
   ·exact h2 j hj z
   ·have:j=i:=by omega
    subst this;exact e
  refine Xi s.data.toList[i] (Yi RA ?_);have h3:=oa s.data.toList[i];have h4:=kz s.data.toList[i];refine BO (Bt (EJ s.data.toList[i])) (fun e=>?_) (fun e=>?_)
  ·rw[e]at h3;refine Xi .pure (Xi _ (Yi (h3) ?_));refine Yi (Ii i (by omega)) ?_;refine Xi ⟨i+1,by omega,nx (by unfold Nk;rw[e];rfl)⟩ ?_;exact⟨Dl s.data.toList.length i (by omega),Z2,Tv,Fh,Tv⟩
  rw[e]at h3;refine Xi .pure (Xi _ (Yi (h3) ?_));refine Xi s.data.toList[i] (Yi RA ?_);refine BO (Bt (CE s.data.toList[i])) (fun e2=>?_) (fun e2=>?_)
  ·rw[e2]at h4;refine Xi .pure (Xi _ (Yi (h4) ?_));refine Yi (Ii i (by omega)) ?_;refine Xi ⟨i+1,by omega,nx (by unfold Nk;rw[e2,Uo])⟩ ?_;exact⟨Dl s.data.toList.length i (by omega),Z2,Tv,Fh,Tv⟩
  rw[e2]at h4;refine Xi .pure (Xi _ (Yi (h4) ?_));have er:s.data.toList.all Nk=false:=by
   rw[AI];intro ha
   have:=AW.1 ha _ (Am h)
   unfold Nk at this;rw[e,e2]at this;cases this
  exact .of_eq (Ac vb (by rw[er];rfl))
 ·intro h;have h:¬(i:Int)<(s.size:Nat):=h;have er:s.data.toList.all Nk=true:=AW.2 fun c hc=>by
   obtain⟨j,hj,rfl⟩:=B1 hc;exact h2 j hj (by omega)
  refine Xi .pure (Xi _ (Yi (wj) ?_));exact .of_eq (Ac vb (by rw[er];rfl))
abbrev UN:Option Int→AV
 |some n=>vi n
 |none=>vi (-1)
theorem vF(s:ByteArray)(hs:s.data.toList.length<4611686018427387904):PC 260 [vs s] (UN (Gn s.data.toList)):=by
 have En:s.size=s.data.toList.length:=by simp
 refine Ps (Ia [3]) Tryz.func260 rfl (Nz rfl) ?_;refine Yi (fun h=>?_) (fun h=>?_)
 ·have h:((s.size:Nat):Int)<2:=h;exact .of_eq (Ac UN (show(none:Option Int)=Gn s.data.toList by
   cases hs:s.data.toList with
   |nil=>rfl
   |cons c r =>
    cases r with
    |nil=>unfold Gn;simp
    |cons d r=>rw[hs]at En;simp only[Aj]at En;omega))
 have h:¬((s.size:Nat):Int)<2:=h;refine Bb (show ∃c r,s.data.toList=c::r by
  cases e:s.data.toList with
  |nil=>rw[e]at En;simp only[Ah]at En;omega
  |cons c l=>exact⟨c,l,rfl⟩) (fun c hc=>?_)
 refine Bb hc (fun r ZQ=>?_);have hrl:s.size=r.length+1:=by rw[En,ZQ];rfl
 have xB:Gn s.data.toList=if c=118 then(if(r.isEmpty||decide (3<r.length)||(decide (1<r.length)&&decide (r.headD 0=48))||!r.all CE)=true then none else some (D3 r))else none:=by rw[ZQ];rfl
 refine Yi (fun h2=>?_) (fun h2=>?_)
 ·have h2:(4:Int)<((s.size:Nat):Int):=h2;exact .of_eq (Ac UN (show(none:Option Int)=Gn s.data.toList by rw[xB,Av (by omega:3<r.length)];simp))
 have h2:¬(4:Int)<((s.size:Nat):Int):=h2;refine Xi c (Yi ⟨by decide,by show s.data[(0:Int).toNat]?=_;rw[←AO,ZQ];rfl⟩ ?_);refine Yi (fun h3=>?_) (fun h3=>?_)
 ·have h3:¬(c.toNat:Int)=118:=h3;have h3:¬c=118:=fun e=>h3 (by rw[e];rfl);exact .of_eq (Ac UN (show(none:Option Int)=Gn s.data.toList by rw[xB,Aq h3]))
 have h3:¬¬(c.toNat:Int)=118:=h3;have h3:(c.toNat:Int)=118:=BR.1 h3;have h3:c=118:=Gw.1 (by show c.toNat=118;omega);have hr:s.data.toList=118::r:=by rw[ZQ,h3]
 have hv:Gn s.data.toList=if(r.isEmpty||decide (3<r.length)||(decide (1<r.length)&&decide (r.headD 0=48))||!r.all CE)=true then none else some (D3 r):=by rw[xB,Ax h3]
 have CW:0<r.length:=by omega
 have PU:r.isEmpty=false:=by
  cases hl:r with
  |nil=>rw[hl]at CW;exact absurd CW (by decide)
  |cons a l=>rfl
 have lj:r.length≤3:=by omega
 have d3:decide (3<r.length)=false:=Au (by omega);have z0:D3 (r.take 0)=0:=rfl;have hh:=NV r CW;refine Xi r[0] (Yi ⟨by decide,by show s.data[(1:Int).toNat]?=_;rw[←AO,ZQ];show r[0]?=_;exact Ge CW⟩ ?_);refine Yi (fun h4=>?_) (fun h4=>?_)
 ·have h4:(r[0].toNat:Int)=48:=h4;have h4:r[0]=48:=Gw.1 (by show r[0].toNat=48;omega);refine Yi (fun h5=>?_) (fun h5=>?_)
  ·have h5:(2:Int)<((s.size:Nat):Int):=h5;exact .of_eq (Ac UN (show(none:Option Int)=Gn s.data.toList by rw[hv,hh,h4,Av (by omega:1<r.length)];simp))
  have h5:¬(2:Int)<((s.size:Nat):Int):=h5;have eo:(decide (1<r.length)&&decide (r.headD 0=48))=false:=by rw[Au (by omega:¬1<r.length)];rfl
  refine Xi ⟨[(0,vs s)],[],Aa⟩ (Yi ⟨Z1,Tv,Fh,Tv⟩ ?_)
  refine Xi {i:Nat // i≤r.length∧(∀j (hj:j<r.length),j<i→CE r[j]=true)∧0≤D3 (r.take i)∧(i=0→D3 (r.take i)≤0)∧(i≤1→D3 (r.take i)≤9)∧(i≤2→D3 (r.take i)≤99)∧D3 (r.take i)≤999} (Xi (fun i=>⟨[(0,vs s),(3,vi (D3 (r.take i.1))),(4,vi (1+(i.1:Int)))],[],Aa⟩) (Xi (fun i=>r.length-i.1) (Yi (Xi ⟨0,AL _,fun j _ h=>by omega,by omega,fun _=>by omega,fun _=>by omega,fun _=>by omega,by omega⟩ ?_) ?_)))
  ·exact⟨Z3,Tv,Fh,Tv⟩
  intro⟨i,i1,i0,i2,i3,i4,i5,i6⟩;refine Yi ?_ ?_
  ·intro h;have h:1+(i:Int)<(s.size:Nat):=h;have h:i<r.length:=by omega
   have RA:(0:Int)≤1+(i:Int)∧s.data[(1+(i:Int)).toNat]?=some r[i]:=⟨by omega,by rw[show(1+(i:Int)).toNat=i+1 by omega,←AO,hr,EB];exact Ge h⟩;refine Xi r[i] (Yi RA ?_);have hc:=kz r[i];refine BO (Bt (CE r[i])).symm (fun e=>?_) (fun e=>?_)
   ·rw[e]at hc;refine Xi .pure (Xi _ (Yi (hc) ?_));have GM:r.all CE=false:=by
     rw[AI];intro ha
     have:=AW.1 ha _ (Am h)
     rw[e]at this;cases this
    exact .of_eq (Ac UN (show(none:Option Int)=Gn s.data.toList by rw[hv,GM];simp))
   rw[e]at hc;refine Xi .pure (Xi _ (Yi (hc) ?_));have mY:=Jg e;have bt:=KW r i h;have ZS:IntKind.u8.wrap ((r[i].toNat:Int)-48)=(r[i].toNat:Int)-48:=Sd (by omega) (by omega);refine Yi (by show A9 (10*D3 (r.take i));unfold A9;omega) ?_;refine Xi r[i] (Yi RA ?_);refine Yi (by show A9 (IntKind.u8.wrap ((r[i].toNat:Int)-48));rw[ZS];unfold A9;omega) ?_;refine Yi (by show A9 (10*D3 (r.take i)+IntKind.u8.wrap ((r[i].toNat:Int)-48));rw[ZS];unfold A9;omega) ?_;refine Yi (by show A9 (1+(i:Int)+1);unfold A9;omega) ?_;have e5:vi (10*D3 (r.take i)+IntKind.u8.wrap ((r[i].toNat:Int)-48))=vi (D3 (r.take (i+1))):=by rw[ZS,bt]
   have e6:vi (1+(i:Int)+1)=vi (1+((i+1:Nat):Int)):=Ac vi (by omega);refine Xi ⟨i+1,by omega,fun j hj IL=>?_,by omega,fun _=>by omega,fun _=>by omega,fun _=>by omega,by omega⟩ ?_
   ·rcases BZ j i with z | z
    ·exact i0 j hj z
    ·have:j=i:=by omega
     subst this;exact e
   ·exact⟨Dl r.length i (by omega),⟨Zr,⟨e5,rfl⟩,⟨e6,rfl⟩,Tv⟩,Tv,Fh,Tv⟩
  ·intro h;have h:¬1+(i:Int)<(s.size:Nat):=h;have e3:r.all CE=true:=AW.2 fun c hc=>by
    obtain⟨j,hj,rfl⟩:=B1 hc;exact i0 j hj (by omega)
   have e6:vi (D3 (r.take i))=UN (Gn s.data.toList):=by rw[hv,PU,d3,eo,e3,AC (by omega)];rfl
   exact .of_eq e6
 have h4:¬(r[0].toNat:Int)=48:=h4;have eo:(decide (1<r.length)&&decide (r.headD 0=48))=false:=by rw[hh,Au (show ¬r[0]=48 from fun e=>h4 (by rw[e];rfl)),Ct]
 refine Xi ⟨[(0,vs s)],[],Aa⟩ (Yi ⟨Z1,Tv,Fh,Tv⟩ ?_)
 refine Xi {i:Nat // i≤r.length∧(∀j (hj:j<r.length),j<i→CE r[j]=true)∧0≤D3 (r.take i)∧(i=0→D3 (r.take i)≤0)∧(i≤1→D3 (r.take i)≤9)∧(i≤2→D3 (r.take i)≤99)∧D3 (r.take i)≤999} (Xi (fun i=>⟨[(0,vs s),(3,vi (D3 (r.take i.1))),(4,vi (1+(i.1:Int)))],[],Aa⟩) (Xi (fun i=>r.length-i.1) (Yi (Xi ⟨0,AL _,fun j _ h=>by omega,by omega,fun _=>by omega,fun _=>by omega,fun _=>by omega,by omega⟩ ?_) ?_)))
 ·exact⟨Z3,Tv,Fh,Tv⟩
 intro⟨i,i1,i0,i2,i3,i4,i5,i6⟩;refine Yi ?_ ?_
 ·intro h;have h:1+(i:Int)<(s.size:Nat):=h;have h:i<r.length:=by omega
  have RA:(0:Int)≤1+(i:Int)∧s.data[(1+(i:Int)).toNat]?=some r[i]:=⟨by omega,by rw[show(1+(i:Int)).toNat=i+1 by omega,←AO,hr,EB];exact Ge h⟩;refine Xi r[i] (Yi RA ?_);have hc:=kz r[i];refine BO (Bt (CE r[i])).symm (fun e=>?_) (fun e=>?_)
  ·rw[e]at hc;refine Xi .pure (Xi _ (Yi (hc) ?_));have GM:r.all CE=false:=by
    rw[AI];intro ha
    have:=AW.1 ha _ (Am h)
    rw[e]at this;cases this
   exact .of_eq (Ac UN (show(none:Option Int)=Gn s.data.toList by rw[hv,GM];simp))
  rw[e]at hc;refine Xi .pure (Xi _ (Yi (hc) ?_));have mY:=Jg e;have bt:=KW r i h;have ZS:IntKind.u8.wrap ((r[i].toNat:Int)-48)=(r[i].toNat:Int)-48:=Sd (by omega) (by omega);refine Yi (by show A9 (10*D3 (r.take i));unfold A9;omega) ?_;refine Xi r[i] (Yi RA ?_);refine Yi (by show A9 (IntKind.u8.wrap ((r[i].toNat:Int)-48));rw[ZS];unfold A9;omega) ?_;refine Yi (by show A9 (10*D3 (r.take i)+IntKind.u8.wrap ((r[i].toNat:Int)-48));rw[ZS];unfold A9;omega) ?_;refine Yi (by show A9 (1+(i:Int)+1);unfold A9;omega) ?_;have e5:vi (10*D3 (r.take i)+IntKind.u8.wrap ((r[i].toNat:Int)-48))=vi (D3 (r.take (i+1))):=by rw[ZS,bt]
  have e6:vi (1+(i:Int)+1)=vi (1+((i+1:Nat):Int)):=Ac vi (by omega);refine Xi ⟨i+1,by omega,fun j hj IL=>?_,by omega,fun _=>by omega,fun _=>by omega,fun _=>by omega,by omega⟩ ?_
  ·rcases BZ j i with z | z
   ·exact i0 j hj z
   ·have:j=i:=by omega
    subst this;exact e
  ·exact⟨Dl r.length i (by omega),⟨Zr,⟨e5,rfl⟩,⟨e6,rfl⟩,Tv⟩,Tv,Fh,Tv⟩
 ·intro h;have h:¬1+(i:Int)<(s.size:Nat):=h;have e3:r.all CE=true:=AW.2 fun c hc=>by
   obtain⟨j,hj,rfl⟩:=B1 hc;exact i0 j hj (by omega)
  have e6:vi (D3 (r.take i))=UN (Gn s.data.toList):=by rw[hv,PU,d3,eo,e3,AC (by omega)];rfl
  exact .of_eq e6
end Go.Eng

namespace Go.Eng
open Go.Proofs
abbrev Y5(l:List UInt8):List ByteArray:=(CT 47 l).map bs
def VI:List (List UInt8)→UInt8→List (List UInt8)
 | [],_=>[]
 | [x],b=>[x++[b]]
 |x::l,b=>x::VI l b
theorem K4(c:UInt8)(s:List UInt8):CT c s≠[]:=by
 cases s with
 |nil=>rw[CT];exact Sm _ _
 |cons b r =>
  rw[CT];split
  ·exact Sm _ _
  ·split<;>exact Sm _ _
theorem Uf(c:UInt8):∀s:List UInt8,CT c (s++[c])=CT c s++[[]]
 | []=>by simp[CT]
 |b::r=>by
  rw[D7,CT,Uf c r,CT]
  by_cases e:b=c
  ·rw[Ax e,Ax e];rfl
  ·rw[Aq e,Aq e];cases h:CT c r with
   |nil=>exact absurd h (K4 c r)
   |cons x l=>rfl
theorem T1(x:List UInt8){l:List (List UInt8)}(b:UInt8)(h:l≠[]):VI (x::l) b=x::VI l b:=by
 cases l with
 |nil=>exact absurd rfl h
 |cons y l=>rfl
theorem Rt(c b:UInt8)(hb:b≠c):∀s:List UInt8,CT c (s++[b])=VI (CT c s) b
 | []=>by simp[CT,hb,VI]
 |a::r=>by
  rw[D7,CT,Rt c b hb r,CT]
  by_cases e:a=c
  ·rw[Ax e,Ax e,T1 _ _ (K4 c r)]
  ·rw[Aq e,Aq e];cases h:CT c r with
   |nil=>exact absurd h (K4 c r)
   |cons x l =>
    cases l with
    |nil=>rfl
    |cons y l=>rfl
theorem VJ(b:UInt8):∀(l:List (List UInt8)) (x:List UInt8),l[l.length-1]?=some x→l.set (l.length-1) (x++[b])=VI l b
 | [],_,h=>by cases h
 | [y],x,h=>by
  have h:some y=some x:=h;rw[Ck h];rfl
 |y::z::l,x,h=>by
  have h:(z::l)[(z::l).length-1]?=some x:=h;rw[T1 y b (Sm _ _),←VJ b (z::l) x h];rfl
theorem Ue(c:UInt8)(s:List UInt8):(CT c s).length≤s.length+1:=by
 induction s with
 |nil=>rw[CT];exact Ao _
 |cons b r ih =>
  rw[CT,Aj];split
  ·rw[Aj];omega
  ·split
   ·simp
   ·rename_i x l e;rw[e,Aj]at ih;rw[Aj];omega
abbrev sX:QO:=⟨[],[],[(5,1)],[],[],[],[],[],[],[(36,3)],[4]⟩
theorem i7{l:List UInt8}{c:UInt8}(hc:c≠47){x:ByteArray}(h:(Y5 l)[(Y5 l).length-1]?=some x):(Y5 l).set ((Y5 l).length-1) (x++bs [c])=Y5 (l++[c]):=by
 have h2:=h;rw[AJ,Lm]at h;obtain⟨y,hy,e⟩:=AQ.1 h;subst e;show _=(CT 47 (l++[c])).map bs;rw[Rt 47 c hc l,←VJ c (CT 47 l) y hy,NL,Lm]
 congr 1
theorem vD(s:ByteArray)(hs:F3 s):PC 258 [vs s] (sl EK (Y5 s.data.toList)):=by
 unfold F3 at hs;have En:s.size=s.data.toList.length:=by simp
 refine Ps sX Tryz.func258 rfl (Nz rfl) ?_;refine Xi {p:Nat×List ByteArray // p.1≤s.data.toList.length∧p.2=Y5 (s.data.toList.take p.1)} (Xi (fun p=>⟨[(0,vs s),(3,.msl 5 p.1.2.length),(4,vi p.1.1)],[(5,.arr 1 (p.1.2.map EK))],Aa⟩) (Xi (fun p=>s.data.toList.length-p.1.1) (Yi (Xi ⟨(0,[bs []]),AL _,rfl⟩ ?_) ?_)))
 ·exact⟨Z3,Z1,Fh,Tv⟩
 intro⟨⟨i,A⟩,h1,hA⟩;have h1:i≤s.data.toList.length:=h1;have hA:A=Y5 (s.data.toList.take i):=hA;have m7:A.length≤i+1:=by
  have:=Ue 47 (s.data.toList.take i)
  rw[AG]at this;rw[hA,Lm];omega
 have RB:0<A.length:=by
  rw[hA,Lm];exact GX.2 (K4 47 _)
 refine Yi (fun h=>?_) (fun h=>?_)
 ·have h:(i:Int)<(s.size:Nat):=h;have h:i<s.data.toList.length:=by omega
  have RA:(0:Int)≤i∧s.data[((i:Nat):Int).toNat]?=some s.data.toList[i]:=⟨by omega,by rw[AX];exact MJ s i h⟩;have ng:s.data.toList.take (i+1)=s.data.toList.take i++[s.data.toList[i]]:=by rw[Bd,Ge h];rfl
  refine Xi s.data.toList[i] (Yi RA ?_);refine Yi (fun h2=>?_) (fun h2=>?_)
  ·have h2:(s.data.toList[i].toNat:Int)=47:=h2;have h2:s.data.toList[i]=47:=Gw.1 (by show s.data.toList[i].toNat=47;omega);have GL:BW 1 [[vs (bs [])]]∧(A.map EK).length=A.length∧((A.map EK).length+[[vs (bs [])]].length)*16≤140737488355328∧(A.map EK).length+[[vs (bs [])]].length≤9223372036854775807 :=
    ⟨⟨rfl,trivial⟩,by rw[Lm],by rw[Lm,AB];omega,by rw[Lm,AB];omega⟩
   refine Yi GL ?_;refine Xi ⟨[(0,vs s),(3,.msl 5 (A++[bs []]).length),(4,vi i)],[(5,.arr 1 ((A++[bs []]).map EK))],Aa⟩ (Yi ?_ ?_)
   ·have e1:AV.msl 5 ((A.map EK).length+[[vs (bs [])]].length)=.msl 5 (A++[bs []]).length:=by simp
    have e2:HO.arr 1 (A.map EK++[[vs (bs [])]])=.arr 1 ((A++[bs []]).map EK):=by rw[Az];rfl
    exact⟨⟨Zr,⟨e1,rfl⟩,Zr,Tv⟩,⟨⟨e2,rfl⟩,Tv⟩,Fh,Tv⟩
   refine Yi (Ii i (by omega)) ?_;have eA:A++[bs []]=Y5 (s.data.toList.take (i+1)):=by
    rw[hA,ng,h2];show _=(CT 47 _).map bs;rw[Uf,Az];rfl
   refine Xi ⟨(i+1,A++[bs []]),by omega,eA⟩ ?_;exact⟨Dl s.data.toList.length i (by omega),Z3,Z1,Fh,Tv⟩
  have h2:¬(s.data.toList[i].toNat:Int)=47:=h2;have h2:s.data.toList[i]≠47:=fun e=>h2 (by rw[e];rfl);have mZ:A9 ((A.length:Int)-1):=by unfold A9;omega
  have Dy:A.length-1<A.length:=by omega
  have hn:((A.length:Int)-1).toNat=A.length-1:=by omega
  have hg:A[A.length-1]?=some A[A.length-1]:=Ge Dy;have rY:F3 A[A.length-1]:=by
   have ll:∀x∈A,x∈Y5 (s.data.toList.take i):=fun x hx=>hA▸hx;obtain⟨y,hy,e⟩:=Ar.1 (ll _ (Am Dy));have h5:=LC 47 _ y hy;rw[AG]at h5;unfold F3;rw[←e,show(bs y).size=y.length from rfl];omega
  have c9:((A[A.length-1].size+(⟨[s.data.toList[i]].toArray⟩:ByteArray).size:Nat):Int)≤9223372036854775807:=by
   unfold F3 at rY
   have:(⟨[s.data.toList[i]].toArray⟩:ByteArray).size=1:=rfl
   omega
  refine Yi mZ (Yi mZ ?_);refine Yi (show(0:Int)≤(A.length:Int)-1∧(A.length:Int)-1<(A.length:Int) by omega) ?_;refine Yi (by rw[Lm]) ?_;have qd:(A.map EK)[((A.length:Int)-1).toNat]?=some (EK A[A.length-1]):=by rw[hn];exact Cg hg
  refine Xi (EK A[A.length-1]) (Yi qd ?_);refine Xi s.data.toList[i] (Yi RA ?_);refine Xi [s.data.toList[i]] (Yi rfl ?_);refine Yi c9 ?_;refine Yi (show(0:Int)≤(A.length:Int)-1∧(A.length:Int)-1<(A.length:Int) by omega) ?_;refine Yi (by rw[Lm]) ?_;refine Xi (EK A[A.length-1]) (Yi qd (Yi (Nz rfl) ?_));refine Yi (by kernel_rfl) ?_;refine Bb (show ∃B,B=A.set (A.length-1) (A[A.length-1]++bs [s.data.toList[i]])from⟨_,rfl⟩) (fun B hB=>?_);have gz:B.length=A.length:=by rw[hB,Gu]
  have e2:HO.arr 1 ((A.map EK).set ((A.length:Int)-1).toNat [vs (A[A.length-1]++⟨[s.data.toList[i]].toArray⟩)])=.arr 1 (B.map EK):=by rw[hn,hB,NL];rfl
  refine Xi ⟨[(0,vs s),(3,.msl 5 B.length),(4,vi i)],[(5,.arr 1 (B.map EK))],Aa⟩ (Yi ⟨⟨Zr,⟨Ac (AV.msl 5) gz.symm,rfl⟩,Zr,Tv⟩,⟨⟨e2,rfl⟩,Tv⟩,Fh,Tv⟩ ?_)
  refine Yi (Ii i (by omega)) ?_;have eB:B=Y5 (s.data.toList.take (i+1)):=by
   rw[ng,hB];subst hA;exact i7 h2 hg
  refine Xi ⟨(i+1,B),by omega,eB⟩ ?_;exact⟨Dl s.data.toList.length i (by omega),Z3,Z1,Fh,Tv⟩
 ·have h:¬(i:Int)<(s.size:Nat):=h;refine Yi (by rw[Lm]) ?_;exact .of_eq (Ac (sl EK) (show A=Y5 s.data.toList by rw[hA,AC (by omega)]))
end Go.Eng

namespace Go.Eng
open Go.Proofs
theorem Y3{s:List UInt8}{n:Int}(h:Gn s=some n):0≤n:=by
 cases s with
 |nil=>unfold Gn at h;cases h
 |cons c r =>
  have h:(if c=118 then(if(r.isEmpty||decide (3<r.length)||(decide (1<r.length)&&decide (r.headD 0=48))||!r.all CE)=true then none else some (D3 r))else none)=some n:=h
  by_cases hc:c=118
  ·rw[Ax hc]at h
   by_cases hb:(r.isEmpty||decide (3<r.length)||(decide (1<r.length)&&decide (r.headD 0=48))||!r.all CE)=true
   ·rw[Ax hb]at h;cases h
   ·rw[Aq hb]at h;have ha:r.all CE=true:=by
     cases hr:r.all CE
     ·rw[hr]at hb;simp at hb
     ·rfl
    rw[←Ck h]
    suffices hh:∀i,i≤r.length→0≤D3 (r.take i) by
     have:=hh r.length (Ao _)
     rwa [CN]at this
    intro i
    induction i with
    |zero=>intro _;exact BF _
    |succ i ih =>
     intro hi;have hd:=Jg (AW.1 ha _ (Am (show i<r.length by omega)))
     have:=ih (by omega)
     rw[KW r i (by omega)];omega
  ·rw[Aq hc]at h;cases h
theorem iZ{l:List UInt8}{x:ByteArray}(h:(Y5 l)[(Y5 l).length-1]?=some x):(CT 47 l).getLastD []=x.data.toList:=by
 rw[Lm,AJ,←List.getLast?_eq_getElem?]at h;obtain⟨y,hy,e⟩:=AQ.1 h;rw[List.getLastD_eq_getLast?,hy,←e];rfl
theorem qW(p:ByteArray)(hp:F3 p):PC 220 [vs p] (Qe (By p)):=by
 have En:p.size=p.data.toList.length:=by simp
 have hc:=vD p hp;unfold F3 at hp;obtain⟨A,hA⟩:∃A,A=Y5 p.data.toList:=⟨_,rfl⟩;rw[←hA]at hc;have wm:A.length=(CT 47 p.data.toList).length:=by rw[hA,Lm]
 have m7:=Ue 47 p.data.toList;have RB:0<A.length:=by rw[wm];exact GX.2 (K4 47 _)
 have lk:∀x∈A,x.data.toList.length<4611686018427387904:=fun x hx=>by
  obtain⟨y,hy,e⟩:=Ar.1 (hA▸hx:x∈Y5 p.data.toList);have h5:=LC 47 _ y hy;rw[←e];show y.length<_;omega
 have GM:(CT 47 p.data.toList).all G8=A.all fun x=>G8 x.data.toList:=by rw[hA,List.all_map];rfl
 have Dy:A.length-1<A.length:=by omega
 have hg:A[A.length-1]?=some A[A.length-1]:=Ge Dy;have X4:(CT 47 p.data.toList).getLastD []=A[A.length-1].data.toList:=by
  subst hA;exact iZ hg
 have em:By p=match Gn A[A.length-1].data.toList with
  |none=>none
  |some n=>if(decide (64<p.data.toList.length)||decide (A.length<2))=true then none else if(A.all fun x=>G8 x.data.toList)=true then some n else none:=by
  unfold By Qf;rw[X4,GM,←wm];cases Gn A[A.length-1].data.toList with
  |none=>rfl
  |some n=>rfl
 clear GM X4
 have hv:=vF A[A.length-1] (lk _ (Am Dy));obtain⟨o,ho⟩:∃o,o=Gn A[A.length-1].data.toList:=⟨_,rfl⟩;rw[←ho]at hv em;have hz:∀n,o=some n→0≤n:=fun n e=>by
  rw[e]at ho;exact Y3 ho.symm
 refine Ps (Ia [4,9,10]) Tryz.func220 rfl (Nz rfl) ?_;refine Yi (fun h=>?_) (fun h=>?_)
 ·have h:(64:Int)<((p.size:Nat):Int):=h;exact .of_eq (Ac Qe (show(none:Option Int)=By p by rw[em,Av (by omega:64<p.data.toList.length)];cases o<;>rfl))
 have h:¬(64:Int)<((p.size:Nat):Int):=h;have d1:decide (64<p.data.toList.length)=false:=Au (by omega);refine Xi .pure (Xi _ (Yi (hc) ?_));refine Xi ⟨[(4,sl EK A)],[],Aa⟩ (Yi ⟨Z1,Tv,Fh,Tv⟩ ?_)
 refine Xi {i:Nat // i≤A.length∧∀j (hj:j<A.length),j<i→G8 (A[j]).data.toList=true} (Xi (fun i=>⟨[(4,sl EK A),(5,vi i.1)],[],Aa⟩) (Xi (fun i=>A.length-i.1) (Yi (Xi ⟨0,AL _,fun j _ h=>by omega⟩ ?_) ?_)))
 ·exact⟨Z2,Tv,Fh,Tv⟩
 intro⟨i,i1,i2⟩;refine Yi (fun h2=>?_) (fun h2=>?_)
 ·have h2:(i:Int)<((A.map EK).length:Int):=h2;have h2:i<A.length:=by simpa using h2
  have hg:A[i]?=some A[i]:=Ge h2;refine Xi (EK A[i]) (Yi (Yi (Nn i) (by simp[hg])) (Yi rfl ?_));have hn:=vE A[i] (lk _ (Am h2));refine BO (Bt (G8 A[i].data.toList)).symm (fun e1=>?_) (fun e1=>?_)
  ·rw[e1]at hn;refine Xi .pure (Xi _ (Yi (hn) ?_));have e2:(A.all fun x=>G8 x.data.toList)=false:=by
    rw[AI];intro hh
    have:=AW.1 hh _ (Am h2)
    rw[e1]at this;cases this
   exact .of_eq (Ac Qe (show(none:Option Int)=By p by
    rw[em,e2];cases o with
    |none=>rfl
    |some n=>cases (decide (64<p.data.toList.length)||decide (A.length<2))<;>rfl))
  rw[e1]at hn;refine Xi .pure (Xi _ (Yi (hn) ?_));refine Yi (Ii i (by omega)) ?_;refine Xi ⟨i+1,by omega,fun j hj IL=>?_⟩ ?_
  ·rcases BZ j i with z | z
   ·exact i2 j hj z
   ·have:j=i:=by omega
    subst this;exact e1
  ·exact⟨Dl A.length i (by omega),Z2,Tv,Fh,Tv⟩
 have h2:¬(i:Int)<((A.map EK).length:Int):=h2;have h2:¬i<A.length:=by simpa using h2
 have e2:(A.all fun x=>G8 x.data.toList)=true:=AW.2 fun x hx=>by
  obtain⟨j,hj,rfl⟩:=B1 hx;exact i2 j hj (by omega)
 have em:By p=match(generalizing:=false) o with
  |none=>none
  |some n=>if decide (A.length<2)=true then none else some n:=by
  rw[em,e2,d1];cases o<;>rfl
 refine Xi ⟨[(4,sl EK A)],[],Aa⟩ (Yi ⟨Z1,Tv,Fh,Tv⟩ ?_)
 have Y4:(((A.map EK).length:Int)-1).toNat=A.length-1:=by rw[Lm];omega
 refine Yi (by show A9 (((A.map EK).length:Int)-1);rw[Lm];unfold A9;omega) ?_;refine Xi (EK A[A.length-1]) (Yi (Yi (by show(0:Int)≤((A.map EK).length:Int)-1;rw[Lm];omega) (by rw[Y4];exact Cg hg)) (Yi rfl ?_));refine Xi .pure (Xi _ (Yi (hv) ?_));refine Bb (show ∃z:Int,UN o=vi z∧(z<0↔o=none)∧∀n,o=some n→z=n by
  cases o with
  |none=>exact⟨-1,rfl,⟨fun _=>rfl,fun _=>by decide⟩,fun n h=>by cases h⟩
  |some n=>exact⟨n,rfl,⟨fun h=>absurd (hz n rfl) (by omega),fun h=>by cases h⟩,fun m h=>by cases h;rfl⟩) (fun z ul=>?_)
 refine Xi ⟨[(4,sl EK A),(6,vi z)],[],Aa⟩ (Yi ⟨⟨Zr,⟨ul.1,rfl⟩,Tv⟩,Tv,Fh,Tv⟩ ?_)
 refine Yi (fun h3=>?_) (fun h3=>?_)
 ·have h3:((A.map EK).length:Int)<2:=h3;rw[Lm]at h3;exact .of_eq (Ac Qe (show(none:Option Int)=By p by rw[em,Av (by omega:A.length<2)];cases o<;>rfl))
 have h3:¬((A.map EK).length:Int)<2:=h3;rw[Lm]at h3;refine Yi (fun h4=>?_) (fun h4=>?_)
 ·have h4:z<0:=h4;exact .of_eq (Ac Qe (show(none:Option Int)=By p by rw[em,ul.2.1.1 h4]))
 have h4:¬z<0:=h4;refine Bb (show ∃n,o=some n by
  cases o with
  |none=>exact absurd (ul.2.1.2 rfl) h4
  |some n=>exact⟨n,rfl⟩) (fun n hn=>?_)
 exact .of_eq (show AV.tup [vi z,vi 0]=Qe (By p) by rw[em,hn,ul.2.2 n hn,Au (by omega:¬A.length<2)];rfl)
theorem vu(p:ByteArray)(hp:F3 p):PC 219 [vs p] (vb (By p).isSome):=by
 have hc:=qW p hp;cases h:By p with
 |none =>
  rw[h]at hc;refine Ps EP Tryz.func219 rfl (Nz rfl) ?_;refine Xi .pure (Xi _ (Yi (hc) ?_));refine Yi ?_ ?_
  ·intro h;exact absurd (show(4:Int)=0 from h) (by decide)
  ·intro _;exact .refl _
 |some n =>
  rw[h]at hc;refine Ps EP Tryz.func219 rfl (Nz rfl) ?_;refine Xi .pure (Xi _ (Yi (hc) ?_));refine Yi ?_ ?_
  ·intro _;exact .refl _
  ·intro h;exact absurd rfl h
end Go.Eng

namespace Go.Eng
open Go.Proofs
end Go.Eng

namespace Go.Eng
open Go.Proofs
end Go.Eng

namespace Go.Eng
open Go.Proofs
end Go.Eng

namespace Go.Eng
open Go.Proofs
end Go.Eng

namespace Go.Eng
open Go.Proofs
abbrev Qd(p:ByteArray):Int:=match By p with | none=>-1 | some m=>m
abbrev qx:Prop:=∀p:ByteArray,F3 p→PC 123 [vs p] (vi (Qd p))
abbrev qy:Prop:=∀s:Bc,CL s→PC 125 [sl Ae s] (sl Ae (canon s))
theorem lZ{r:List UInt8}(h:r.all CE=true):0≤D3 r:=by
 have:∀(l:List UInt8) (n:Int),0≤n→(∀c∈l,CE c=true)→0≤l.foldl (fun n c=>10*n+((c.toNat:Int)-48)) n:=by
  intro l
  induction l with
  |nil=>intro n hn _;exact hn
  |cons c l ih =>
   intro n hn hc
   have:=Jg (hc c (Ab ..))
   exact ih _ (show 0≤10*n+((c.toNat:Int)-48) by omega) fun d hd=>hc d (Ai _ hd)
 exact this r 0 (BF _) (fun c hc=>AW.1 h c hc)
theorem mK{s:List UInt8}{n:Int}(h:Gn s=some n):0≤n:=by
 unfold Gn at h;split at h
 ·split at h
  ·split at h
   ·cases h
   ·rename_i r _ hc;cases h;refine lZ ?_;cases hd:r.all CE with
    |true=>rfl
    |false=>rw[hd]at hc;simp at hc
  ·cases h
 ·cases h
theorem iA{p:ByteArray}{m:Int}(h:By p=some m):0≤m:=by
 unfold By Qf at h;split at h
 ·cases h
 ·rename_i n e;split at h
  ·cases h
  ·split at h
   ·cases h;exact mK e
   ·cases h
theorem O5(p:ByteArray):Qd p<0↔(By p).isNone=true:=by
 unfold Qd;cases h:By p with
 |none=>simp
 |some m=>have:=iA h;simp;omega
theorem zh(gw:qx)(kS:qy)(l:List Rq)(hs:∀q∈l,H4 q):PC 72 [sl Al l] (vi (Bn l)):=by
 refine Ps (Ia [8,10]) Tryz.func72 rfl (Nz rfl) ?_;refine Yi ?_ ?_
 ·intro h;have h:(16:Int)<(l.map Al).length:=h;exact .of_eq (Ac vi (show(7:Int)=Bn l by unfold Bn;rw[Ax (by rw[Lm]at h;omega)]))
 intro h;have h:¬(16:Int)<(l.map Al).length:=h;have hl:l.length≤16:=by rw[Lm]at h;omega
 have Ok:Bn l=Ea none l:=by unfold Bn;rw[Aq (by omega)]
 refine Xi {i:Nat // i≤l.length∧Ea none l=Ea (G3 l i) (l.drop i)} (Xi (fun i=>⟨[(0,sl Al l),(3,vi i.1)],[],Aa⟩) (Xi (fun i=>l.length-i.1) (Yi (Xi ⟨0,AL _,rfl⟩ ?_) ?_)))
 ·exact⟨Z2,Tv,Fh,Tv⟩
 intro⟨i,h1,h2⟩;refine Yi ?_ ?_
 ·intro h;have h:(i:Int)<(l.map Al).length:=h;have h:i<l.length:=by simpa using h
  have hg:l[i]?=some l[i]:=Ge h;have hd:l.drop i=l[i]::l.drop (i+1):=Bl h;have hq:=hs l[i] (Am h);have GY:Ea none l=if F6 (G3 l i) l[i]=0 then Ea (some l[i].path) (l.drop (i+1))else F6 (G3 l i) l[i]:=by rw[h2,hd];rfl
  have fail:∀e:Int,F6 (G3 l i) l[i]=e→e≠0→e=Bn l:=fun e he hz=>by rw[Ok,GY,he,Aq hz]
  have bt:G3 l (i+1)=some l[i].path:=Ma h;refine Xi (Al l[i]) (Yi (Yi (Nn i) (by simp[hg])) (Yi rfl ?_));refine Xi .pure (Xi _ (Yi (gw l[i].path hq.2) ?_));refine Yi ?_ ?_
  ·intro h3;have h3:Qd l[i].path<0:=h3;exact .of_eq (Ac vi (fail 4 (by unfold F6;rw[Ax ((O5 _).1 h3)]) (by decide)))
  intro h3;have h3:¬Qd l[i].path<0:=h3;have hmj:(By l[i].path).isNone=false:=by
   rw[AI];exact fun e=>h3 ((O5 _).2 e)
  have er:F6 (G3 l i) l[i]=if(l[i].set.isEmpty||!decide (l[i].set=canon l[i].set)||(match G3 l i with | some b=>!EN b l[i].path | none=>false))=true then 1 else 0:=by unfold F6;rw[hmj];rfl
  refine Xi ⟨[(0,sl Al l),(3,vi i)],[],Aa⟩ (Yi ⟨Z2,Tv,Fh,Tv⟩ ?_)
  refine Xi (Al l[i]) (Yi (Yi (Nn i) (by simp[hg])) (Yi rfl ?_));refine Yi ?_ ?_
  ·intro h4;have h4:((l[i].set.map Ae).length:Int)=0:=h4;have h5:l[i].set.isEmpty=true:=by
    rw[Lm]at h4;rw[F4];exact AK (by omega)
   refine Yi (by kernel_rfl) ?_;exact .of_eq (Ac vi (fail 1 (by rw[er,h5];rfl) (by decide)))
  intro h4;have h4:¬((l[i].set.map Ae).length:Int)=0:=h4;have h5:l[i].set.isEmpty=false:=by
   cases hqs:l[i].set with
   |nil=>rw[hqs]at h4;exact absurd rfl h4
   |cons a b=>rfl
  have he:=c75 l[i].set (canon l[i].set) hq.1;refine Xi (Al l[i]) (Yi (Yi (Nn i) (by simp[hg])) (Yi rfl ?_));refine Xi (Al l[i]) (Yi (Yi (Nn i) (by simp[hg])) (Yi rfl ?_));refine Xi _ (Yi (kS l[i].set hq.1) ?_);refine BO (Bt (decide (l[i].set=canon l[i].set))) (fun e=>?_) (fun e=>?_)
  rotate_left
  ·rw[e]at he;refine Xi _ (Yi (he) ?_);refine Yi (by kernel_rfl) ?_;exact .of_eq (Ac vi (fail 1 (by rw[er,h5,e];rfl) (by decide)))
  rw[e]at he;refine Xi _ (Yi (he) ?_);refine Yi (by kernel_rfl) ?_;refine Xi ⟨[(0,sl Al l),(3,vi i)],[],Aa⟩ (Yi ⟨Z2,Tv,Fh,Tv⟩ ?_)
  refine Yi ?_ ?_
  ·intro h6;have h6:(0:Int)<i:=h6;have h7:i-1<l.length:=by omega
   have hb:G3 l i=some l[i-1].path:=by
    obtain⟨k,rfl⟩:∃k,i=k+1:=⟨i-1,by omega⟩;exact Ma h7
   refine Xi (Al l[i]) (Yi (Yi (Nn i) (by simp[hg])) (Yi rfl ?_));refine Yi (by show A9 ((i:Int)-1);unfold A9;omega) ?_;refine Xi (Al l[i-1]) (Yi (Yi (by show(0:Int)≤(i:Int)-1;omega) (by rw[show((i:Int)-1).toNat=i-1 by omega];exact Cg (Ge h7))) (Yi rfl ?_));refine Yi ?_ ?_
   ·intro h8;have h8:Op.bytesLess l[i-1].path.toList l[i].path.toList=false:=h8;refine Yi (by kernel_rfl) ?_;exact .of_eq (Ac vi (fail 1 (by rw[er,h5,e,hb];show(if(!EN l[i-1].path l[i].path)=true then(1:Int)else 0)=1;rw[Fm,h8];rfl) (by decide)))
   ·intro h8;have h8:¬Op.bytesLess l[i-1].path.toList l[i].path.toList=false:=h8;have h8:Op.bytesLess l[i-1].path.toList l[i].path.toList=true:=by simpa using h8
    refine Yi (by kernel_rfl) ?_;refine Yi (Ii i (by omega)) ?_;refine Xi ⟨i+1,by omega,by rw[GY,bt,Ax (by rw[er,h5,e,hb];show(if(!EN l[i-1].path l[i].path)=true then(1:Int)else 0)=0;rw[Fm,h8];rfl)]⟩ ?_;exact⟨Dl l.length i (by omega),Z2,Tv,Fh,Tv⟩
  ·intro h6;have h6:¬(0:Int)<i:=h6;have h7:i=0:=by omega
   refine Yi (by kernel_rfl) ?_;refine Yi (Ii i (by omega)) ?_;refine Xi ⟨i+1,by omega,by rw[GY,bt,Ax (by rw[er,h5,e];subst h7;rfl)]⟩ ?_;exact⟨Dl l.length i (by omega),Z2,Tv,Fh,Tv⟩
 ·intro h;have h:¬(i:Int)<(l.map Al).length:=h;have h:¬i<l.length:=by simpa using h
  have e:(0:Int)=Bn l:=by rw[Ok,h2,Hv (by omega)];rfl
  exact .of_eq (Ac vi e)
end Go.Eng

namespace Go.Eng
open Go.Proofs
theorem ZW(p:ByteArray)(k:Nat)(hk:k<p.data.toList.length)(h1:p.data.toList[k]=47)(h2:∀j (hj:j<p.data.toList.length),k<j→p.data.toList[j]≠47):Go.Lib.lastIndex p.data.toList [47]=k:=by
 have qg:∀i (hi:i<p.data.toList.length),Go.Lib.occAt p.data.toList [47] i=true↔p.data.toList[i]=47:=fun i hi=>by
  unfold Go.Lib.occAt;rw[Bl hi];simp;exact eq_comm
 unfold Go.Lib.lastIndex;rw[Ax (by simp only[AB];omega)];rcases Go.Lib.lastOcc_spec p.data.toList [47] (p.data.toList.length - [(47:UInt8)].length+1)with ⟨_,h3⟩ | ⟨j,h3,h4,h5,h6⟩
 ·have:=h3 k (by simp only[AB];omega)
  rw[(qg k hk).2 h1]at this;cases this
 ·rw[h4];simp only[AB]at h3;have e:j=k:=by
   rcases Nat.lt_trichotomy j k with z | z | z
   ·have:=h6 k z (by simp only[AB];omega)
    rw[(qg k hk).2 h1]at this;cases this
   ·exact z
   ·exact absurd ((qg j (by omega)).1 h5) (h2 j (by omega) z)
  rw[e]
theorem eh{p:ByteArray}{m:Int}(h:By p=some m):(47:UInt8)∈p.data.toList:=by
 refine Og 47 _ ?_;unfold By Qf at h;split at h
 ·cases h
 ·split at h
  ·cases h
  ·rename_i hn;simp only[CU,AD]at hn;omega
theorem vd(p:ByteArray)(hp:F3 p):PC 177 [vs p] (TG WL p):=by
 have hc:=qW p hp;have hi:=vu p hp;have En:p.size=p.data.toList.length:=by simp
 unfold TG;cases h:By p with
 |none =>
  rw[h]at hi;refine Ps EP Tryz.func177 rfl (Nz rfl) ?_;refine Xi .pure (Xi _ (Yi (hi) ?_));exact .refl _
 |some n =>
  have ZR:=eh h;rw[h]at hc hi;unfold F3 at hp;refine Bb (show ∃q,∃hq:q<p.data.toList.length,p.data.toList[q]=47 from B1 ZR) (fun q hq=>?_);refine Bb hq (fun hq eq=>?_);refine Ps EP Tryz.func177 rfl (Nz rfl) ?_;refine Xi .pure (Xi _ (Yi (hi) ?_));refine Xi .pure (Xi _ (Yi (hc) ?_));refine Yi (fun h=>absurd rfl h) (fun _=>?_);refine Yi (show A9 (((p.size:Nat):Int)-1) by unfold A9;omega) ?_;refine Xi {k:Nat // k<p.data.toList.length∧∀j (hj:j<p.data.toList.length),k<j→p.data.toList[j]≠47} (Xi (fun k=>⟨[(0,vs p),(5,vi n),(7,vi k.1)],[],Aa⟩) (Xi (fun k=>k.1) (Yi (Xi ⟨p.data.toList.length-1,by omega,fun j hj IL=>by omega⟩ ?_) ?_)))
  ·have e1:vi (((p.size:Nat):Int)-1)=vi ((p.data.toList.length-1:Nat):Int):=Ac vi (by omega);exact⟨⟨Zr,Zr,⟨e1,rfl⟩,Tv⟩,Tv,Fh,Tv⟩
  intro⟨k,k1,k2⟩;have RA:(0:Int)≤k∧p.data[((k:Nat):Int).toNat]?=some p.data.toList[k]:=⟨by omega,by rw[AX];exact MJ p k k1⟩;refine Xi p.data.toList[k] (Yi RA ?_);refine Yi (fun h2=>?_) (fun h2=>?_)
  ·have h2:¬(p.data.toList[k].toNat:Int)=47:=h2;have h2:p.data.toList[k]≠47:=fun e=>h2 (by rw[e];rfl);have hqk:q≤k:=by
    rcases BZ k q with z | z
    ·exact absurd eq (k2 q hq z)
    ·exact z
   have Vl:q≠k:=fun e=>by subst e;exact h2 eq
   refine Yi (show A9 ((k:Int)-1) by unfold A9;omega) ?_;have e1:vi ((k:Int)-1)=vi ((k-1:Nat):Int):=Ac vi (by omega);refine Xi ⟨k-1,by omega,fun j hj IL=>?_⟩ ?_
   ·rcases BZ k j with z | z
    ·exact k2 j hj z
    ·have:j=k:=by omega
     subst this;exact h2
   ·exact⟨by show k-1<k;omega,⟨Zr,Zr,⟨e1,rfl⟩,Tv⟩,Tv,Fh,Tv⟩
  ·have h2:¬¬(p.data.toList[k].toNat:Int)=47:=h2;have h2:p.data.toList[k]=47:=Gw.1 (by have:=BR.1 h2;show p.data.toList[k].toNat=47;omega);have el:=ZW p k k1 h2 k2;refine Yi ⟨BF _,by show(0:Int)≤k;omega,by show(k:Int)≤p.size;omega⟩ ?_;have e3:p.extract 0 ((k:Nat):Int).toNat=WL p:=by unfold WL;rw[el]
   exact .of_eq (show AV.tup [vs (p.extract 0 ((k:Nat):Int).toNat),vi n,vi 0]=_ by rw[e3])
theorem uQ(p:ByteArray)(hp:F3 p):PC 123 [vs p] (vi (Qd p)):=by
 have hc:=vd p hp;unfold TG at hc;unfold Qd;cases h:By p with
 |none =>
  rw[h]at hc;refine Ps EP Tryz.func123 rfl (Nz rfl) ?_;refine Xi .pure (Xi _ (Yi (hc) ?_));refine Yi (fun _=>?_) (fun h=>absurd (show(4:Int)≠0 by decide) h);exact .refl _
 |some m =>
  rw[h]at hc;refine Ps EP Tryz.func123 rfl (Nz rfl) ?_;refine Xi .pure (Xi _ (Yi (hc) ?_));refine Yi (fun h=>absurd rfl h) (fun _=>?_);exact .refl _
theorem gw:qx:=uQ
end Go.Eng

namespace Go.Eng
open Go.Proofs
abbrev sW:QO:=⟨[],[(3,0)],[(63,2)],[],[],[],[],[],[],[(112,7)],[4,6,10,11,14,16,17,18]⟩
theorem K3(s:Bc):∀cs∈s.map Ae,cs.length=2:=fun cs h=>by
 obtain⟨x,_,rfl⟩:=Ar.1 h;rfl
theorem KF{n:Nat}:∀{l:List (List AV)},(∀c∈l,c.length=n)→BW n l
 | [],_=>trivial
 |c::_,h=>⟨h c (Ab ..),KF fun d hd=>h d (Ai _ hd)⟩
abbrev MC(s:Bc)(k:Nat):List (List AV):=((s.map Ae).take (((s.map Ae).length:Nat):Int).toNat).drop ((k:Nat):Int).toNat
theorem T6(s:Bc)(k:Nat):MC s k=(s.drop k).map Ae:=by
 unfold MC;rw[AX,AX,AC (Ao _),List.map_drop]
theorem mP(s:Bc)(x:Int×Int)(k:Nat)(h:s.length≤1073741824):BW 2 (MC s k)∧[Ae x].length=1∧([Ae x].length+(MC s k).length)*16≤140737488355328∧[Ae x].length+(MC s k).length≤9223372036854775807:=by
 rw[T6];refine⟨KF (K3 _),rfl,?_,?_⟩<;>rw[Lm,B4,AB]<;>omega
abbrev QY(s:Bc)(k:Nat):List (List AV):=((s.map Ae).take ((k:Nat):Int).toNat).drop ((0:Int)).toNat
theorem XX(s:Bc)(k:Nat):QY s k=(s.take k).map Ae:=by
 unfold QY;rw[AX,show(0:Int).toNat=0 from rfl,Kx,Rx]
theorem mQ(s:Bc)(x:Int×Int)(k:Nat)(hk:k≤s.length)(h:s.length≤1073741824):BW 2 ([Ae x]++MC s k)∧(QY s k).length=((k:Nat):Int).toNat-((0:Int)).toNat∧((QY s k).length+([Ae x]++MC s k).length)*16≤140737488355328∧(QY s k).length+([Ae x]++MC s k).length≤9223372036854775807:=by
 rw[T6,XX];refine⟨⟨rfl,KF (K3 _)⟩,?_,?_,?_⟩
 ·rw[Lm,AG,AX];show min k s.length=k-0;omega
 ·rw[Ad,Lm,Lm,AG,B4,AB];omega
 ·rw[Ad,Lm,Lm,AG,B4,AB];omega
theorem sI(s:Bc)(x:Int×Int)(k:Nat):QY s k++([Ae x]++MC s k)=(s.take k++([x]++s.drop k)).map Ae:=by
 rw[T6,XX,Az,Az];rfl
theorem di{s A:Bc}{j:Nat}(h:j<s.length)(hA:A=(Bx (s.take j)).reverse){y:Int×Int}(hy:A[A.length-1]?=some y)(HN:s[j].1≤y.2):A.set (A.length-1) (y.1,max y.2 s[j].2)=(Bx (s.take (j+1))).reverse:=by
 rw[Fz s j h];cases hr:Bx (s.take j)with
 |nil=>rw[hA,hr]at hy;cases hy
 |cons z t =>
  have eA:A=t.reverse++[z]:=by rw[hA,hr,ER]
  have eL:A.length-1=t.reverse.length:=by rw[eA,Ad,AB];omega
  rw[eL,eA,AR (Ao _),Fk]at hy;have ez:z=y:=Ck hy;have e2:JN (z::t) s[j]=(z.1,max z.2 s[j].2)::t:=by show(if s[j].1≤z.2 then _ else _)=_;rw[Ax (ez▸HN)]
  rw[e2,eL,eA,List.set_append_right _ _ (Ao _),Fk,ER,ez];rfl
theorem Yl{s A:Bc}{j:Nat}(h:j<s.length)(hA:A=(Bx (s.take j)).reverse)(hn:∀y,A[A.length-1]?=some y→¬s[j].1≤y.2):A++[s[j]]=(Bx (s.take (j+1))).reverse:=by
 rw[Fz s j h];cases hr:Bx (s.take j)with
 |nil=>rw[hA,hr];rfl
 |cons z t =>
  have eA:A=t.reverse++[z]:=by rw[hA,hr,ER]
  have eL:A.length-1=t.reverse.length:=by rw[eA,Ad,AB];omega
  have:=hn z (by rw[eL,eA,AR (Ao _),Fk];rfl)
  have e2:JN (z::t) s[j]=s[j]::z::t:=by show(if s[j].1≤z.2 then _ else _)=_;rw[Aq this]
  rw[e2,eA,ER,ER]
theorem sM(A:Bc)(k:Nat)(y x:Int×Int):(A.map Ae).set k [vi y.1,vi (max y.2 x.2)]=(A.set k (y.1,max y.2 x.2)).map Ae:=by rw[NL]
set_option maxHeartbeats 4000000 in
theorem uR(l:Bc)(hl:CL l):PC 125 [sl Ae l] (sl Ae (canon l)):=by
 have hl:l.length≤1073741824:=hl;refine Ps sW Tryz.func125 rfl (Nz rfl) ?_;refine Xi {p:Nat×Bc // p.1≤l.length∧p.2.Perm (CK (l.take p.1))∧p.2.Pairwise fun a b=>a.1≤b.1} (Xi (fun p=>⟨[(0,sl Ae l),(3,sl Ae p.1.2),(4,vi p.1.1)],[],Aa⟩) (Xi (fun p=>l.length-p.1.1) (Yi (Xi ⟨(0,[]),AL _,.refl _,.nil⟩ ?_) ?_)))
 ·exact⟨Z3,Tv,Fh,Tv⟩
 intro⟨⟨i,s⟩,i1,i2,i3⟩;have i1:i≤l.length:=i1;have i2:s.Perm (CK (l.take i)):=i2;have i3:s.Pairwise fun a b=>a.1≤b.1:=i3;have Um:s.length≤i:=by rw[i2.length_eq];exact SH l i
 refine Yi (fun h=>?_) (fun h=>?_)
 ·skip
  have h:(i:Int)<(l.map Ae).length:=h;have h:i<l.length:=by simpa using h
  have hg:l[i]?=some l[i]:=Ge h;refine Xi (Ae l[i]) (Yi (Yi (Nn i) (by simp[hg])) (Yi rfl ?_));refine Xi (Ae l[i]) (Yi (Yi (Nn i) (by simp[hg])) (Yi rfl ?_));refine Yi (Nz rfl) ?_;refine Yi (by kernel_rfl) ?_;refine Xi ⟨[(0,sl Ae l),(3,sl Ae s),(4,vi i),(5,.ref 5 0)],[(5,.cells (Ae (Ee l[i])))],Aa⟩ (Yi ?_ ?_)
  ·have e0:HO.cells [vi (max 0 l[i].1),vi (min 1000000 l[i].2)]=.cells (Ae (Ee l[i])):=by
    rw[Int.max_comm,Int.min_comm];rfl
   exact⟨Z4,⟨⟨e0,rfl⟩,Tv⟩,Fh,Tv⟩
  refine Yi (fun h3=>?_) (fun h3=>?_)
  ·have h3:(Ee l[i]).2≤(Ee l[i]).1:=h3;refine Xi ⟨[(0,sl Ae l),(3,sl Ae s),(4,vi i)],[],Aa⟩ (Yi ⟨Z3,Tv,Fh,Tv⟩ ?_)
   refine Yi (Ii i (by omega)) ?_;have e:=SG h (show ¬(Ee l[i]).1<(Ee l[i]).2 by omega);refine Xi ⟨(i+1,s),by omega,by show s.Perm (CK (l.take (i+1)));rw[e];exact i2,i3⟩ ?_;exact⟨Dl l.length i (by omega),Z3,Tv,Fh,Tv⟩
  have h3:¬(Ee l[i]).2≤(Ee l[i]).1:=h3;have e:=PL h (show(Ee l[i]).1<(Ee l[i]).2 by omega);refine Xi {k:Nat // k≤s.length∧∀j (hj:j<s.length),k≤j→(Ee l[i]).1<s[j].1} (Xi (fun k=>⟨[(0,sl Ae l),(3,sl Ae s),(4,vi i),(5,.ref 5 0),(6,vi k.1)],[(5,.cells (Ae (Ee l[i])))],Aa⟩) (Xi (fun k=>k.1) (Yi (Xi ⟨s.length,Ao _,fun j hj IL=>by omega⟩ ?_) ?_)))
  ·have e1:vi ((s.map Ae).length:Int)=vi (s.length:Int):=by rw[Lm]
   exact⟨⟨Zr,Zr,Zr,Zr,⟨e1,rfl⟩,Tv⟩,Z1,Fh,Tv⟩
  intro⟨k,k1,k2⟩;refine Yi (fun h4=>?_) (fun h4=>?_)
  ·have h4:(0:Int)<k:=h4;refine Yi (show A9 ((k:Int)-1) by unfold A9;omega) ?_;have hk:k-1<s.length:=by omega
   have hg:s[k-1]?=some s[k-1]:=Ge hk;have hn:((k:Int)-1).toNat=k-1:=by omega
   refine Xi (Ae s[k-1]) (Yi (Yi (by show(0:Int)≤(k:Int)-1;omega) (by rw[hn];exact Cg hg)) (Yi rfl ?_));refine Yi (fun h5=>?_) (fun h5=>?_)
   ·have h5:(Ee l[i]).1<s[k-1].1:=h5;refine Yi (by kernel_rfl) ?_;refine Yi (show A9 ((k:Int)-1) by unfold A9;omega) ?_;have e1:vi ((k:Int)-1)=vi ((k-1:Nat):Int):=Ac vi (by omega);refine Xi ⟨k-1,by omega,fun j hj IL=>?_⟩ ?_
    ·rcases BZ j k with z | z
     ·have:j=k-1:=by omega
      subst this;exact h5
     ·exact k2 j hj z
    ·exact⟨by show k-1<k;omega,⟨Zr,Zr,Zr,Zr,⟨e1,rfl⟩,Tv⟩,Z1,Fh,Tv⟩
   have h5:¬(Ee l[i]).1<s[k-1].1:=h5;have Ik:k=0∨∃h:k-1<s.length,s[k-1].1≤(Ee l[i]).1:=.inr ⟨hk,by omega⟩;refine Yi (by kernel_rfl) ?_;refine Xi ⟨[(0,sl Ae l),(3,sl Ae s),(4,vi i),(5,.ref 5 0),(6,vi k)],[(5,.cells (Ae (Ee l[i])))],Aa⟩ (Yi ⟨Z5,Z1,Fh,Tv⟩ ?_)
   refine Yi (show(0:Int)≤0∧(0:Int)≤k∧(k:Int)=k∧(k:Int)≤((s.map Ae).length:Nat) by rw[Lm];omega) (Yi (K3 s) ?_);refine Yi (Nz rfl) ?_;refine Yi (show(0:Int)≤k∧(k:Int)≤((s.map Ae).length:Nat)∧(((s.map Ae).length:Nat):Int)≤((s.map Ae).length:Nat) by rw[Lm];omega) (Yi (K3 s) ?_);refine Yi (mP s (Ee l[i]) k (by omega)) ?_;refine Yi (mQ s (Ee l[i]) k k1 (by omega)) ?_;refine Yi (by kernel_rfl) ?_;refine Bb (show ∃t,t=s.take k++([Ee l[i]]++s.drop k)from⟨_,rfl⟩) (fun t ht=>?_);refine Xi ⟨[(0,sl Ae l),(3,sl Ae t),(4,vi i)],[],Aa⟩ (Yi ?_ ?_)
   ·have e3:AV.slice .none (QY s k++([Ae (Ee l[i])]++MC s k))=sl Ae t:=by rw[ht];exact Ac (AV.slice .none) (sI s (Ee l[i]) k)
    exact⟨⟨Zr,⟨e3,rfl⟩,Zr,Tv⟩,Tv,Fh,Tv⟩
   refine Yi (Ii i (by omega)) ?_;refine Xi ⟨(i+1,t),by omega,by show t.Perm (CK (l.take (i+1)));rw[e,ht];exact Yk s _ k i2,by show t.Pairwise _;rw[ht];exact Tw s _ k i3 k2 Ik⟩ ?_;exact⟨Dl l.length i (by omega),Z3,Tv,Fh,Tv⟩
  ·have h4:¬(0:Int)<k:=h4;have Ik:k=0∨∃h:k-1<s.length,s[k-1].1≤(Ee l[i]).1:=.inl (by omega);refine Yi (by kernel_rfl) ?_;refine Xi ⟨[(0,sl Ae l),(3,sl Ae s),(4,vi i),(5,.ref 5 0),(6,vi k)],[(5,.cells (Ae (Ee l[i])))],Aa⟩ (Yi ⟨Z5,Z1,Fh,Tv⟩ ?_)
   refine Yi (show(0:Int)≤0∧(0:Int)≤k∧(k:Int)=k∧(k:Int)≤((s.map Ae).length:Nat) by rw[Lm];omega) (Yi (K3 s) ?_);refine Yi (Nz rfl) ?_;refine Yi (show(0:Int)≤k∧(k:Int)≤((s.map Ae).length:Nat)∧(((s.map Ae).length:Nat):Int)≤((s.map Ae).length:Nat) by rw[Lm];omega) (Yi (K3 s) ?_);refine Yi (mP s (Ee l[i]) k (by omega)) ?_;refine Yi (mQ s (Ee l[i]) k k1 (by omega)) ?_;refine Yi (by kernel_rfl) ?_;refine Bb (show ∃t,t=s.take k++([Ee l[i]]++s.drop k)from⟨_,rfl⟩) (fun t ht=>?_);refine Xi ⟨[(0,sl Ae l),(3,sl Ae t),(4,vi i)],[],Aa⟩ (Yi ?_ ?_)
   ·have e3:AV.slice .none (QY s k++([Ae (Ee l[i])]++MC s k))=sl Ae t:=by rw[ht];exact Ac (AV.slice .none) (sI s (Ee l[i]) k)
    exact⟨⟨Zr,⟨e3,rfl⟩,Zr,Tv⟩,Tv,Fh,Tv⟩
   refine Yi (Ii i (by omega)) ?_;refine Xi ⟨(i+1,t),by omega,by show t.Perm (CK (l.take (i+1)));rw[e,ht];exact Yk s _ k i2,by show t.Pairwise _;rw[ht];exact Tw s _ k i3 k2 Ik⟩ ?_;exact⟨Dl l.length i (by omega),Z3,Tv,Fh,Tv⟩
 ·skip
  have h:¬(i:Int)<(l.map Ae).length:=h;have h:¬i<l.length:=by simpa using h
  have fin:(Bx s).reverse=canon l:=LJ (by rw[AC (by omega)]at i2;exact i2) i3;refine Xi ⟨[(3,sl Ae s)],[],Aa⟩ (Yi ⟨Z1,Tv,Fh,Tv⟩ ?_)
  refine Xi {p:Nat×Bc // p.1≤s.length∧p.2=(Bx (s.take p.1)).reverse} (Xi (fun p=>⟨[(3,sl Ae s),(7,.msl 63 p.1.2.length),(8,vi p.1.1)],[(63,FP p.1.2)],Aa⟩) (Xi (fun p=>s.length-p.1.1) (Yi (Xi ⟨(0,[]),AL _,rfl⟩ ?_) ?_)))
  ·exact⟨Z3,Z1,Fh,Tv⟩
  intro⟨⟨j,A⟩,j1,hA⟩;have j1:j≤s.length:=j1;have hA:A=(Bx (s.take j)).reverse:=hA;have wm:A.length≤j:=by rw[hA,Di];exact(N3 s j j1).1
  refine Yi (fun h2=>?_) (fun h2=>?_)
  ·have h2:(j:Int)<((s.map Ae).length:Int):=h2;have h2:j<s.length:=by simpa using h2
   have qc:s[j]?=some s[j]:=Ge h2;refine Xi ⟨[(3,sl Ae s),(7,.msl 63 A.length),(8,vi j),(9,vi A.length)],[(63,FP A)],Aa⟩ (Yi ⟨Z4,Z1,Fh,Tv⟩ ?_)
   refine Yi (fun h3=>?_) (fun h3=>?_)
   ·have h3:(0:Int)<A.length:=h3;have mZ:A9 ((A.length:Int)-1):=by unfold A9;omega
    have hn:((A.length:Int)-1).toNat=A.length-1:=by omega
    have Y4:(0:Int)≤(A.length:Int)-1∧(A.length:Int)-1<(A.length:Int):=by omega
    have Dy:A.length-1<A.length:=by omega
    have hg:A[A.length-1]?=some A[A.length-1]:=Ge Dy;have qd:(A.map Ae)[((A.length:Int)-1).toNat]?=some (Ae A[A.length-1]):=by rw[hn];exact Cg hg
    have xa:A.length=(A.map Ae).length:=by rw[Lm]
    have sx:(0:Int)≤j∧(s.map Ae)[((j:Nat):Int).toNat]?=some (Ae s[j]):=⟨by omega,by rw[AX];exact Cg qc⟩;refine Xi (Ae s[j]) (Yi sx (Yi rfl ?_));refine Yi mZ (Yi Y4 (Yi xa (Xi (Ae A[A.length-1]) (Yi qd ?_))));refine Yi (fun h4=>?_) (fun h4=>?_)
    ·have h4:s[j].1≤A[A.length-1].2:=h4;refine Yi (by kernel_rfl) ?_;refine Xi ⟨[(3,sl Ae s),(7,.msl 63 A.length),(8,vi j),(9,vi A.length)],[(63,FP A)],Aa⟩ (Yi ⟨Z4,Z1,Fh,Tv⟩ ?_)
     refine Yi mZ (Yi mZ (Yi Y4 (Yi xa (Xi (Ae A[A.length-1]) (Yi qd ?_)))));refine Xi (Ae s[j]) (Yi sx (Yi rfl ?_));refine Yi Y4 (Yi xa (Xi (Ae A[A.length-1]) (Yi qd (Yi (Nz rfl) ?_))));refine Yi (by kernel_rfl) ?_;refine Bb (show ∃B,B=A.set (A.length-1) (A[A.length-1].1,max A[A.length-1].2 s[j].2)from⟨_,rfl⟩) (fun B hB=>?_);have e2:HO.arr 2 ((A.map Ae).set ((A.length:Int)-1).toNat [vi A[A.length-1].1,vi (max A[A.length-1].2 s[j].2)])=FP B:=by rw[hn,hB];exact Ac (HO.arr 2) (sM A _ _ _)
     have e1:AV.msl 63 A.length=.msl 63 B.length:=by rw[hB,Gu]
     refine Xi ⟨[(3,sl Ae s),(7,.msl 63 B.length),(8,vi j)],[(63,FP B)],Aa⟩ (Yi ⟨⟨Zr,⟨e1,rfl⟩,Zr,Tv⟩,⟨⟨e2,rfl⟩,Tv⟩,Fh,Tv⟩ ?_)
     refine Yi (Ii j (by omega)) ?_;refine Xi ⟨(j+1,B),by omega,by rw[hB];exact di h2 hA hg h4⟩ ?_;exact⟨Dl s.length j (by omega),Z3,Z1,Fh,Tv⟩
    have h4:¬s[j].1≤A[A.length-1].2:=h4;have w7:A++[s[j]]=(Bx (s.take (j+1))).reverse:=Yl h2 hA fun y hy=>by
     rw[hg]at hy;rw[←Ck hy];exact h4
    refine Yi (by kernel_rfl) ?_;refine Xi ⟨[(3,sl Ae s),(7,.msl 63 A.length),(8,vi j),(9,vi A.length)],[(63,FP A)],Aa⟩ (Yi ⟨Z4,Z1,Fh,Tv⟩ ?_)
    refine Xi (Ae s[j]) (Yi sx (Yi rfl ?_));refine Yi (Nz rfl) ?_;have GL:BW 2 [Ae s[j]]∧(A.map Ae).length=A.length∧((A.map Ae).length+[Ae s[j]].length)*16≤140737488355328∧(A.map Ae).length+[Ae s[j]].length≤9223372036854775807 :=
     ⟨⟨rfl,trivial⟩,by rw[Lm],by rw[Lm,AB];omega,by rw[Lm,AB];omega⟩
    refine Yi GL ?_;refine Bb (show ∃B,B=A++[s[j]]from⟨_,rfl⟩) (fun B hB=>?_);have e1:AV.msl 63 ((A.map Ae).length+[Ae s[j]].length)=.msl 63 B.length:=by rw[hB];simp
    have e2:HO.arr 2 (A.map Ae++[Ae s[j]])=FP B:=by rw[hB];simp
    refine Xi ⟨[(3,sl Ae s),(7,.msl 63 B.length),(8,vi j)],[(63,FP B)],Aa⟩ (Yi ⟨⟨Zr,⟨e1,rfl⟩,Zr,Tv⟩,⟨⟨e2,rfl⟩,Tv⟩,Fh,Tv⟩ ?_)
    refine Yi (Ii j (by omega)) ?_;refine Xi ⟨(j+1,B),by omega,by rw[hB];exact w7⟩ ?_;exact⟨Dl s.length j (by omega),Z3,Z1,Fh,Tv⟩
   ·have h3:¬(0:Int)<A.length:=h3;have sx:(0:Int)≤j∧(s.map Ae)[((j:Nat):Int).toNat]?=some (Ae s[j]):=⟨by omega,by rw[AX];exact Cg qc⟩;have w7:A++[s[j]]=(Bx (s.take (j+1))).reverse:=Yl h2 hA fun y hy=>by
     rw[AK (by omega:A.length=0)]at hy;cases hy
    refine Yi (by kernel_rfl) ?_;refine Xi ⟨[(3,sl Ae s),(7,.msl 63 A.length),(8,vi j),(9,vi A.length)],[(63,FP A)],Aa⟩ (Yi ⟨Z4,Z1,Fh,Tv⟩ ?_)
    refine Xi (Ae s[j]) (Yi sx (Yi rfl ?_));refine Yi (Nz rfl) ?_;have GL:BW 2 [Ae s[j]]∧(A.map Ae).length=A.length∧((A.map Ae).length+[Ae s[j]].length)*16≤140737488355328∧(A.map Ae).length+[Ae s[j]].length≤9223372036854775807 :=
     ⟨⟨rfl,trivial⟩,by rw[Lm],by rw[Lm,AB];omega,by rw[Lm,AB];omega⟩
    refine Yi GL ?_;refine Bb (show ∃B,B=A++[s[j]]from⟨_,rfl⟩) (fun B hB=>?_);have e1:AV.msl 63 ((A.map Ae).length+[Ae s[j]].length)=.msl 63 B.length:=by rw[hB];simp
    have e2:HO.arr 2 (A.map Ae++[Ae s[j]])=FP B:=by rw[hB];simp
    refine Xi ⟨[(3,sl Ae s),(7,.msl 63 B.length),(8,vi j)],[(63,FP B)],Aa⟩ (Yi ⟨⟨Zr,⟨e1,rfl⟩,Zr,Tv⟩,⟨⟨e2,rfl⟩,Tv⟩,Fh,Tv⟩ ?_)
    refine Yi (Ii j (by omega)) ?_;refine Xi ⟨(j+1,B),by omega,by rw[hB];exact w7⟩ ?_;exact⟨Dl s.length j (by omega),Z3,Z1,Fh,Tv⟩
  ·have h2:¬(j:Int)<((s.map Ae).length:Int):=h2;have h2:¬j<s.length:=by simpa using h2
   refine Yi (by rw[Lm]) ?_;exact .of_eq (Ac (sl Ae) (show A=canon l by rw[hA,AC (by omega)];exact fin))
theorem kS:qy:=uR
end Go.Eng

namespace Go.Eng
open Go.Proofs
end Go.Eng

namespace Go.Eng
open Go.Proofs
end Go.Eng

namespace Go.Eng
open Go.Proofs
end Go.Eng

namespace Go.Eng
open Go.Proofs
theorem nV(s:ByteArray):PC 175 [vs s] (vb (DS s)):=by
 refine Ps EP Tryz.func175 rfl (Nz rfl) ?_;refine Yi (fun h=>?_) (fun h=>?_)
 ·have h:((s.size:Nat):Int)=0:=h;exact .of_eq (Ac vb (show true=DS s by unfold DS;rw[Av (by omega:s.size=0)];rfl))
 have h:¬((s.size:Nat):Int)=0:=h;refine Yi (fun h2=>?_) (fun h2=>?_)
 ·have h2:((s.size:Nat):Int)=32:=h2;exact .of_eq (Ac vb (show true=DS s by unfold DS;rw[Av (by omega:s.size=32),Uo]))
 have h2:¬((s.size:Nat):Int)=32:=h2;exact .of_eq (Ac vb (show false=DS s by unfold DS;rw[Au (by omega:¬s.size=0),Au (by omega:¬s.size=32)];rfl))
def IV(v:Ver):Nat→Int
 |0=>v.a
 |1=>v.b
 |_=>v.c
abbrev Oj(v:Ver):List (List AV):=[[vi v.a],[vi v.b],[vi v.c]]
theorem Pq(v:Ver)(i:Nat)(h:i<3):(Oj v)[((i:Nat):Int).toNat]?=some [vi (IV v i)]:=by
 rw[AX]
 match i,h with
 |0,_=>rfl
 |1,_=>rfl
 |2,_=>rfl
theorem fQ(a b:Ver)(i:Nat)(hi:i<3)(h:∀j,j<i→IV a j=IV b j)(hl:IV a i<IV b i):I8 a b=-1:=by
 match i,hi,h,hl with
 |0,_,h,hl =>
  have hl:a.a<b.a:=hl;unfold I8 FD;simp[hl]
 |1,_,h,hl =>
  have hl:a.b<b.b:=hl;have h0:a.a=b.a:=h 0 (by omega);unfold I8 FD;simp[hl,h0]
 |2,_,h,hl =>
  have hl:a.c<b.c:=hl;have h0:a.a=b.a:=h 0 (by omega);have h1:a.b=b.b:=h 1 (by omega);unfold I8 FD;simp[hl,h0,h1]
theorem fP(a b:Ver)(i:Nat)(hi:i<3)(h:∀j,j<i→IV a j=IV b j)(hl:IV b i<IV a i):I8 a b=1:=by
 match i,hi,h,hl with
 |0,_,h,hl =>
  have hl:b.a<a.a:=hl;have hn:¬a.a<b.a:=by omega
  unfold I8 FD;simp[hl,hn]
 |1,_,h,hl =>
  have hl:b.b<a.b:=hl;have hn:¬a.b<b.b:=by omega
  have h0:a.a=b.a:=h 0 (by omega);unfold I8 FD;simp[hl,hn,h0]
 |2,_,h,hl =>
  have hl:b.c<a.c:=hl;have hn:¬a.c<b.c:=by omega
  have h0:a.a=b.a:=h 0 (by omega);have h1:a.b=b.b:=h 1 (by omega);unfold I8 FD;simp[hl,hn,h0,h1]
theorem fO(a b:Ver)(h:∀j,j<3→IV a j=IV b j):I8 a b=0:=by
 have h0:a.a=b.a:=h 0 (by omega);have h1:a.b=b.b:=h 1 (by omega);have h2:a.c=b.c:=h 2 (by omega);unfold I8 FD;simp[h0,h1,h2]
theorem u9(a b:Ver):PC 176 [.agg (Gl a),.agg (Gl b)] (vi (I8 a b)):=by
 refine Ps (Ia [3,5]) Tryz.func176 rfl (Nz rfl) ?_;refine Xi ⟨[(5,.slice (.id 14 1) (Oj a)),(6,.slice (.id 21 1) (Oj b))],[(14,.tok 1 3),(21,.tok 1 3)],Aa⟩ (Yi ⟨Z2,Z2,Fh,Tv⟩ ?_)
 refine Xi {i:Nat // i≤3∧∀j,j<i→IV a j=IV b j} (Xi (fun i=>⟨[(5,.slice (.id 14 1) (Oj a)),(6,.slice (.id 21 1) (Oj b)),(7,vi i.1)],[(14,.tok 1 3),(21,.tok 1 3)],Aa⟩) (Xi (fun i=>3-i.1) (Yi (Xi ⟨0,AL _,fun j h=>by omega⟩ ?_) ?_)))
 ·exact⟨Z3,Z2,Fh,Tv⟩
 intro⟨i,i1,i2⟩;refine Yi (fun h=>?_) (fun h=>?_)
 ·have h:(i:Int)<3:=h;have h:i<3:=by omega
  refine Xi [vi (IV a i)] (Yi (Yi (Nn i) (Pq a i h)) (Yi rfl ?_));refine Xi [vi (IV b i)] (Yi (Yi (Nn i) (Pq b i h)) (Yi rfl ?_));refine Yi (fun h2=>?_) (fun h2=>?_)
  ·have h2:IV a i<IV b i:=h2;refine Yi (by kernel_rfl) ?_;exact .of_eq (Ac vi (fQ a b i h i2 h2).symm)
  have h2:¬IV a i<IV b i:=h2;refine Yi (by kernel_rfl) ?_;refine Xi [vi (IV a i)] (Yi (Yi (Nn i) (Pq a i h)) (Yi rfl ?_));refine Xi [vi (IV b i)] (Yi (Yi (Nn i) (Pq b i h)) (Yi rfl ?_));refine Yi (fun h3=>?_) (fun h3=>?_)
  ·have h3:IV b i<IV a i:=h3;refine Yi (by kernel_rfl) ?_;exact .of_eq (Ac vi (fP a b i h i2 h3).symm)
  have h3:¬IV b i<IV a i:=h3;refine Yi (by kernel_rfl) ?_;refine Xi ⟨[(5,.slice (.id 14 1) (Oj a)),(6,.slice (.id 21 1) (Oj b)),(7,vi i)],[(14,.tok 1 3),(21,.tok 1 3)],Aa⟩ (Yi ⟨Z3,Z2,Fh,Tv⟩ ?_)
  refine Yi (Ii i (by omega)) ?_;refine Xi ⟨i+1,by omega,fun j hj=>?_⟩ ?_
  ·rcases BZ j i with z | z
   ·exact i2 j z
   ·have:j=i:=by omega
    subst this;omega
  exact⟨Dl 3 i (by omega),Z3,Z2,Fh,Tv⟩
 ·have h:¬(i:Int)<3:=h;exact .of_eq (Ac vi (fO a b fun j hj=>i2 j (by omega)).symm)
theorem uP(a b:Rl):PC 122 [.agg (AY a),.agg (AY b)] (vi (IA a b)):=by
 have hc:=u9 a.ver b.ver;refine Ps EP Tryz.func122 rfl (Nz rfl) ?_;refine Yi (fun h=>?_) (fun h=>?_)
 ·have h:Op.bytesLess a.path.toList b.path.toList=true:=h;exact .of_eq (Ac vi (show(-1:Int)=IA a b by unfold IA LY;rw[Ax (show EN a.path b.path=true by rw[Fm];exact h)];rfl))
 have h:¬Op.bytesLess a.path.toList b.path.toList=true:=h;refine Yi (fun h2=>?_) (fun h2=>?_)
 ·have h2:Op.bytesLess b.path.toList a.path.toList=true:=h2;exact .of_eq (Ac vi (show(1:Int)=IA a b by unfold IA LY;rw[Aq (show ¬EN a.path b.path=true by rw[Fm];exact h),Ax (show EN b.path a.path=true by rw[Fm];exact h2)];rfl))
 have h2:¬Op.bytesLess b.path.toList a.path.toList=true:=h2;refine Yi (Nz rfl) (Yi (Nz rfl) ?_);refine Xi .pure (Xi _ (Yi (hc) ?_));exact .of_eq (Ac vi (show I8 a.ver b.ver=IA a b by unfold IA LY;rw[Aq (show ¬EN a.path b.path=true by rw[Fm];exact h),Aq (show ¬EN b.path a.path=true by rw[Fm];exact h2)];rfl))
end Go.Eng
