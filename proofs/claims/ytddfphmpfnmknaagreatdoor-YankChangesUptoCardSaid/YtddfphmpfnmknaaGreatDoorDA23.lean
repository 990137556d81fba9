/- Lemmas for the claims of this seat, without a condition: part 23 (R3, R4, R5, C60, C61, C62, C63, C64, R6, R7, R8, R9, R10). -/
import Derived.Test.YtddfphmpfnmknaaGreatDoorDA22
namespace Go.Eng
open Go.Proofs
theorem je{s:ByteArray}:G6 s.data.toList=(s.data.toList.all Nc&&Gr s.data.toList):=by
 unfold G6;rw[Bool.and_comm]
theorem vI(s:ByteArray)(hs:s.data.toList.length<4611686018427387904):PC 223 [vs s] (vb (G6 s.data.toList)):=by
 have Eh:s.size=s.data.toList.length:=by simp
 have wi:=vP s hs;rw[je];refine Ps E4 Tryz.func223 rfl (Nz rfl) ?_;refine Xi {i:Nat // i≤s.data.toList.length∧∀j (hj:j<s.data.toList.length),j<i→Nc s.data.toList[j]=true} (Xi (fun i=>⟨[(0,vs s),(3,vi i.1)],[],Aa⟩) (Xi (fun i=>s.data.toList.length-i.1) (Yi (Xi ⟨0,AD _,fun j _ h=>by omega⟩ ?_) ?_)))
 ·exact⟨Z2,Tv,Fh,Tv⟩
 intro⟨i,h1,h2⟩;refine Yi ?_ ?_
 ·intro h;have h:(i:Int)<(s.size:Nat):=h;have h:i<s.data.toList.length:=by omega
  have RI:(0:Int)≤i∧s.data[((i:Nat):Int).toNat]?=some s.data.toList[i]:=⟨by omega,by rw[Bj];exact MF s i h⟩;have nx:Nc s.data.toList[i]=true→∀j (hj:j<s.data.toList.length),j<i+1→Nc s.data.toList[j]=true:=fun e j hj Je=>by
   rcases B7 j i with z | z
   ·exact h2 j hj z
   ·have:j=i:=by omega
    subst this;exact e
  refine Xi s.data.toList[i] (Yi RI ?_);have h3:=nM s.data.toList[i];have h4:=kc s.data.toList[i];refine BT (Bt (EG s.data.toList[i])) (fun e=>?_) (fun e=>?_)
  ·rw[e]at h3;refine Xi .pure (Xi _ (Yi (h3) ?_));refine Yi (Ii i (by omega)) ?_;refine Xi ⟨i+1,by omega,nx (by unfold Nc;rw[e];rfl)⟩ ?_;exact⟨Dl s.data.toList.length i (by omega),Z2,Tv,Fh,Tv⟩
  rw[e]at h3;refine Xi .pure (Xi _ (Yi (h3) ?_));refine Xi s.data.toList[i] (Yi RI ?_);refine BT (Bt (CA s.data.toList[i])) (fun e2=>?_) (fun e2=>?_)
  ·rw[e2]at h4;refine Xi .pure (Xi _ (Yi (h4) ?_));refine Yi (Ii i (by omega)) ?_;refine Xi ⟨i+1,by omega,nx (by unfold Nc;rw[e2,Uv])⟩ ?_;exact⟨Dl s.data.toList.length i (by omega),Z2,Tv,Fh,Tv⟩
  rw[e2]at h4;refine Xi .pure (Xi _ (Yi (h4) ?_));have er:s.data.toList.all Nc=false:=by
   rw[AK];intro ha
   have:=AY.1 ha _ (At h)
   unfold Nc at this;rw[e,e2]at this;cases this
  exact .of_eq (Ac vb (by rw[er];rfl))
 ·intro h;have h:¬(i:Int)<(s.size:Nat):=h;have er:s.data.toList.all Nc=true:=AY.2 fun c hc=>by
   obtain⟨j,hj,rfl⟩:=BU hc;exact h2 j hj (by omega)
  refine Xi .pure (Xi _ (Yi (wi) ?_));exact .of_eq (Ac vb (by rw[er];rfl))
abbrev UP:Option Int→AV
 |some n=>vi n
 |none=>vi (-1)
theorem vJ(s:ByteArray)(hs:s.data.toList.length<4611686018427387904):PC 224 [vs s] (UP (Gq s.data.toList)):=by
 have Eh:s.size=s.data.toList.length:=by simp
 refine Ps (Hv [3]) Tryz.func224 rfl (Nz rfl) ?_;refine Yi (fun h=>?_) (fun h=>?_)
 ·have h:((s.size:Nat):Int)<2:=h;exact .of_eq (Ac UP (show(none:Option Int)=Gq s.data.toList by
   cases hs:s.data.toList with
   |nil=>rfl
   |cons c r =>
    cases r with
    |nil=>unfold Gq;simp
    |cons d r=>rw[hs]at Eh;simp only[Az]at Eh;omega))
 have h:¬((s.size:Nat):Int)<2:=h;refine Br (show ∃c r,s.data.toList=c::r by
  cases e:s.data.toList with
  |nil=>rw[e]at Eh;simp only[AJ]at Eh;omega
  |cons c l=>exact⟨c,l,rfl⟩) (fun c hc=>?_)
 refine Br hc (fun r eh=>?_);have WP:s.size=r.length+1:=by rw[Eh,eh];rfl
 have xv:Gq s.data.toList=if c=118 then(if(r.isEmpty||decide (3<r.length)||(decide (1<r.length)&&decide (r.headD 0=48))||!r.all CA)=true then none else some (DY r))else none:=by rw[eh];rfl
 refine Yi (fun h2=>?_) (fun h2=>?_)
 ·have h2:(4:Int)<((s.size:Nat):Int):=h2;exact .of_eq (Ac UP (show(none:Option Int)=Gq s.data.toList by rw[xv,Ar (by omega:3<r.length)];simp))
 have h2:¬(4:Int)<((s.size:Nat):Int):=h2;refine Xi c (Yi ⟨by decide,by show s.data[(0:Int).toNat]?=_;rw[←AR,eh];rfl⟩ ?_);refine Yi (fun h3=>?_) (fun h3=>?_)
 ·have h3:¬(c.toNat:Int)=118:=h3;have h3:¬c=118:=fun e=>h3 (by rw[e];rfl);exact .of_eq (Ac UP (show(none:Option Int)=Gq s.data.toList by rw[xv,Aj h3]))
 have h3:¬¬(c.toNat:Int)=118:=h3;have h3:(c.toNat:Int)=118:=BV.1 h3;have h3:c=118:=Gy.1 (by show c.toNat=118;omega);have hr:s.data.toList=118::r:=by rw[eh,h3]
 have hv:Gq s.data.toList=if(r.isEmpty||decide (3<r.length)||(decide (1<r.length)&&decide (r.headD 0=48))||!r.all CA)=true then none else some (DY r):=by rw[xv,Ap h3]
 have CB:0<r.length:=by omega
 have Qb:r.isEmpty=false:=by
  cases hl:r with
  |nil=>rw[hl]at CB;exact absurd CB (by decide)
  |cons a l=>rfl
 have rS:r.length≤3:=by omega
 have d3:decide (3<r.length)=false:=Ao (by omega);have z0:DY (r.take 0)=0:=rfl;have hh:=NS r CB;refine Xi r[0] (Yi ⟨by decide,by show s.data[(1:Int).toNat]?=_;rw[←AR,eh];show r[0]?=_;exact Ge CB⟩ ?_);refine Yi (fun h4=>?_) (fun h4=>?_)
 ·have h4:(r[0].toNat:Int)=48:=h4;have h4:r[0]=48:=Gy.1 (by show r[0].toNat=48;omega);refine Yi (fun h5=>?_) (fun h5=>?_)
  ·have h5:(2:Int)<((s.size:Nat):Int):=h5;exact .of_eq (Ac UP (show(none:Option Int)=Gq s.data.toList by rw[hv,hh,h4,Ar (by omega:1<r.length)];simp))
  have h5:¬(2:Int)<((s.size:Nat):Int):=h5;have eo:(decide (1<r.length)&&decide (r.headD 0=48))=false:=by rw[Ao (by omega:¬1<r.length)];rfl
  refine Xi ⟨[(0,vs s)],[],Aa⟩ (Yi ⟨Z1,Tv,Fh,Tv⟩ ?_)
  refine Xi {i:Nat // i≤r.length∧(∀j (hj:j<r.length),j<i→CA r[j]=true)∧0≤DY (r.take i)∧(i=0→DY (r.take i)≤0)∧(i≤1→DY (r.take i)≤9)∧(i≤2→DY (r.take i)≤99)∧DY (r.take i)≤999} (Xi (fun i=>⟨[(0,vs s),(3,vi (DY (r.take i.1))),(4,vi (1+(i.1:Int)))],[],Aa⟩) (Xi (fun i=>r.length-i.1) (Yi (Xi ⟨0,AD _,fun j _ h=>by omega,by omega,fun _=>by omega,fun _=>by omega,fun _=>by omega,by omega⟩ ?_) ?_)))
  ·exact⟨Z3,Tv,Fh,Tv⟩
  intro⟨i,i1,i0,i2,i3,i4,i5,i6⟩;refine Yi ?_ ?_
  ·intro h;have h:1+(i:Int)<(s.size:Nat):=h;have h:i<r.length:=by omega
   have RI:(0:Int)≤1+(i:Int)∧s.data[(1+(i:Int)).toNat]?=some r[i]:=⟨by omega,by rw[show(1+(i:Int)).toNat=i+1 by omega,←AR,hr,Ez];exact Ge h⟩;refine Xi r[i] (Yi RI ?_);have hc:=kc r[i];refine BT (Bt (CA r[i])).symm (fun e=>?_) (fun e=>?_)
   ·rw[e]at hc;refine Xi .pure (Xi _ (Yi (hc) ?_));have F6:r.all CA=false:=by
     rw[AK];intro ha
     have:=AY.1 ha _ (At h)
     rw[e]at this;cases this
    exact .of_eq (Ac UP (show(none:Option Int)=Gq s.data.toList by rw[hv,F6];simp))
   rw[e]at hc;refine Xi .pure (Xi _ (Yi (hc) ?_));have my:=Ji e;have jJ:=KQ r i h;have ZK:IntKind.u8.wrap ((r[i].toNat:Int)-48)=(r[i].toNat:Int)-48:=Sm (by omega) (by omega);refine Yi (by show Bi (10*DY (r.take i));unfold Bi;omega) ?_;refine Xi r[i] (Yi RI ?_);refine Yi (by show Bi (IntKind.u8.wrap ((r[i].toNat:Int)-48));rw[ZK];unfold Bi;omega) ?_;refine Yi (by show Bi (10*DY (r.take i)+IntKind.u8.wrap ((r[i].toNat:Int)-48));rw[ZK];unfold Bi;omega) ?_;refine Yi (by show Bi (1+(i:Int)+1);unfold Bi;omega) ?_;have e5:vi (10*DY (r.take i)+IntKind.u8.wrap ((r[i].toNat:Int)-48))=vi (DY (r.take (i+1))):=by rw[ZK,jJ]
   have e6:vi (1+(i:Int)+1)=vi (1+((i+1:Nat):Int)):=Ac vi (by omega);refine Xi ⟨i+1,by omega,fun j hj Je=>?_,by omega,fun _=>by omega,fun _=>by omega,fun _=>by omega,by omega⟩ ?_
   ·rcases B7 j i with z | z
    ·exact i0 j hj z
    ·have:j=i:=by omega
     subst this;exact e
   ·exact⟨Dl r.length i (by omega),⟨Zr,⟨e5,rfl⟩,⟨e6,rfl⟩,Tv⟩,Tv,Fh,Tv⟩
  ·intro h;have h:¬1+(i:Int)<(s.size:Nat):=h;have e3:r.all CA=true:=AY.2 fun c hc=>by
    obtain⟨j,hj,rfl⟩:=BU hc;exact i0 j hj (by omega)
   have e6:vi (DY (r.take i))=UP (Gq s.data.toList):=by rw[hv,Qb,d3,eo,e3,Aw (by omega)];rfl
   exact .of_eq e6
 have h4:¬(r[0].toNat:Int)=48:=h4;have eo:(decide (1<r.length)&&decide (r.headD 0=48))=false:=by rw[hh,Ao (show ¬r[0]=48 from fun e=>h4 (by rw[e];rfl)),Di]
 refine Xi ⟨[(0,vs s)],[],Aa⟩ (Yi ⟨Z1,Tv,Fh,Tv⟩ ?_)
 refine Xi {i:Nat // i≤r.length∧(∀j (hj:j<r.length),j<i→CA r[j]=true)∧0≤DY (r.take i)∧(i=0→DY (r.take i)≤0)∧(i≤1→DY (r.take i)≤9)∧(i≤2→DY (r.take i)≤99)∧DY (r.take i)≤999} (Xi (fun i=>⟨[(0,vs s),(3,vi (DY (r.take i.1))),(4,vi (1+(i.1:Int)))],[],Aa⟩) (Xi (fun i=>r.length-i.1) (Yi (Xi ⟨0,AD _,fun j _ h=>by omega,by omega,fun _=>by omega,fun _=>by omega,fun _=>by omega,by omega⟩ ?_) ?_)))
 ·exact⟨Z3,Tv,Fh,Tv⟩
 intro⟨i,i1,i0,i2,i3,i4,i5,i6⟩;refine Yi ?_ ?_
 ·intro h;have h:1+(i:Int)<(s.size:Nat):=h;have h:i<r.length:=by omega
  have RI:(0:Int)≤1+(i:Int)∧s.data[(1+(i:Int)).toNat]?=some r[i]:=⟨by omega,by rw[show(1+(i:Int)).toNat=i+1 by omega,←AR,hr,Ez];exact Ge h⟩;refine Xi r[i] (Yi RI ?_);have hc:=kc r[i];refine BT (Bt (CA r[i])).symm (fun e=>?_) (fun e=>?_)
  ·rw[e]at hc;refine Xi .pure (Xi _ (Yi (hc) ?_));have F6:r.all CA=false:=by
    rw[AK];intro ha
    have:=AY.1 ha _ (At h)
    rw[e]at this;cases this
   exact .of_eq (Ac UP (show(none:Option Int)=Gq s.data.toList by rw[hv,F6];simp))
  rw[e]at hc;refine Xi .pure (Xi _ (Yi (hc) ?_));have my:=Ji e;have jJ:=KQ r i h;have ZK:IntKind.u8.wrap ((r[i].toNat:Int)-48)=(r[i].toNat:Int)-48:=Sm (by omega) (by omega);refine Yi (by show Bi (10*DY (r.take i));unfold Bi;omega) ?_;refine Xi r[i] (Yi RI ?_);refine Yi (by show Bi (IntKind.u8.wrap ((r[i].toNat:Int)-48));rw[ZK];unfold Bi;omega) ?_;refine Yi (by show Bi (10*DY (r.take i)+IntKind.u8.wrap ((r[i].toNat:Int)-48));rw[ZK];unfold Bi;omega) ?_;refine Yi (by show Bi (1+(i:Int)+1);unfold Bi;omega) ?_;have e5:vi (10*DY (r.take i)+IntKind.u8.wrap ((r[i].toNat:Int)-48))=vi (DY (r.take (i+1))):=by rw[ZK,jJ]
  have e6:vi (1+(i:Int)+1)=vi (1+((i+1:Nat):Int)):=Ac vi (by omega);refine Xi ⟨i+1,by omega,fun j hj Je=>?_,by omega,fun _=>by omega,fun _=>by omega,fun _=>by omega,by omega⟩ ?_
  ·rcases B7 j i with z | z
   ·exact i0 j hj z
   ·have:j=i:=by omega
    subst this;exact e
  ·exact⟨Dl r.length i (by omega),⟨Zr,⟨e5,rfl⟩,⟨e6,rfl⟩,Tv⟩,Tv,Fh,Tv⟩
 ·intro h;have h:¬1+(i:Int)<(s.size:Nat):=h;have e3:r.all CA=true:=AY.2 fun c hc=>by
   obtain⟨j,hj,rfl⟩:=BU hc;exact i0 j hj (by omega)
  have e6:vi (DY (r.take i))=UP (Gq s.data.toList):=by rw[hv,Qb,d3,eo,e3,Aw (by omega)];rfl
  exact .of_eq e6
abbrev Y4(l:List UInt8):List ByteArray:=(CH 47 l).map bs
def VK:List (List UInt8)→UInt8→List (List UInt8)
 | [],_=>[]
 | [x],b=>[x++[b]]
 |x::l,b=>x::VK l b
theorem KY(c:UInt8)(s:List UInt8):CH c s≠[]:=by
 cases s with
 |nil=>rw[CH];exact Sr _ _
 |cons b r =>
  rw[CH];split
  ·exact Sr _ _
  ·split<;>exact Sr _ _
theorem Un(c:UInt8):∀s:List UInt8,CH c (s++[c])=CH c s++[[]]
 | []=>by simp[CH]
 |b::r=>by
  rw[D4,CH,Un c r,CH]
  by_cases e:b=c
  ·rw[Ap e,Ap e];rfl
  ·rw[Aj e,Aj e];cases h:CH c r with
   |nil=>exact absurd h (KY c r)
   |cons x l=>rfl
theorem T7(x:List UInt8){l:List (List UInt8)}(b:UInt8)(h:l≠[]):VK (x::l) b=x::VK l b:=by
 cases l with
 |nil=>exact absurd rfl h
 |cons y l=>rfl
theorem RB(c b:UInt8)(hb:b≠c):∀s:List UInt8,CH c (s++[b])=VK (CH c s) b
 | []=>by simp[CH,hb,VK]
 |a::r=>by
  rw[D4,CH,RB c b hb r,CH]
  by_cases e:a=c
  ·rw[Ap e,Ap e,T7 _ _ (KY c r)]
  ·rw[Aj e,Aj e];cases h:CH c r with
   |nil=>exact absurd h (KY c r)
   |cons x l =>
    cases l with
    |nil=>rfl
    |cons y l=>rfl
theorem VL(b:UInt8):∀(l:List (List UInt8)) (x:List UInt8),l[l.length-1]?=some x→l.set (l.length-1) (x++[b])=VK l b
 | [],_,h=>by cases h
 | [y],x,h=>by
  have h:some y=some x:=h;rw[Ca h];rfl
 |y::z::l,x,h=>by
  have h:(z::l)[(z::l).length-1]?=some x:=h;rw[T7 y b (Sr _ _),←VL b (z::l) x h];rfl
theorem Um(c:UInt8)(s:List UInt8):(CH c s).length≤s.length+1:=by
 induction s with
 |nil=>rw[CH];exact Al _
 |cons b r ih =>
  rw[CH,Az];split
  ·rw[Az];omega
  ·split
   ·simp
   ·rename_i x l e;rw[e,Az]at ih;rw[Az];omega
abbrev sO:RE:=⟨[],[],[(5,1)],[],[],[],[],[],[],[(36,3)],[4]⟩
theorem iL{l:List UInt8}{c:UInt8}(hc:c≠47){x:ByteArray}(h:(Y4 l)[(Y4 l).length-1]?=some x):(Y4 l).set ((Y4 l).length-1) (x++bs [c])=Y4 (l++[c]):=by
 have h2:=h;rw[AI,Lm]at h;obtain⟨y,hy,e⟩:=AU.1 h;subst e;show _=(CH 47 (l++[c])).map bs;rw[RB 47 c hc l,←VL c (CH 47 l) y hy,EQ,Lm]
 congr 1
theorem vH(s:ByteArray)(hs:F0 s):PC 222 [vs s] (sl EH (Y4 s.data.toList)):=by
 unfold F0 at hs;have Eh:s.size=s.data.toList.length:=by simp
 refine Ps sO Tryz.func222 rfl (Nz rfl) ?_;refine Xi {p:Nat×List ByteArray // p.1≤s.data.toList.length∧p.2=Y4 (s.data.toList.take p.1)} (Xi (fun p=>⟨[(0,vs s),(3,.msl 5 p.1.2.length),(4,vi p.1.1)],[(5,.arr 1 (p.1.2.map EH))],Aa⟩) (Xi (fun p=>s.data.toList.length-p.1.1) (Yi (Xi ⟨(0,[bs []]),AD _,rfl⟩ ?_) ?_)))
 ·exact⟨Z3,Z1,Fh,Tv⟩
 intro⟨⟨i,A⟩,h1,hA⟩;have h1:i≤s.data.toList.length:=h1;have hA:A=Y4 (s.data.toList.take i):=hA;have r8:A.length≤i+1:=by
  have:=Um 47 (s.data.toList.take i)
  rw[AC]at this;rw[hA,Lm];omega
 have jM:0<A.length:=by
  rw[hA,Lm];exact GY.2 (KY 47 _)
 refine Yi (fun h=>?_) (fun h=>?_)
 ·have h:(i:Int)<(s.size:Nat):=h;have h:i<s.data.toList.length:=by omega
  have RI:(0:Int)≤i∧s.data[((i:Nat):Int).toNat]?=some s.data.toList[i]:=⟨by omega,by rw[Bj];exact MF s i h⟩;have qb:s.data.toList.take (i+1)=s.data.toList.take i++[s.data.toList[i]]:=by rw[Bk,Ge h];rfl
  refine Xi s.data.toList[i] (Yi RI ?_);refine Yi (fun h2=>?_) (fun h2=>?_)
  ·have h2:(s.data.toList[i].toNat:Int)=47:=h2;have h2:s.data.toList[i]=47:=Gy.1 (by show s.data.toList[i].toNat=47;omega);have Gv:CQ 1 [[vs (bs [])]]∧(A.map EH).length=A.length∧((A.map EH).length+[[vs (bs [])]].length)*16≤140737488355328∧(A.map EH).length+[[vs (bs [])]].length≤9223372036854775807 :=
    ⟨⟨rfl,trivial⟩,by rw[Lm],by rw[Lm,AG];omega,by rw[Lm,AG];omega⟩
   refine Yi Gv ?_;refine Xi ⟨[(0,vs s),(3,.msl 5 (A++[bs []]).length),(4,vi i)],[(5,.arr 1 ((A++[bs []]).map EH))],Aa⟩ (Yi ?_ ?_)
   ·have e1:AV.msl 5 ((A.map EH).length+[[vs (bs [])]].length)=.msl 5 (A++[bs []]).length:=by simp
    have e2:HO.arr 1 (A.map EH++[[vs (bs [])]])=.arr 1 ((A++[bs []]).map EH):=by rw[Ay];rfl
    exact⟨⟨Zr,⟨e1,rfl⟩,Zr,Tv⟩,⟨⟨e2,rfl⟩,Tv⟩,Fh,Tv⟩
   refine Yi (Ii i (by omega)) ?_;have eA:A++[bs []]=Y4 (s.data.toList.take (i+1)):=by
    rw[hA,qb,h2];show _=(CH 47 _).map bs;rw[Un,Ay];rfl
   refine Xi ⟨(i+1,A++[bs []]),by omega,eA⟩ ?_;exact⟨Dl s.data.toList.length i (by omega),Z3,Z1,Fh,Tv⟩
  have h2:¬(s.data.toList[i].toNat:Int)=47:=h2;have h2:s.data.toList[i]≠47:=fun e=>h2 (by rw[e];rfl);have mB:Bi ((A.length:Int)-1):=by unfold Bi;omega
  have DB:A.length-1<A.length:=by omega
  have hn:((A.length:Int)-1).toNat=A.length-1:=by omega
  have hg:A[A.length-1]?=some A[A.length-1]:=Ge DB;have rG:F0 A[A.length-1]:=by
   have kN:∀x∈A,x∈Y4 (s.data.toList.take i):=fun x hx=>hA▸hx;obtain⟨y,hy,e⟩:=Am.1 (kN _ (At DB));have h5:=Lt 47 _ y hy;rw[AC]at h5;unfold F0;rw[←e,show(bs y).size=y.length from rfl];omega
  have RN:((A[A.length-1].size+(⟨[s.data.toList[i]].toArray⟩:ByteArray).size:Nat):Int)≤9223372036854775807:=by
   unfold F0 at rG
   have:(⟨[s.data.toList[i]].toArray⟩:ByteArray).size=1:=rfl
   omega
  refine Yi mB (Yi mB ?_);refine Yi (show(0:Int)≤(A.length:Int)-1∧(A.length:Int)-1<(A.length:Int) by omega) ?_;refine Yi (by rw[Lm]) ?_;have p5:(A.map EH)[((A.length:Int)-1).toNat]?=some (EH A[A.length-1]):=by rw[hn];exact CC hg
  refine Xi (EH A[A.length-1]) (Yi p5 ?_);refine Xi s.data.toList[i] (Yi RI ?_);refine Xi [s.data.toList[i]] (Yi rfl ?_);refine Yi RN ?_;refine Yi (show(0:Int)≤(A.length:Int)-1∧(A.length:Int)-1<(A.length:Int) by omega) ?_;refine Yi (by rw[Lm]) ?_;refine Xi (EH A[A.length-1]) (Yi p5 (Yi (Nz rfl) ?_));refine Yi (by kernel_rfl) ?_;refine Br (show ∃B,B=A.set (A.length-1) (A[A.length-1]++bs [s.data.toList[i]])from⟨_,rfl⟩) (fun B hB=>?_);have gq:B.length=A.length:=by rw[hB,Cy]
  have e2:HO.arr 1 ((A.map EH).set ((A.length:Int)-1).toNat [vs (A[A.length-1]++⟨[s.data.toList[i]].toArray⟩)])=.arr 1 (B.map EH):=by rw[hn,hB,EQ];rfl
  refine Xi ⟨[(0,vs s),(3,.msl 5 B.length),(4,vi i)],[(5,.arr 1 (B.map EH))],Aa⟩ (Yi ⟨⟨Zr,⟨Ac (AV.msl 5) gq.symm,rfl⟩,Zr,Tv⟩,⟨⟨e2,rfl⟩,Tv⟩,Fh,Tv⟩ ?_)
  refine Yi (Ii i (by omega)) ?_;have eB:B=Y4 (s.data.toList.take (i+1)):=by
   rw[qb,hB];subst hA;exact iL h2 hg
  refine Xi ⟨(i+1,B),by omega,eB⟩ ?_;exact⟨Dl s.data.toList.length i (by omega),Z3,Z1,Fh,Tv⟩
 ·have h:¬(i:Int)<(s.size:Nat):=h;refine Yi (by rw[Lm]) ?_;exact .of_eq (Ac (sl EH) (show A=Y4 s.data.toList by rw[hA,Aw (by omega)]))
theorem Y0{s:List UInt8}{n:Int}(h:Gq s=some n):0≤n:=by
 cases s with
 |nil=>unfold Gq at h;cases h
 |cons c r =>
  have h:(if c=118 then(if(r.isEmpty||decide (3<r.length)||(decide (1<r.length)&&decide (r.headD 0=48))||!r.all CA)=true then none else some (DY r))else none)=some n:=h
  by_cases hc:c=118
  ·rw[Ap hc]at h
   by_cases hb:(r.isEmpty||decide (3<r.length)||(decide (1<r.length)&&decide (r.headD 0=48))||!r.all CA)=true
   ·rw[Ap hb]at h;cases h
   ·rw[Aj hb]at h;have ha:r.all CA=true:=by
     cases hr:r.all CA
     ·rw[hr]at hb;simp at hb
     ·rfl
    rw[←Ca h]
    suffices hh:∀i,i≤r.length→0≤DY (r.take i) by
     have:=hh r.length (Al _)
     rwa [DM]at this
    intro i
    induction i with
    |zero=>intro _;exact BJ _
    |succ i ih =>
     intro hi;have hd:=Ji (AY.1 ha _ (At (show i<r.length by omega)))
     have:=ih (by omega)
     rw[KQ r i (by omega)];omega
  ·rw[Aj hc]at h;cases h
theorem iK{l:List UInt8}{x:ByteArray}(h:(Y4 l)[(Y4 l).length-1]?=some x):(CH 47 l).getLastD []=x.data.toList:=by
 rw[Lm,AI,←List.getLast?_eq_getElem?]at h;obtain⟨y,hy,e⟩:=AU.1 h;rw[List.getLastD_eq_getLast?,hy,←e];rfl
theorem qG(p:ByteArray)(hp:F0 p):PC 191 [vs p] (Qj (Bu p)):=by
 have Eh:p.size=p.data.toList.length:=by simp
 have hc:=vH p hp;unfold F0 at hp;obtain⟨A,hA⟩:∃A,A=Y4 p.data.toList:=⟨_,rfl⟩;rw[←hA]at hc;have wl:A.length=(CH 47 p.data.toList).length:=by rw[hA,Lm]
 have r8:=Um 47 p.data.toList;have jM:0<A.length:=by rw[wl];exact GY.2 (KY 47 _)
 have rW:∀x∈A,x.data.toList.length<4611686018427387904:=fun x hx=>by
  obtain⟨y,hy,e⟩:=Am.1 (hA▸hx:x∈Y4 p.data.toList);have h5:=Lt 47 _ y hy;rw[←e];show y.length<_;omega
 have F6:(CH 47 p.data.toList).all G6=A.all fun x=>G6 x.data.toList:=by rw[hA,List.all_map];rfl
 have DB:A.length-1<A.length:=by omega
 have hg:A[A.length-1]?=some A[A.length-1]:=Ge DB;have X6:(CH 47 p.data.toList).getLastD []=A[A.length-1].data.toList:=by
  subst hA;exact iK hg
 have em:Bu p=match Gq A[A.length-1].data.toList with
  |none=>none
  |some n=>if(decide (64<p.data.toList.length)||decide (A.length<2))=true then none else if(A.all fun x=>G6 x.data.toList)=true then some n else none:=by
  unfold Bu Qk;rw[X6,F6,←wl];cases Gq A[A.length-1].data.toList with
  |none=>rfl
  |some n=>rfl
 clear F6 X6
 have hv:=vJ A[A.length-1] (rW _ (At DB));obtain⟨o,ho⟩:∃o,o=Gq A[A.length-1].data.toList:=⟨_,rfl⟩;rw[←ho]at hv em;have hz:∀n,o=some n→0≤n:=fun n e=>by
  rw[e]at ho;exact Y0 ho.symm
 refine Ps (Hv [4,9,10]) Tryz.func191 rfl (Nz rfl) ?_;refine Yi (fun h=>?_) (fun h=>?_)
 ·have h:(64:Int)<((p.size:Nat):Int):=h;exact .of_eq (Ac Qj (show(none:Option Int)=Bu p by rw[em,Ar (by omega:64<p.data.toList.length)];cases o<;>rfl))
 have h:¬(64:Int)<((p.size:Nat):Int):=h;have d1:decide (64<p.data.toList.length)=false:=Ao (by omega);refine Xi .pure (Xi _ (Yi (hc) ?_));refine Xi ⟨[(4,sl EH A)],[],Aa⟩ (Yi ⟨Z1,Tv,Fh,Tv⟩ ?_)
 refine Xi {i:Nat // i≤A.length∧∀j (hj:j<A.length),j<i→G6 (A[j]).data.toList=true} (Xi (fun i=>⟨[(4,sl EH A),(5,vi i.1)],[],Aa⟩) (Xi (fun i=>A.length-i.1) (Yi (Xi ⟨0,AD _,fun j _ h=>by omega⟩ ?_) ?_)))
 ·exact⟨Z2,Tv,Fh,Tv⟩
 intro⟨i,i1,i2⟩;refine Yi (fun h2=>?_) (fun h2=>?_)
 ·have h2:(i:Int)<((A.map EH).length:Int):=h2;have h2:i<A.length:=by simpa using h2
  have hg:A[i]?=some A[i]:=Ge h2;refine Xi (EH A[i]) (Yi (Yi (Nn i) (by simp[hg])) (Yi rfl ?_));have hn:=vI A[i] (rW _ (At h2));refine BT (Bt (G6 A[i].data.toList)).symm (fun e1=>?_) (fun e1=>?_)
  ·rw[e1]at hn;refine Xi .pure (Xi _ (Yi (hn) ?_));have e2:(A.all fun x=>G6 x.data.toList)=false:=by
    rw[AK];intro hh
    have:=AY.1 hh _ (At h2)
    rw[e1]at this;cases this
   exact .of_eq (Ac Qj (show(none:Option Int)=Bu p by
    rw[em,e2];cases o with
    |none=>rfl
    |some n=>cases (decide (64<p.data.toList.length)||decide (A.length<2))<;>rfl))
  rw[e1]at hn;refine Xi .pure (Xi _ (Yi (hn) ?_));refine Yi (Ii i (by omega)) ?_;refine Xi ⟨i+1,by omega,fun j hj Je=>?_⟩ ?_
  ·rcases B7 j i with z | z
   ·exact i2 j hj z
   ·have:j=i:=by omega
    subst this;exact e1
  ·exact⟨Dl A.length i (by omega),Z2,Tv,Fh,Tv⟩
 have h2:¬(i:Int)<((A.map EH).length:Int):=h2;have h2:¬i<A.length:=by simpa using h2
 have e2:(A.all fun x=>G6 x.data.toList)=true:=AY.2 fun x hx=>by
  obtain⟨j,hj,rfl⟩:=BU hx;exact i2 j hj (by omega)
 have em:Bu p=match(generalizing:=false) o with
  |none=>none
  |some n=>if decide (A.length<2)=true then none else some n:=by
  rw[em,e2,d1];cases o<;>rfl
 refine Xi ⟨[(4,sl EH A)],[],Aa⟩ (Yi ⟨Z1,Tv,Fh,Tv⟩ ?_)
 have Y3:(((A.map EH).length:Int)-1).toNat=A.length-1:=by rw[Lm];omega
 refine Yi (by show Bi (((A.map EH).length:Int)-1);rw[Lm];unfold Bi;omega) ?_;refine Xi (EH A[A.length-1]) (Yi (Yi (by show(0:Int)≤((A.map EH).length:Int)-1;rw[Lm];omega) (by rw[Y3];exact CC hg)) (Yi rfl ?_));refine Xi .pure (Xi _ (Yi (hv) ?_));refine Br (show ∃z:Int,UP o=vi z∧(z<0↔o=none)∧∀n,o=some n→z=n by
  cases o with
  |none=>exact⟨-1,rfl,⟨fun _=>rfl,fun _=>by decide⟩,fun n h=>by cases h⟩
  |some n=>exact⟨n,rfl,⟨fun h=>absurd (hz n rfl) (by omega),fun h=>by cases h⟩,fun m h=>by cases h;rfl⟩) (fun z ur=>?_)
 refine Xi ⟨[(4,sl EH A),(6,vi z)],[],Aa⟩ (Yi ⟨⟨Zr,⟨ur.1,rfl⟩,Tv⟩,Tv,Fh,Tv⟩ ?_)
 refine Yi (fun h3=>?_) (fun h3=>?_)
 ·have h3:((A.map EH).length:Int)<2:=h3;rw[Lm]at h3;exact .of_eq (Ac Qj (show(none:Option Int)=Bu p by rw[em,Ar (by omega:A.length<2)];cases o<;>rfl))
 have h3:¬((A.map EH).length:Int)<2:=h3;rw[Lm]at h3;refine Yi (fun h4=>?_) (fun h4=>?_)
 ·have h4:z<0:=h4;exact .of_eq (Ac Qj (show(none:Option Int)=Bu p by rw[em,ur.2.1.1 h4]))
 have h4:¬z<0:=h4;refine Br (show ∃n,o=some n by
  cases o with
  |none=>exact absurd (ur.2.1.2 rfl) h4
  |some n=>exact⟨n,rfl⟩) (fun n hn=>?_)
 exact .of_eq (show AV.tup [vi z,vi 0]=Qj (Bu p) by rw[em,hn,ur.2.2 n hn,Ao (by omega:¬A.length<2)];rfl)
theorem vC(p:ByteArray)(hp:F0 p):PC 190 [vs p] (vb (Bu p).isSome):=by
 have hc:=qG p hp;cases h:Bu p with
 |none =>
  rw[h]at hc;refine Ps E4 Tryz.func190 rfl (Nz rfl) ?_;refine Xi .pure (Xi _ (Yi (hc) ?_));refine Yi ?_ ?_
  ·intro h;exact absurd (show(4:Int)=0 from h) (by decide)
  ·intro _;exact .refl _
 |some n =>
  rw[h]at hc;refine Ps E4 Tryz.func190 rfl (Nz rfl) ?_;refine Xi .pure (Xi _ (Yi (hc) ?_));refine Yi ?_ ?_
  ·intro _;exact .refl _
  ·intro h;exact absurd rfl h
theorem zf(s:List Sl)(hs:Cp s):PC 48 [sl Ad s] (vb (CO s)):=by
 unfold Cp at hs;refine Ps E4 Tryz.func48 rfl (Nz rfl) ?_;refine Xi {i:Nat // 1≤i∧(s=[]∨i≤s.length)∧CO s=(match s[i-1]? with | none=>true | some y=>Me (some y.path) (s.drop i))} (Xi (fun i=>⟨[(0,sl Ad s),(3,vi i.1)],[],Aa⟩) (Xi (fun i=>s.length-i.1) (Yi (Xi ⟨1,Al _,by cases s with | nil=>exact .inl rfl | cons _ _=>exact .inr (by simp),by cases s<;>rfl⟩ ?_) ?_)))
 ·exact⟨Z2,Tv,Fh,Tv⟩
 intro⟨i,h1,h2,h3⟩;refine Yi ?_ ?_
 ·intro h;have h:(i:Int)<(s.map Ad).length:=h;have h:i<s.length:=by simpa using h
  have hg:s[i]?=some s[i]:=Ge h;have h' : i-1<s.length:=by omega
  have ZF : s[i-1]?=some s[i-1]:=Ge h';have e1:((i:Int)-1).toNat=i-1:=by omega
  have mK:CO s=(Eg s[i-1].path s[i].path&&Me (some s[i].path) (s.drop (i+1))):=by
   rw[h3,ZF]
   have:=gW s (i-1) (by omega)
   simp only[show i-1+1=i by omega,show i-1+2=i+1 by omega]at this;exact this
  refine Xi (Ad s[i]) (Yi (Yi (Nn i) (by simp[hg])) (Yi rfl ?_));refine Yi (by show Bi ((i:Int)-1);unfold Bi;omega) ?_;refine Xi (Ad s[i-1]) (Yi (Yi (by show(0:Int)≤(i:Int)-1;omega) (by show(s.map Ad)[((i:Int)-1).toNat]?=_;rw[e1];simp[ZF])) (Yi rfl ?_));refine Yi ?_ ?_
  ·intro h4;have h4:Op.bytesLess s[i-1].path.toList s[i].path.toList=false:=h4;rw[←EX]at h4;refine Yi (by kernel_rfl) ?_;exact .of_eq (Ac vb (show false=CO s by rw[mK,h4];rfl))
  ·intro h4;have h4:¬Op.bytesLess s[i-1].path.toList s[i].path.toList=false:=h4;rw[←EX,Bool.not_eq_false]at h4;refine Yi (by kernel_rfl) ?_;refine Yi (Ii i (by omega)) ?_;refine Xi ⟨i+1,by omega,.inr (by omega),by rw[mK,h4,show i+1-1=i by omega,hg];rfl⟩ ?_;exact⟨Dl s.length i (by omega),Z2,Tv,Fh,Tv⟩
 ·intro h;have h:¬(i:Int)<(s.map Ad).length:=h;have h:¬i<s.length:=by simpa using h
  have wV:CO s=true:=by
   rcases h2 with h2 | h2
   ·rw[h2];rfl
   ·have e:i=s.length:=by omega
    rw[h3,e,List.drop_length];cases s[s.length-1]?<;>rfl
  exact .of_eq (Ac vb wV.symm)
abbrev Qi(p:ByteArray):Int:=match Bu p with | none=>-1 | some m=>m
abbrev qk:Prop:=∀p:ByteArray,F0 p→PC 100 [vs p] (vi (Qi p))
abbrev ql:Prop:=∀s:Ba,Cp s→PC 142 [sl Af s] (sl Af (canon s))
theorem ly{r:List UInt8}(h:r.all CA=true):0≤DY r:=by
 have:∀(l:List UInt8) (n:Int),0≤n→(∀c∈l,CA c=true)→0≤l.foldl (fun n c=>10*n+((c.toNat:Int)-48)) n:=by
  intro l
  induction l with
  |nil=>intro n hn _;exact hn
  |cons c l ih =>
   intro n hn hc
   have:=Ji (hc c (Ab ..))
   exact ih _ (show 0≤10*n+((c.toNat:Int)-48) by omega) fun d hd=>hc d (Ai _ hd)
 exact this r 0 (BJ _) (fun c hc=>AY.1 h c hc)
theorem md{s:List UInt8}{n:Int}(h:Gq s=some n):0≤n:=by
 unfold Gq at h;split at h
 ·split at h
  ·split at h
   ·cases h
   ·rename_i r _ hc;cases h;refine ly ?_;cases hd:r.all CA with
    |true=>rfl
    |false=>rw[hd]at hc;simp at hc
  ·cases h
 ·cases h
theorem ii{p:ByteArray}{m:Int}(h:Bu p=some m):0≤m:=by
 unfold Bu Qk at h;split at h
 ·cases h
 ·rename_i n e;split at h
  ·cases h
  ·split at h
   ·cases h;exact md e
   ·cases h
theorem Pf(p:ByteArray):Qi p<0↔(Bu p).isNone=true:=by
 unfold Qi;cases h:Bu p with
 |none=>simp
 |some m=>have:=ii h;simp;omega
theorem c68(kr:qk)(nW:ql)(l:List Rq)(hs:∀q∈l,NE q):PC 102 [sl AF l] (vi (Bp l)):=by
 refine Ps (Hv [8,10]) Tryz.func102 rfl (Nz rfl) ?_;refine Yi ?_ ?_
 ·intro h;have h:(16:Int)<(l.map AF).length:=h;exact .of_eq (Ac vi (show(7:Int)=Bp l by unfold Bp;rw[Ap (by rw[Lm]at h;omega)]))
 intro h;have h:¬(16:Int)<(l.map AF).length:=h;have hl:l.length≤16:=by rw[Lm]at h;omega
 have Mb:Bp l=D8 none l:=by unfold Bp;rw[Aj (by omega)]
 refine Xi {i:Nat // i≤l.length∧D8 none l=D8 (G2 l i) (l.drop i)} (Xi (fun i=>⟨[(0,sl AF l),(3,vi i.1)],[],Aa⟩) (Xi (fun i=>l.length-i.1) (Yi (Xi ⟨0,AD _,rfl⟩ ?_) ?_)))
 ·exact⟨Z2,Tv,Fh,Tv⟩
 intro⟨i,h1,h2⟩;refine Yi ?_ ?_
 ·intro h;have h:(i:Int)<(l.map AF).length:=h;have h:i<l.length:=by simpa using h
  have hg:l[i]?=some l[i]:=Ge h;have hd:l.drop i=l[i]::l.drop (i+1):=A7 h;have hq:=hs l[i] (At h);have HC:D8 none l=if F9 (G2 l i) l[i]=0 then D8 (some l[i].path) (l.drop (i+1))else F9 (G2 l i) l[i]:=by rw[h2,hd];rfl
  have fail:∀e:Int,F9 (G2 l i) l[i]=e→e≠0→e=Bp l:=fun e he hz=>by rw[Mb,HC,he,Aj hz]
  have jJ:G2 l (i+1)=some l[i].path:=LW h;refine Xi (AF l[i]) (Yi (Yi (Nn i) (by simp[hg])) (Yi rfl ?_));refine Xi .pure (Xi _ (Yi (kr l[i].path hq.2) ?_));refine Yi ?_ ?_
  ·intro h3;have h3:Qi l[i].path<0:=h3;exact .of_eq (Ac vi (fail 4 (by unfold F9;rw[Ap ((Pf _).1 h3)]) (by decide)))
  intro h3;have h3:¬Qi l[i].path<0:=h3;have hmj:(Bu l[i].path).isNone=false:=by
   rw[AK];exact fun e=>h3 ((Pf _).2 e)
  have er:F9 (G2 l i) l[i]=if(l[i].set.isEmpty||!decide (l[i].set=canon l[i].set)||(match G2 l i with | some b=>!Eg b l[i].path | none=>false))=true then 1 else 0:=by unfold F9;rw[hmj];rfl
  refine Xi ⟨[(0,sl AF l),(3,vi i)],[],Aa⟩ (Yi ⟨Z2,Tv,Fh,Tv⟩ ?_)
  refine Xi (AF l[i]) (Yi (Yi (Nn i) (by simp[hg])) (Yi rfl ?_));refine Yi ?_ ?_
  ·intro h4;have h4:((l[i].set.map Af).length:Int)=0:=h4;have h5:l[i].set.isEmpty=true:=by
    rw[Lm]at h4;rw[F4];exact AL (by omega)
   refine Yi (by kernel_rfl) ?_;exact .of_eq (Ac vi (fail 1 (by rw[er,h5];rfl) (by decide)))
  intro h4;have h4:¬((l[i].set.map Af).length:Int)=0:=h4;have h5:l[i].set.isEmpty=false:=by
   cases hqs:l[i].set with
   |nil=>rw[hqs]at h4;exact absurd rfl h4
   |cons a b=>rfl
  have he:=vY l[i].set (canon l[i].set) hq.1;refine Xi (AF l[i]) (Yi (Yi (Nn i) (by simp[hg])) (Yi rfl ?_));refine Xi (AF l[i]) (Yi (Yi (Nn i) (by simp[hg])) (Yi rfl ?_));refine Xi _ (Yi (nW l[i].set hq.1) ?_);refine BT (Bt (decide (l[i].set=canon l[i].set))) (fun e=>?_) (fun e=>?_)
  rotate_left
  ·rw[e]at he;refine Xi _ (Yi (he) ?_);refine Yi (by kernel_rfl) ?_;exact .of_eq (Ac vi (fail 1 (by rw[er,h5,e];rfl) (by decide)))
  rw[e]at he;refine Xi _ (Yi (he) ?_);refine Yi (by kernel_rfl) ?_;refine Xi ⟨[(0,sl AF l),(3,vi i)],[],Aa⟩ (Yi ⟨Z2,Tv,Fh,Tv⟩ ?_)
  refine Yi ?_ ?_
  ·intro h6;have h6:(0:Int)<i:=h6;have h7:i-1<l.length:=by omega
   have hb:G2 l i=some l[i-1].path:=by
    obtain⟨k,rfl⟩:∃k,i=k+1:=⟨i-1,by omega⟩;exact LW h7
   refine Xi (AF l[i]) (Yi (Yi (Nn i) (by simp[hg])) (Yi rfl ?_));refine Yi (by show Bi ((i:Int)-1);unfold Bi;omega) ?_;refine Xi (AF l[i-1]) (Yi (Yi (by show(0:Int)≤(i:Int)-1;omega) (by rw[show((i:Int)-1).toNat=i-1 by omega];exact CC (Ge h7))) (Yi rfl ?_));refine Yi ?_ ?_
   ·intro h8;have h8:Op.bytesLess l[i-1].path.toList l[i].path.toList=false:=h8;refine Yi (by kernel_rfl) ?_;exact .of_eq (Ac vi (fail 1 (by rw[er,h5,e,hb];show(if(!Eg l[i-1].path l[i].path)=true then(1:Int)else 0)=1;rw[EX,h8];rfl) (by decide)))
   ·intro h8;have h8:¬Op.bytesLess l[i-1].path.toList l[i].path.toList=false:=h8;have h8:Op.bytesLess l[i-1].path.toList l[i].path.toList=true:=by simpa using h8
    refine Yi (by kernel_rfl) ?_;refine Yi (Ii i (by omega)) ?_;refine Xi ⟨i+1,by omega,by rw[HC,jJ,Ap (by rw[er,h5,e,hb];show(if(!Eg l[i-1].path l[i].path)=true then(1:Int)else 0)=0;rw[EX,h8];rfl)]⟩ ?_;exact⟨Dl l.length i (by omega),Z2,Tv,Fh,Tv⟩
  ·intro h6;have h6:¬(0:Int)<i:=h6;have h7:i=0:=by omega
   refine Yi (by kernel_rfl) ?_;refine Yi (Ii i (by omega)) ?_;refine Xi ⟨i+1,by omega,by rw[HC,jJ,Ap (by rw[er,h5,e];subst h7;rfl)]⟩ ?_;exact⟨Dl l.length i (by omega),Z2,Tv,Fh,Tv⟩
 ·intro h;have h:¬(i:Int)<(l.map AF).length:=h;have h:¬i<l.length:=by simpa using h
  have e:(0:Int)=Bp l:=by rw[Mb,h2,Hy (by omega)];rfl
  exact .of_eq (Ac vi e)
theorem ZP(p:ByteArray)(k:Nat)(hk:k<p.data.toList.length)(h1:p.data.toList[k]=47)(h2:∀j (hj:j<p.data.toList.length),k<j→p.data.toList[j]≠47):Go.Lib.lastIndex p.data.toList [47]=k:=by
 have p8:∀i (hi:i<p.data.toList.length),Go.Lib.occAt p.data.toList [47] i=true↔p.data.toList[i]=47:=fun i hi=>by
  unfold Go.Lib.occAt;rw[A7 hi];simp;exact eq_comm
 unfold Go.Lib.lastIndex;rw[Ap (by simp only[AG];omega)];rcases Go.Lib.lastOcc_spec p.data.toList [47] (p.data.toList.length - [(47:UInt8)].length+1)with ⟨_,h3⟩ | ⟨j,h3,h4,h5,h6⟩
 ·have:=h3 k (by simp only[AG];omega)
  rw[(p8 k hk).2 h1]at this;cases this
 ·rw[h4];simp only[AG]at h3;have e:j=k:=by
   rcases QT j k with z | z | z
   ·have:=h6 k z (by simp only[AG];omega)
    rw[(p8 k hk).2 h1]at this;cases this
   ·exact z
   ·exact absurd ((p8 j (by omega)).1 h5) (h2 j (by omega) z)
  rw[e]
theorem dK{p:ByteArray}{m:Int}(h:Bu p=some m):(47:UInt8)∈p.data.toList:=by
 refine Of 47 _ ?_;unfold Bu Qk at h;split at h
 ·cases h
 ·split at h
  ·cases h
  ·rename_i hn;simp only[Cj,Au]at hn;omega
theorem vo(p:ByteArray)(hp:F0 p):PC 140 [vs p] (TP WV p):=by
 have hc:=qG p hp;have hi:=vC p hp;have Eh:p.size=p.data.toList.length:=by simp
 unfold TP;cases h:Bu p with
 |none =>
  rw[h]at hi;refine Ps E4 Tryz.func140 rfl (Nz rfl) ?_;refine Xi .pure (Xi _ (Yi (hi) ?_));exact .refl _
 |some n =>
  have eu:=dK h;rw[h]at hc hi;unfold F0 at hp;refine Br (show ∃q,∃hq:q<p.data.toList.length,p.data.toList[q]=47 from BU eu) (fun q hq=>?_);refine Br hq (fun hq eq=>?_);refine Ps E4 Tryz.func140 rfl (Nz rfl) ?_;refine Xi .pure (Xi _ (Yi (hi) ?_));refine Xi .pure (Xi _ (Yi (hc) ?_));refine Yi (fun h=>absurd rfl h) (fun _=>?_);refine Yi (show Bi (((p.size:Nat):Int)-1) by unfold Bi;omega) ?_;refine Xi {k:Nat // k<p.data.toList.length∧∀j (hj:j<p.data.toList.length),k<j→p.data.toList[j]≠47} (Xi (fun k=>⟨[(0,vs p),(5,vi n),(7,vi k.1)],[],Aa⟩) (Xi (fun k=>k.1) (Yi (Xi ⟨p.data.toList.length-1,by omega,fun j hj Je=>by omega⟩ ?_) ?_)))
  ·have e1:vi (((p.size:Nat):Int)-1)=vi ((p.data.toList.length-1:Nat):Int):=Ac vi (by omega);exact⟨⟨Zr,Zr,⟨e1,rfl⟩,Tv⟩,Tv,Fh,Tv⟩
  intro⟨k,k1,k2⟩;have RI:(0:Int)≤k∧p.data[((k:Nat):Int).toNat]?=some p.data.toList[k]:=⟨by omega,by rw[Bj];exact MF p k k1⟩;refine Xi p.data.toList[k] (Yi RI ?_);refine Yi (fun h2=>?_) (fun h2=>?_)
  ·have h2:¬(p.data.toList[k].toNat:Int)=47:=h2;have h2:p.data.toList[k]≠47:=fun e=>h2 (by rw[e];rfl);have hqk:q≤k:=by
    rcases B7 k q with z | z
    ·exact absurd eq (k2 q hq z)
    ·exact z
   have Rf:q≠k:=fun e=>by subst e;exact h2 eq
   refine Yi (show Bi ((k:Int)-1) by unfold Bi;omega) ?_;have e1:vi ((k:Int)-1)=vi ((k-1:Nat):Int):=Ac vi (by omega);refine Xi ⟨k-1,by omega,fun j hj Je=>?_⟩ ?_
   ·rcases B7 k j with z | z
    ·exact k2 j hj z
    ·have:j=k:=by omega
     subst this;exact h2
   ·exact⟨by show k-1<k;omega,⟨Zr,Zr,⟨e1,rfl⟩,Tv⟩,Tv,Fh,Tv⟩
  ·have h2:¬¬(p.data.toList[k].toNat:Int)=47:=h2;have h2:p.data.toList[k]=47:=Gy.1 (by have:=BV.1 h2;show p.data.toList[k].toNat=47;omega);have el:=ZP p k k1 h2 k2;refine Yi ⟨BJ _,by show(0:Int)≤k;omega,by show(k:Int)≤p.size;omega⟩ ?_;have e3:p.extract 0 ((k:Nat):Int).toNat=WV p:=by unfold WV;rw[el]
   exact .of_eq (show AV.tup [vs (p.extract 0 ((k:Nat):Int).toNat),vi n,vi 0]=_ by rw[e3])
theorem uV(p:ByteArray)(hp:F0 p):PC 100 [vs p] (vi (Qi p)):=by
 have hc:=vo p hp;unfold TP at hc;unfold Qi;cases h:Bu p with
 |none =>
  rw[h]at hc;refine Ps E4 Tryz.func100 rfl (Nz rfl) ?_;refine Xi .pure (Xi _ (Yi (hc) ?_));refine Yi (fun _=>?_) (fun h=>absurd (show(4:Int)≠0 by decide) h);exact .refl _
 |some m =>
  rw[h]at hc;refine Ps E4 Tryz.func100 rfl (Nz rfl) ?_;refine Xi .pure (Xi _ (Yi (hc) ?_));refine Yi (fun h=>absurd rfl h) (fun _=>?_);exact .refl _
theorem kr:qk:=uV
abbrev sN:RE:=⟨[],[(3,0)],[(63,2)],[],[],[],[],[],[],[(112,7)],[4,6,10,11,14,16,17,18]⟩
theorem KX(s:Ba):∀cs∈s.map Af,cs.length=2:=fun cs h=>by
 obtain⟨x,_,rfl⟩:=Am.1 h;rfl
theorem KB{n:Nat}:∀{l:List (List AV)},(∀c∈l,c.length=n)→CQ n l
 | [],_=>trivial
 |c::_,h=>⟨h c (Ab ..),KB fun d hd=>h d (Ai _ hd)⟩
abbrev Mu(s:Ba)(k:Nat):List (List AV):=((s.map Af).take (((s.map Af).length:Nat):Int).toNat).drop ((k:Nat):Int).toNat
theorem Uc(s:Ba)(k:Nat):Mu s k=(s.drop k).map Af:=by
 unfold Mu;rw[Bj,Bj,Aw (Al _),List.map_drop]
theorem mi(s:Ba)(x:Int×Int)(k:Nat)(h:s.length≤1073741824):CQ 2 (Mu s k)∧[Af x].length=1∧([Af x].length+(Mu s k).length)*16≤140737488355328∧[Af x].length+(Mu s k).length≤9223372036854775807:=by
 rw[Uc];refine⟨KB (KX _),rfl,?_,?_⟩<;>rw[Lm,Cu,AG]<;>omega
abbrev Re(s:Ba)(k:Nat):List (List AV):=((s.map Af).take ((k:Nat):Int).toNat).drop ((0:Int)).toNat
theorem X4(s:Ba)(k:Nat):Re s k=(s.take k).map Af:=by
 unfold Re;rw[Bj,show(0:Int).toNat=0 from rfl,Oo,List.map_take]
theorem mj(s:Ba)(x:Int×Int)(k:Nat)(hk:k≤s.length)(h:s.length≤1073741824):CQ 2 ([Af x]++Mu s k)∧(Re s k).length=((k:Nat):Int).toNat-((0:Int)).toNat∧((Re s k).length+([Af x]++Mu s k).length)*16≤140737488355328∧(Re s k).length+([Af x]++Mu s k).length≤9223372036854775807:=by
 rw[Uc,X4];refine⟨⟨rfl,KB (KX _)⟩,?_,?_,?_⟩
 ·rw[Lm,AC,Bj];show min k s.length=k-0;omega
 ·rw[Ae,Lm,Lm,AC,Cu,AG];omega
 ·rw[Ae,Lm,Lm,AC,Cu,AG];omega
theorem su(s:Ba)(x:Int×Int)(k:Nat):Re s k++([Af x]++Mu s k)=(s.take k++([x]++s.drop k)).map Af:=by
 rw[Uc,X4,Ay,Ay];rfl
theorem cP{s A:Ba}{j:Nat}(h:j<s.length)(hA:A=(Bq (s.take j)).reverse){y:Int×Int}(hy:A[A.length-1]?=some y)(He:s[j].1≤y.2):A.set (A.length-1) (y.1,max y.2 s[j].2)=(Bq (s.take (j+1))).reverse:=by
 rw[Fv s j h];cases hr:Bq (s.take j)with
 |nil=>rw[hA,hr]at hy;cases hy
 |cons z t =>
  have eA:A=t.reverse++[z]:=by rw[hA,hr,ER]
  have eL:A.length-1=t.reverse.length:=by rw[eA,Ae,AG];omega
  rw[eL,eA,AW (Al _),ES]at hy;have ez:z=y:=Ca hy;have e2:JJ (z::t) s[j]=(z.1,max z.2 s[j].2)::t:=by show(if s[j].1≤z.2 then _ else _)=_;rw[Ap (ez▸He)]
  rw[e2,eL,eA,Lw _ _ (Al _),ES,ER,ez];rfl
theorem Yl{s A:Ba}{j:Nat}(h:j<s.length)(hA:A=(Bq (s.take j)).reverse)(hn:∀y,A[A.length-1]?=some y→¬s[j].1≤y.2):A++[s[j]]=(Bq (s.take (j+1))).reverse:=by
 rw[Fv s j h];cases hr:Bq (s.take j)with
 |nil=>rw[hA,hr];rfl
 |cons z t =>
  have eA:A=t.reverse++[z]:=by rw[hA,hr,ER]
  have eL:A.length-1=t.reverse.length:=by rw[eA,Ae,AG];omega
  have:=hn z (by rw[eL,eA,AW (Al _),ES];rfl)
  have e2:JJ (z::t) s[j]=s[j]::z::t:=by show(if s[j].1≤z.2 then _ else _)=_;rw[Aj this]
  rw[e2,eA,ER,ER]
theorem sx(A:Ba)(k:Nat)(y x:Int×Int):(A.map Af).set k [vi y.1,vi (max y.2 x.2)]=(A.set k (y.1,max y.2 x.2)).map Af:=by rw[EQ]
set_option maxHeartbeats 4000000 in
theorem uW(l:Ba)(hl:Cp l):PC 142 [sl Af l] (sl Af (canon l)):=by
 have hl:l.length≤1073741824:=hl;refine Ps sN Tryz.func142 rfl (Nz rfl) ?_;refine Xi {p:Nat×Ba // p.1≤l.length∧p.2.Perm (CE (l.take p.1))∧p.2.Pairwise fun a b=>a.1≤b.1} (Xi (fun p=>⟨[(0,sl Af l),(3,sl Af p.1.2),(4,vi p.1.1)],[],Aa⟩) (Xi (fun p=>l.length-p.1.1) (Yi (Xi ⟨(0,[]),AD _,.refl _,.nil⟩ ?_) ?_)))
 ·exact⟨Z3,Tv,Fh,Tv⟩
 intro⟨⟨i,s⟩,i1,i2,i3⟩;have i1:i≤l.length:=i1;have i2:s.Perm (CE (l.take i)):=i2;have i3:s.Pairwise fun a b=>a.1≤b.1:=i3;have WQ:s.length≤i:=by rw[i2.length_eq];exact SN l i
 refine Yi (fun h=>?_) (fun h=>?_)
 ·skip
  have h:(i:Int)<(l.map Af).length:=h;have h:i<l.length:=by simpa using h
  have hg:l[i]?=some l[i]:=Ge h;refine Xi (Af l[i]) (Yi (Yi (Nn i) (by simp[hg])) (Yi rfl ?_));refine Xi (Af l[i]) (Yi (Yi (Nn i) (by simp[hg])) (Yi rfl ?_));refine Yi (Nz rfl) ?_;refine Yi (by kernel_rfl) ?_;refine Xi ⟨[(0,sl Af l),(3,sl Af s),(4,vi i),(5,.ref 5 0)],[(5,.cells (Af (Ee l[i])))],Aa⟩ (Yi ?_ ?_)
  ·have e0:HO.cells [vi (max 0 l[i].1),vi (min 1000000 l[i].2)]=.cells (Af (Ee l[i])):=by
    rw[Int.max_comm,Int.min_comm];rfl
   exact⟨Z4,⟨⟨e0,rfl⟩,Tv⟩,Fh,Tv⟩
  refine Yi (fun h3=>?_) (fun h3=>?_)
  ·have h3:(Ee l[i]).2≤(Ee l[i]).1:=h3;refine Xi ⟨[(0,sl Af l),(3,sl Af s),(4,vi i)],[],Aa⟩ (Yi ⟨Z3,Tv,Fh,Tv⟩ ?_)
   refine Yi (Ii i (by omega)) ?_;have e:=SM h (show ¬(Ee l[i]).1<(Ee l[i]).2 by omega);refine Xi ⟨(i+1,s),by omega,by show s.Perm (CE (l.take (i+1)));rw[e];exact i2,i3⟩ ?_;exact⟨Dl l.length i (by omega),Z3,Tv,Fh,Tv⟩
  have h3:¬(Ee l[i]).2≤(Ee l[i]).1:=h3;have e:=PU h (show(Ee l[i]).1<(Ee l[i]).2 by omega);refine Xi {k:Nat // k≤s.length∧∀j (hj:j<s.length),k≤j→(Ee l[i]).1<s[j].1} (Xi (fun k=>⟨[(0,sl Af l),(3,sl Af s),(4,vi i),(5,.ref 5 0),(6,vi k.1)],[(5,.cells (Af (Ee l[i])))],Aa⟩) (Xi (fun k=>k.1) (Yi (Xi ⟨s.length,Al _,fun j hj Je=>by omega⟩ ?_) ?_)))
  ·have e1:vi ((s.map Af).length:Int)=vi (s.length:Int):=by rw[Lm]
   exact⟨⟨Zr,Zr,Zr,Zr,⟨e1,rfl⟩,Tv⟩,Z1,Fh,Tv⟩
  intro⟨k,k1,k2⟩;refine Yi (fun h4=>?_) (fun h4=>?_)
  ·have h4:(0:Int)<k:=h4;refine Yi (show Bi ((k:Int)-1) by unfold Bi;omega) ?_;have hk:k-1<s.length:=by omega
   have hg:s[k-1]?=some s[k-1]:=Ge hk;have hn:((k:Int)-1).toNat=k-1:=by omega
   refine Xi (Af s[k-1]) (Yi (Yi (by show(0:Int)≤(k:Int)-1;omega) (by rw[hn];exact CC hg)) (Yi rfl ?_));refine Yi (fun h5=>?_) (fun h5=>?_)
   ·have h5:(Ee l[i]).1<s[k-1].1:=h5;refine Yi (by kernel_rfl) ?_;refine Yi (show Bi ((k:Int)-1) by unfold Bi;omega) ?_;have e1:vi ((k:Int)-1)=vi ((k-1:Nat):Int):=Ac vi (by omega);refine Xi ⟨k-1,by omega,fun j hj Je=>?_⟩ ?_
    ·rcases B7 j k with z | z
     ·have:j=k-1:=by omega
      subst this;exact h5
     ·exact k2 j hj z
    ·exact⟨by show k-1<k;omega,⟨Zr,Zr,Zr,Zr,⟨e1,rfl⟩,Tv⟩,Z1,Fh,Tv⟩
   have h5:¬(Ee l[i]).1<s[k-1].1:=h5;have Ia:k=0∨∃h:k-1<s.length,s[k-1].1≤(Ee l[i]).1:=.inr ⟨hk,by omega⟩;refine Yi (by kernel_rfl) ?_;refine Xi ⟨[(0,sl Af l),(3,sl Af s),(4,vi i),(5,.ref 5 0),(6,vi k)],[(5,.cells (Af (Ee l[i])))],Aa⟩ (Yi ⟨Z5,Z1,Fh,Tv⟩ ?_)
   refine Yi (show(0:Int)≤0∧(0:Int)≤k∧(k:Int)=k∧(k:Int)≤((s.map Af).length:Nat) by rw[Lm];omega) (Yi (KX s) ?_);refine Yi (Nz rfl) ?_;refine Yi (show(0:Int)≤k∧(k:Int)≤((s.map Af).length:Nat)∧(((s.map Af).length:Nat):Int)≤((s.map Af).length:Nat) by rw[Lm];omega) (Yi (KX s) ?_);refine Yi (mi s (Ee l[i]) k (by omega)) ?_;refine Yi (mj s (Ee l[i]) k k1 (by omega)) ?_;refine Yi (by kernel_rfl) ?_;refine Br (show ∃t,t=s.take k++([Ee l[i]]++s.drop k)from⟨_,rfl⟩) (fun t ht=>?_);refine Xi ⟨[(0,sl Af l),(3,sl Af t),(4,vi i)],[],Aa⟩ (Yi ?_ ?_)
   ·have e3:AV.slice .none (Re s k++([Af (Ee l[i])]++Mu s k))=sl Af t:=by rw[ht];exact Ac (AV.slice .none) (su s (Ee l[i]) k)
    exact⟨⟨Zr,⟨e3,rfl⟩,Zr,Tv⟩,Tv,Fh,Tv⟩
   refine Yi (Ii i (by omega)) ?_;refine Xi ⟨(i+1,t),by omega,by show t.Perm (CE (l.take (i+1)));rw[e,ht];exact Yk s _ k i2,by show t.Pairwise _;rw[ht];exact TF s _ k i3 k2 Ia⟩ ?_;exact⟨Dl l.length i (by omega),Z3,Tv,Fh,Tv⟩
  ·have h4:¬(0:Int)<k:=h4;have Ia:k=0∨∃h:k-1<s.length,s[k-1].1≤(Ee l[i]).1:=.inl (by omega);refine Yi (by kernel_rfl) ?_;refine Xi ⟨[(0,sl Af l),(3,sl Af s),(4,vi i),(5,.ref 5 0),(6,vi k)],[(5,.cells (Af (Ee l[i])))],Aa⟩ (Yi ⟨Z5,Z1,Fh,Tv⟩ ?_)
   refine Yi (show(0:Int)≤0∧(0:Int)≤k∧(k:Int)=k∧(k:Int)≤((s.map Af).length:Nat) by rw[Lm];omega) (Yi (KX s) ?_);refine Yi (Nz rfl) ?_;refine Yi (show(0:Int)≤k∧(k:Int)≤((s.map Af).length:Nat)∧(((s.map Af).length:Nat):Int)≤((s.map Af).length:Nat) by rw[Lm];omega) (Yi (KX s) ?_);refine Yi (mi s (Ee l[i]) k (by omega)) ?_;refine Yi (mj s (Ee l[i]) k k1 (by omega)) ?_;refine Yi (by kernel_rfl) ?_;refine Br (show ∃t,t=s.take k++([Ee l[i]]++s.drop k)from⟨_,rfl⟩) (fun t ht=>?_);refine Xi ⟨[(0,sl Af l),(3,sl Af t),(4,vi i)],[],Aa⟩ (Yi ?_ ?_)
   ·have e3:AV.slice .none (Re s k++([Af (Ee l[i])]++Mu s k))=sl Af t:=by rw[ht];exact Ac (AV.slice .none) (su s (Ee l[i]) k)
    exact⟨⟨Zr,⟨e3,rfl⟩,Zr,Tv⟩,Tv,Fh,Tv⟩
   refine Yi (Ii i (by omega)) ?_;refine Xi ⟨(i+1,t),by omega,by show t.Perm (CE (l.take (i+1)));rw[e,ht];exact Yk s _ k i2,by show t.Pairwise _;rw[ht];exact TF s _ k i3 k2 Ia⟩ ?_;exact⟨Dl l.length i (by omega),Z3,Tv,Fh,Tv⟩
 ·skip
  have h:¬(i:Int)<(l.map Af).length:=h;have h:¬i<l.length:=by simpa using h
  have fin:(Bq s).reverse=canon l:=LA (by rw[Aw (by omega)]at i2;exact i2) i3;refine Xi ⟨[(3,sl Af s)],[],Aa⟩ (Yi ⟨Z1,Tv,Fh,Tv⟩ ?_)
  refine Xi {p:Nat×Ba // p.1≤s.length∧p.2=(Bq (s.take p.1)).reverse} (Xi (fun p=>⟨[(3,sl Af s),(7,.msl 63 p.1.2.length),(8,vi p.1.1)],[(63,FP p.1.2)],Aa⟩) (Xi (fun p=>s.length-p.1.1) (Yi (Xi ⟨(0,[]),AD _,rfl⟩ ?_) ?_)))
  ·exact⟨Z3,Z1,Fh,Tv⟩
  intro⟨⟨j,A⟩,j1,hA⟩;have j1:j≤s.length:=j1;have hA:A=(Bq (s.take j)).reverse:=hA;have wl:A.length≤j:=by rw[hA,Db];exact(N4 s j j1).1
  refine Yi (fun h2=>?_) (fun h2=>?_)
  ·have h2:(j:Int)<((s.map Af).length:Int):=h2;have h2:j<s.length:=by simpa using h2
   have pZ:s[j]?=some s[j]:=Ge h2;refine Xi ⟨[(3,sl Af s),(7,.msl 63 A.length),(8,vi j),(9,vi A.length)],[(63,FP A)],Aa⟩ (Yi ⟨Z4,Z1,Fh,Tv⟩ ?_)
   refine Yi (fun h3=>?_) (fun h3=>?_)
   ·have h3:(0:Int)<A.length:=h3;have mB:Bi ((A.length:Int)-1):=by unfold Bi;omega
    have hn:((A.length:Int)-1).toNat=A.length-1:=by omega
    have Y3:(0:Int)≤(A.length:Int)-1∧(A.length:Int)-1<(A.length:Int):=by omega
    have DB:A.length-1<A.length:=by omega
    have hg:A[A.length-1]?=some A[A.length-1]:=Ge DB;have p5:(A.map Af)[((A.length:Int)-1).toNat]?=some (Af A[A.length-1]):=by rw[hn];exact CC hg
    have rV:A.length=(A.map Af).length:=by rw[Lm]
    have sj:(0:Int)≤j∧(s.map Af)[((j:Nat):Int).toNat]?=some (Af s[j]):=⟨by omega,by rw[Bj];exact CC pZ⟩;refine Xi (Af s[j]) (Yi sj (Yi rfl ?_));refine Yi mB (Yi Y3 (Yi rV (Xi (Af A[A.length-1]) (Yi p5 ?_))));refine Yi (fun h4=>?_) (fun h4=>?_)
    ·have h4:s[j].1≤A[A.length-1].2:=h4;refine Yi (by kernel_rfl) ?_;refine Xi ⟨[(3,sl Af s),(7,.msl 63 A.length),(8,vi j),(9,vi A.length)],[(63,FP A)],Aa⟩ (Yi ⟨Z4,Z1,Fh,Tv⟩ ?_)
     refine Yi mB (Yi mB (Yi Y3 (Yi rV (Xi (Af A[A.length-1]) (Yi p5 ?_)))));refine Xi (Af s[j]) (Yi sj (Yi rfl ?_));refine Yi Y3 (Yi rV (Xi (Af A[A.length-1]) (Yi p5 (Yi (Nz rfl) ?_))));refine Yi (by kernel_rfl) ?_;refine Br (show ∃B,B=A.set (A.length-1) (A[A.length-1].1,max A[A.length-1].2 s[j].2)from⟨_,rfl⟩) (fun B hB=>?_);have e2:HO.arr 2 ((A.map Af).set ((A.length:Int)-1).toNat [vi A[A.length-1].1,vi (max A[A.length-1].2 s[j].2)])=FP B:=by rw[hn,hB];exact Ac (HO.arr 2) (sx A _ _ _)
     have e1:AV.msl 63 A.length=.msl 63 B.length:=by rw[hB,Cy]
     refine Xi ⟨[(3,sl Af s),(7,.msl 63 B.length),(8,vi j)],[(63,FP B)],Aa⟩ (Yi ⟨⟨Zr,⟨e1,rfl⟩,Zr,Tv⟩,⟨⟨e2,rfl⟩,Tv⟩,Fh,Tv⟩ ?_)
     refine Yi (Ii j (by omega)) ?_;refine Xi ⟨(j+1,B),by omega,by rw[hB];exact cP h2 hA hg h4⟩ ?_;exact⟨Dl s.length j (by omega),Z3,Z1,Fh,Tv⟩
    have h4:¬s[j].1≤A[A.length-1].2:=h4;have wW:A++[s[j]]=(Bq (s.take (j+1))).reverse:=Yl h2 hA fun y hy=>by
     rw[hg]at hy;rw[←Ca hy];exact h4
    refine Yi (by kernel_rfl) ?_;refine Xi ⟨[(3,sl Af s),(7,.msl 63 A.length),(8,vi j),(9,vi A.length)],[(63,FP A)],Aa⟩ (Yi ⟨Z4,Z1,Fh,Tv⟩ ?_)
    refine Xi (Af s[j]) (Yi sj (Yi rfl ?_));refine Yi (Nz rfl) ?_;have Gv:CQ 2 [Af s[j]]∧(A.map Af).length=A.length∧((A.map Af).length+[Af s[j]].length)*16≤140737488355328∧(A.map Af).length+[Af s[j]].length≤9223372036854775807 :=
     ⟨⟨rfl,trivial⟩,by rw[Lm],by rw[Lm,AG];omega,by rw[Lm,AG];omega⟩
    refine Yi Gv ?_;refine Br (show ∃B,B=A++[s[j]]from⟨_,rfl⟩) (fun B hB=>?_);have e1:AV.msl 63 ((A.map Af).length+[Af s[j]].length)=.msl 63 B.length:=by rw[hB];simp
    have e2:HO.arr 2 (A.map Af++[Af s[j]])=FP B:=by rw[hB];simp
    refine Xi ⟨[(3,sl Af s),(7,.msl 63 B.length),(8,vi j)],[(63,FP B)],Aa⟩ (Yi ⟨⟨Zr,⟨e1,rfl⟩,Zr,Tv⟩,⟨⟨e2,rfl⟩,Tv⟩,Fh,Tv⟩ ?_)
    refine Yi (Ii j (by omega)) ?_;refine Xi ⟨(j+1,B),by omega,by rw[hB];exact wW⟩ ?_;exact⟨Dl s.length j (by omega),Z3,Z1,Fh,Tv⟩
   ·have h3:¬(0:Int)<A.length:=h3;have sj:(0:Int)≤j∧(s.map Af)[((j:Nat):Int).toNat]?=some (Af s[j]):=⟨by omega,by rw[Bj];exact CC pZ⟩;have wW:A++[s[j]]=(Bq (s.take (j+1))).reverse:=Yl h2 hA fun y hy=>by
     rw[AL (by omega:A.length=0)]at hy;cases hy
    refine Yi (by kernel_rfl) ?_;refine Xi ⟨[(3,sl Af s),(7,.msl 63 A.length),(8,vi j),(9,vi A.length)],[(63,FP A)],Aa⟩ (Yi ⟨Z4,Z1,Fh,Tv⟩ ?_)
    refine Xi (Af s[j]) (Yi sj (Yi rfl ?_));refine Yi (Nz rfl) ?_;have Gv:CQ 2 [Af s[j]]∧(A.map Af).length=A.length∧((A.map Af).length+[Af s[j]].length)*16≤140737488355328∧(A.map Af).length+[Af s[j]].length≤9223372036854775807 :=
     ⟨⟨rfl,trivial⟩,by rw[Lm],by rw[Lm,AG];omega,by rw[Lm,AG];omega⟩
    refine Yi Gv ?_;refine Br (show ∃B,B=A++[s[j]]from⟨_,rfl⟩) (fun B hB=>?_);have e1:AV.msl 63 ((A.map Af).length+[Af s[j]].length)=.msl 63 B.length:=by rw[hB];simp
    have e2:HO.arr 2 (A.map Af++[Af s[j]])=FP B:=by rw[hB];simp
    refine Xi ⟨[(3,sl Af s),(7,.msl 63 B.length),(8,vi j)],[(63,FP B)],Aa⟩ (Yi ⟨⟨Zr,⟨e1,rfl⟩,Zr,Tv⟩,⟨⟨e2,rfl⟩,Tv⟩,Fh,Tv⟩ ?_)
    refine Yi (Ii j (by omega)) ?_;refine Xi ⟨(j+1,B),by omega,by rw[hB];exact wW⟩ ?_;exact⟨Dl s.length j (by omega),Z3,Z1,Fh,Tv⟩
  ·have h2:¬(j:Int)<((s.map Af).length:Int):=h2;have h2:¬j<s.length:=by simpa using h2
   refine Yi (by rw[Lm]) ?_;exact .of_eq (Ac (sl Af) (show A=canon l by rw[hA,Aw (by omega)];exact fin))
theorem nW:ql:=uW
end Go.Eng
