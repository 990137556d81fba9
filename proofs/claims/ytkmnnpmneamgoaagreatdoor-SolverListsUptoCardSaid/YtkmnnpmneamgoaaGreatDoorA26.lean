/- Lemmas for the claims of this seat, without a condition: part 26 (R3, R4, R5, C60, C61, C62, C63, C64, R6, R7, R8, R9, R10, R11). -/
import Derived.Test.YtkmnnpmneamgoaaGreatDoorA25
namespace Go.Eng
open Go.Proofs
theorem i7{s:ByteArray}:G2 s.data.toList=(s.data.toList.all M7&&Gk s.data.toList):=by
 unfold G2;rw[Bool.and_comm]
theorem uQ(s:ByteArray)(hs:s.data.toList.length<4611686018427387904):PC 259 [vs s] (vb (G2 s.data.toList)):=by
 have Ed:s.size=s.data.toList.length:=by simp
 have vw:=uX s hs;rw[i7];refine Ps EI Tryz.func259 rfl (Nz rfl) ?_;refine Xi {i:Nat // i≤s.data.toList.length∧∀j (hj:j<s.data.toList.length),j<i→M7 s.data.toList[j]=true} (Xi (fun i=>⟨[(0,vs s),(3,vi i.1)],[],Aa⟩) (Xi (fun i=>s.data.toList.length-i.1) (Yi (Xi ⟨0,AL _,fun j _ h=>by omega⟩ ?_) ?_)))
 ·exact⟨Z2,Tv,Fh,Tv⟩
 intro⟨i,h1,h2⟩;refine Yi ?_ ?_
 ·intro h;have h:(i:Int)<(s.size:Nat):=h;have h:i<s.data.toList.length:=by omega
  have Rj:(0:Int)≤i∧s.data[((i:Nat):Int).toNat]?=some s.data.toList[i]:=⟨by omega,by rw[A6];exact MC s i h⟩;have nx:M7 s.data.toList[i]=true→∀j (hj:j<s.data.toList.length),j<i+1→M7 s.data.toList[j]=true:=fun e j hj IA=>by
   rcases BV j i with z | z
   ·exact h2 j hj z
   ·have:j=i:=by omega
    subst this;exact e
  refine Xi s.data.toList[i] (Yi Rj ?_);have h3:=nq s.data.toList[i];have h4:=j7 s.data.toList[i];refine BG (Bt (ED s.data.toList[i])) (fun e=>?_) (fun e=>?_)
  ·rw[e]at h3;refine Xi .pure (Xi _ (Yi (h3) ?_));refine Yi (Ii i (by omega)) ?_;refine Xi ⟨i+1,by omega,nx (by unfold M7;rw[e];rfl)⟩ ?_;exact⟨Dl s.data.toList.length i (by omega),Z2,Tv,Fh,Tv⟩
  rw[e]at h3;refine Xi .pure (Xi _ (Yi (h3) ?_));refine Xi s.data.toList[i] (Yi Rj ?_);refine BG (Bt (CC s.data.toList[i])) (fun e2=>?_) (fun e2=>?_)
  ·rw[e2]at h4;refine Xi .pure (Xi _ (Yi (h4) ?_));refine Yi (Ii i (by omega)) ?_;refine Xi ⟨i+1,by omega,nx (by unfold M7;rw[e2,T7])⟩ ?_;exact⟨Dl s.data.toList.length i (by omega),Z2,Tv,Fh,Tv⟩
  rw[e2]at h4;refine Xi .pure (Xi _ (Yi (h4) ?_));have er:s.data.toList.all M7=false:=by
   rw[AH];intro ha
   have:=AX.1 ha _ (Aj h)
   unfold M7 at this;rw[e,e2]at this;cases this
  exact .of_eq (Ac vb (by rw[er];rfl))
 ·intro h;have h:¬(i:Int)<(s.size:Nat):=h;have er:s.data.toList.all M7=true:=AX.2 fun c hc=>by
   obtain⟨j,hj,rfl⟩:=BY hc;exact h2 j hj (by omega)
  refine Xi .pure (Xi _ (Yi (vw) ?_));exact .of_eq (Ac vb (by rw[er];rfl))
abbrev Uv:Option Int→AV
 |some n=>vi n
 |none=>vi (-1)
theorem uR(s:ByteArray)(hs:s.data.toList.length<4611686018427387904):PC 260 [vs s] (Uv (Gj s.data.toList)):=by
 have Ed:s.size=s.data.toList.length:=by simp
 refine Ps (H2 [3]) Tryz.func260 rfl (Nz rfl) ?_;refine Yi (fun h=>?_) (fun h=>?_)
 ·have h:((s.size:Nat):Int)<2:=h;exact .of_eq (Ac Uv (show(none:Option Int)=Gj s.data.toList by
   cases hs:s.data.toList with
   |nil=>rfl
   |cons c r =>
    cases r with
    |nil=>unfold Gj;simp
    |cons d r=>rw[hs]at Ed;simp only[Ak]at Ed;omega))
 have h:¬((s.size:Nat):Int)<2:=h;refine A8 (show ∃c r,s.data.toList=c::r by
  cases e:s.data.toList with
  |nil=>rw[e]at Ed;simp only[Al]at Ed;omega
  |cons c l=>exact⟨c,l,rfl⟩) (fun c hc=>?_)
 refine A8 hc (fun r Wj=>?_);have hrl:s.size=r.length+1:=by rw[Ed,Wj];rfl
 have wW:Gj s.data.toList=if c=118 then(if(r.isEmpty||decide (3<r.length)||(decide (1<r.length)&&decide (r.headD 0=48))||!r.all CC)=true then none else some (DV r))else none:=by rw[Wj];rfl
 refine Yi (fun h2=>?_) (fun h2=>?_)
 ·have h2:(4:Int)<((s.size:Nat):Int):=h2;exact .of_eq (Ac Uv (show(none:Option Int)=Gj s.data.toList by rw[wW,Av (by omega:3<r.length)];simp))
 have h2:¬(4:Int)<((s.size:Nat):Int):=h2;refine Xi c (Yi ⟨by decide,by show s.data[(0:Int).toNat]?=_;rw[←AO,Wj];rfl⟩ ?_);refine Yi (fun h3=>?_) (fun h3=>?_)
 ·have h3:¬(c.toNat:Int)=118:=h3;have h3:¬c=118:=fun e=>h3 (by rw[e];rfl);exact .of_eq (Ac Uv (show(none:Option Int)=Gj s.data.toList by rw[wW,Ar h3]))
 have h3:¬¬(c.toNat:Int)=118:=h3;have h3:(c.toNat:Int)=118:=B3.1 h3;have h3:c=118:=Gr.1 (by show c.toNat=118;omega);have hr:s.data.toList=118::r:=by rw[Wj,h3]
 have hv:Gj s.data.toList=if(r.isEmpty||decide (3<r.length)||(decide (1<r.length)&&decide (r.headD 0=48))||!r.all CC)=true then none else some (DV r):=by rw[wW,AB h3]
 have CW:0<r.length:=by omega
 have PJ:r.isEmpty=false:=by
  cases hl:r with
  |nil=>rw[hl]at CW;exact absurd CW (by decide)
  |cons a l=>rfl
 have rE:r.length≤3:=by omega
 have d3:decide (3<r.length)=false:=At (by omega);have z0:DV (r.take 0)=0:=rfl;have hh:=NI r CW;refine Xi r[0] (Yi ⟨by decide,by show s.data[(1:Int).toNat]?=_;rw[←AO,Wj];show r[0]?=_;exact Ge CW⟩ ?_);refine Yi (fun h4=>?_) (fun h4=>?_)
 ·have h4:(r[0].toNat:Int)=48:=h4;have h4:r[0]=48:=Gr.1 (by show r[0].toNat=48;omega);refine Yi (fun h5=>?_) (fun h5=>?_)
  ·have h5:(2:Int)<((s.size:Nat):Int):=h5;exact .of_eq (Ac Uv (show(none:Option Int)=Gj s.data.toList by rw[hv,hh,h4,Av (by omega:1<r.length)];simp))
  have h5:¬(2:Int)<((s.size:Nat):Int):=h5;have eo:(decide (1<r.length)&&decide (r.headD 0=48))=false:=by rw[At (by omega:¬1<r.length)];rfl
  refine Xi ⟨[(0,vs s)],[],Aa⟩ (Yi ⟨Z1,Tv,Fh,Tv⟩ ?_)
  refine Xi {i:Nat // i≤r.length∧(∀j (hj:j<r.length),j<i→CC r[j]=true)∧0≤DV (r.take i)∧(i=0→DV (r.take i)≤0)∧(i≤1→DV (r.take i)≤9)∧(i≤2→DV (r.take i)≤99)∧DV (r.take i)≤999} (Xi (fun i=>⟨[(0,vs s),(3,vi (DV (r.take i.1))),(4,vi (1+(i.1:Int)))],[],Aa⟩) (Xi (fun i=>r.length-i.1) (Yi (Xi ⟨0,AL _,fun j _ h=>by omega,by omega,fun _=>by omega,fun _=>by omega,fun _=>by omega,by omega⟩ ?_) ?_)))
  ·exact⟨Z3,Tv,Fh,Tv⟩
  intro⟨i,i1,i0,i2,i3,i4,i5,i6⟩;refine Yi ?_ ?_
  ·intro h;have h:1+(i:Int)<(s.size:Nat):=h;have h:i<r.length:=by omega
   have Rj:(0:Int)≤1+(i:Int)∧s.data[(1+(i:Int)).toNat]?=some r[i]:=⟨by omega,by rw[show(1+(i:Int)).toNat=i+1 by omega,←AO,hr,Eu];exact Ge h⟩;refine Xi r[i] (Yi Rj ?_);have hc:=j7 r[i];refine BG (Bt (CC r[i])).symm (fun e=>?_) (fun e=>?_)
   ·rw[e]at hc;refine Xi .pure (Xi _ (Yi (hc) ?_));have GJ:r.all CC=false:=by
     rw[AH];intro ha
     have:=AX.1 ha _ (Aj h)
     rw[e]at this;cases this
    exact .of_eq (Ac Uv (show(none:Option Int)=Gj s.data.toList by rw[hv,GJ];simp))
   rw[e]at hc;refine Xi .pure (Xi _ (Yi (hc) ?_));have mh:=I7 e;have aO:=KP r i h;have Zs:IntKind.u8.wrap ((r[i].toNat:Int)-48)=(r[i].toNat:Int)-48:=RM (by omega) (by omega);refine Yi (by show Bf (10*DV (r.take i));unfold Bf;omega) ?_;refine Xi r[i] (Yi Rj ?_);refine Yi (by show Bf (IntKind.u8.wrap ((r[i].toNat:Int)-48));rw[Zs];unfold Bf;omega) ?_;refine Yi (by show Bf (10*DV (r.take i)+IntKind.u8.wrap ((r[i].toNat:Int)-48));rw[Zs];unfold Bf;omega) ?_;refine Yi (by show Bf (1+(i:Int)+1);unfold Bf;omega) ?_;have e5:vi (10*DV (r.take i)+IntKind.u8.wrap ((r[i].toNat:Int)-48))=vi (DV (r.take (i+1))):=by rw[Zs,aO]
   have e6:vi (1+(i:Int)+1)=vi (1+((i+1:Nat):Int)):=Ac vi (by omega);refine Xi ⟨i+1,by omega,fun j hj IA=>?_,by omega,fun _=>by omega,fun _=>by omega,fun _=>by omega,by omega⟩ ?_
   ·rcases BV j i with z | z
    ·exact i0 j hj z
    ·have:j=i:=by omega
     subst this;exact e
   ·exact⟨Dl r.length i (by omega),⟨Zr,⟨e5,rfl⟩,⟨e6,rfl⟩,Tv⟩,Tv,Fh,Tv⟩
  ·intro h;have h:¬1+(i:Int)<(s.size:Nat):=h;have e3:r.all CC=true:=AX.2 fun c hc=>by
    obtain⟨j,hj,rfl⟩:=BY hc;exact i0 j hj (by omega)
   have e6:vi (DV (r.take i))=Uv (Gj s.data.toList):=by rw[hv,PJ,d3,eo,e3,Az (by omega)];rfl
   exact .of_eq e6
 have h4:¬(r[0].toNat:Int)=48:=h4;have eo:(decide (1<r.length)&&decide (r.headD 0=48))=false:=by rw[hh,At (show ¬r[0]=48 from fun e=>h4 (by rw[e];rfl)),Ct]
 refine Xi ⟨[(0,vs s)],[],Aa⟩ (Yi ⟨Z1,Tv,Fh,Tv⟩ ?_)
 refine Xi {i:Nat // i≤r.length∧(∀j (hj:j<r.length),j<i→CC r[j]=true)∧0≤DV (r.take i)∧(i=0→DV (r.take i)≤0)∧(i≤1→DV (r.take i)≤9)∧(i≤2→DV (r.take i)≤99)∧DV (r.take i)≤999} (Xi (fun i=>⟨[(0,vs s),(3,vi (DV (r.take i.1))),(4,vi (1+(i.1:Int)))],[],Aa⟩) (Xi (fun i=>r.length-i.1) (Yi (Xi ⟨0,AL _,fun j _ h=>by omega,by omega,fun _=>by omega,fun _=>by omega,fun _=>by omega,by omega⟩ ?_) ?_)))
 ·exact⟨Z3,Tv,Fh,Tv⟩
 intro⟨i,i1,i0,i2,i3,i4,i5,i6⟩;refine Yi ?_ ?_
 ·intro h;have h:1+(i:Int)<(s.size:Nat):=h;have h:i<r.length:=by omega
  have Rj:(0:Int)≤1+(i:Int)∧s.data[(1+(i:Int)).toNat]?=some r[i]:=⟨by omega,by rw[show(1+(i:Int)).toNat=i+1 by omega,←AO,hr,Eu];exact Ge h⟩;refine Xi r[i] (Yi Rj ?_);have hc:=j7 r[i];refine BG (Bt (CC r[i])).symm (fun e=>?_) (fun e=>?_)
  ·rw[e]at hc;refine Xi .pure (Xi _ (Yi (hc) ?_));have GJ:r.all CC=false:=by
    rw[AH];intro ha
    have:=AX.1 ha _ (Aj h)
    rw[e]at this;cases this
   exact .of_eq (Ac Uv (show(none:Option Int)=Gj s.data.toList by rw[hv,GJ];simp))
  rw[e]at hc;refine Xi .pure (Xi _ (Yi (hc) ?_));have mh:=I7 e;have aO:=KP r i h;have Zs:IntKind.u8.wrap ((r[i].toNat:Int)-48)=(r[i].toNat:Int)-48:=RM (by omega) (by omega);refine Yi (by show Bf (10*DV (r.take i));unfold Bf;omega) ?_;refine Xi r[i] (Yi Rj ?_);refine Yi (by show Bf (IntKind.u8.wrap ((r[i].toNat:Int)-48));rw[Zs];unfold Bf;omega) ?_;refine Yi (by show Bf (10*DV (r.take i)+IntKind.u8.wrap ((r[i].toNat:Int)-48));rw[Zs];unfold Bf;omega) ?_;refine Yi (by show Bf (1+(i:Int)+1);unfold Bf;omega) ?_;have e5:vi (10*DV (r.take i)+IntKind.u8.wrap ((r[i].toNat:Int)-48))=vi (DV (r.take (i+1))):=by rw[Zs,aO]
  have e6:vi (1+(i:Int)+1)=vi (1+((i+1:Nat):Int)):=Ac vi (by omega);refine Xi ⟨i+1,by omega,fun j hj IA=>?_,by omega,fun _=>by omega,fun _=>by omega,fun _=>by omega,by omega⟩ ?_
  ·rcases BV j i with z | z
   ·exact i0 j hj z
   ·have:j=i:=by omega
    subst this;exact e
  ·exact⟨Dl r.length i (by omega),⟨Zr,⟨e5,rfl⟩,⟨e6,rfl⟩,Tv⟩,Tv,Fh,Tv⟩
 ·intro h;have h:¬1+(i:Int)<(s.size:Nat):=h;have e3:r.all CC=true:=AX.2 fun c hc=>by
   obtain⟨j,hj,rfl⟩:=BY hc;exact i0 j hj (by omega)
  have e6:vi (DV (r.take i))=Uv (Gj s.data.toList):=by rw[hv,PJ,d3,eo,e3,Az (by omega)];rfl
  exact .of_eq e6
end Go.Eng

namespace Go.Eng
open Go.Proofs
abbrev YG(l:List UInt8):List ByteArray:=(CP 47 l).map bs
def Vo:List (List UInt8)→UInt8→List (List UInt8)
 | [],_=>[]
 | [x],b=>[x++[b]]
 |x::l,b=>x::Vo l b
theorem KW(c:UInt8)(s:List UInt8):CP c s≠[]:=by
 cases s with
 |nil=>rw[CP];exact RT _ _
 |cons b r =>
  rw[CP];split
  ·exact RT _ _
  ·split<;>exact RT _ _
theorem TZ(c:UInt8):∀s:List UInt8,CP c (s++[c])=CP c s++[[]]
 | []=>by simp[CP]
 |b::r=>by
  rw[DZ,CP,TZ c r,CP]
  by_cases e:b=c
  ·rw[AB e,AB e];rfl
  ·rw[Ar e,Ar e];cases h:CP c r with
   |nil=>exact absurd h (KW c r)
   |cons x l=>rfl
theorem TK(x:List UInt8){l:List (List UInt8)}(b:UInt8)(h:l≠[]):Vo (x::l) b=x::Vo l b:=by
 cases l with
 |nil=>exact absurd rfl h
 |cons y l=>rfl
theorem Rd(c b:UInt8)(hb:b≠c):∀s:List UInt8,CP c (s++[b])=Vo (CP c s) b
 | []=>by simp[CP,hb,Vo]
 |a::r=>by
  rw[DZ,CP,Rd c b hb r,CP]
  by_cases e:a=c
  ·rw[AB e,AB e,TK _ _ (KW c r)]
  ·rw[Ar e,Ar e];cases h:CP c r with
   |nil=>exact absurd h (KW c r)
   |cons x l =>
    cases l with
    |nil=>rfl
    |cons y l=>rfl
theorem Vp(b:UInt8):∀(l:List (List UInt8)) (x:List UInt8),l[l.length-1]?=some x→l.set (l.length-1) (x++[b])=Vo l b
 | [],_,h=>by cases h
 | [y],x,h=>by
  have h:some y=some x:=h;rw[Ch h];rfl
 |y::z::l,x,h=>by
  have h:(z::l)[(z::l).length-1]?=some x:=h;rw[TK y b (RT _ _),←Vp b (z::l) x h];rfl
theorem TY(c:UInt8)(s:List UInt8):(CP c s).length≤s.length+1:=by
 induction s with
 |nil=>rw[CP];exact Ao _
 |cons b r ih =>
  rw[CP,Ak];split
  ·rw[Ak];omega
  ·split
   ·simp
   ·rename_i x l e;rw[e,Ak]at ih;rw[Ak];omega
abbrev sn:QA:=⟨[],[],[(5,1)],[],[],[],[],[],[],[(36,3)],[4]⟩
theorem iD{l:List UInt8}{c:UInt8}(hc:c≠47){x:ByteArray}(h:(YG l)[(YG l).length-1]?=some x):(YG l).set ((YG l).length-1) (x++bs [c])=YG (l++[c]):=by
 have h2:=h;rw[AI,Lm]at h;obtain⟨y,hy,e⟩:=AQ.1 h;subst e;show _=(CP 47 (l++[c])).map bs;rw[Rd 47 c hc l,←Vp c (CP 47 l) y hy,Ny,Lm]
 congr 1
theorem uP(s:ByteArray)(hs:FZ s):PC 258 [vs s] (sl EE (YG s.data.toList)):=by
 unfold FZ at hs;have Ed:s.size=s.data.toList.length:=by simp
 refine Ps sn Tryz.func258 rfl (Nz rfl) ?_;refine Xi {p:Nat×List ByteArray // p.1≤s.data.toList.length∧p.2=YG (s.data.toList.take p.1)} (Xi (fun p=>⟨[(0,vs s),(3,.msl 5 p.1.2.length),(4,vi p.1.1)],[(5,.arr 1 (p.1.2.map EE))],Aa⟩) (Xi (fun p=>s.data.toList.length-p.1.1) (Yi (Xi ⟨(0,[bs []]),AL _,rfl⟩ ?_) ?_)))
 ·exact⟨Z3,Z1,Fh,Tv⟩
 intro⟨⟨i,A⟩,h1,hA⟩;have h1:i≤s.data.toList.length:=h1;have hA:A=YG (s.data.toList.take i):=hA;have mo:A.length≤i+1:=by
  have:=TY 47 (s.data.toList.take i)
  rw[AK]at this;rw[hA,Lm];omega
 have Rk:0<A.length:=by
  rw[hA,Lm];exact GT.2 (KW 47 _)
 refine Yi (fun h=>?_) (fun h=>?_)
 ·have h:(i:Int)<(s.size:Nat):=h;have h:i<s.data.toList.length:=by omega
  have Rj:(0:Int)≤i∧s.data[((i:Nat):Int).toNat]?=some s.data.toList[i]:=⟨by omega,by rw[A6];exact MC s i h⟩;have mw:s.data.toList.take (i+1)=s.data.toList.take i++[s.data.toList[i]]:=by rw[Bb,Ge h];rfl
  refine Xi s.data.toList[i] (Yi Rj ?_);refine Yi (fun h2=>?_) (fun h2=>?_)
  ·have h2:(s.data.toList[i].toNat:Int)=47:=h2;have h2:s.data.toList[i]=47:=Gr.1 (by show s.data.toList[i].toNat=47;omega);have GI:B1 1 [[vs (bs [])]]∧(A.map EE).length=A.length∧((A.map EE).length+[[vs (bs [])]].length)*16≤140737488355328∧(A.map EE).length+[[vs (bs [])]].length≤9223372036854775807 :=
    ⟨⟨rfl,trivial⟩,by rw[Lm],by rw[Lm,AC];omega,by rw[Lm,AC];omega⟩
   refine Yi GI ?_;refine Xi ⟨[(0,vs s),(3,.msl 5 (A++[bs []]).length),(4,vi i)],[(5,.arr 1 ((A++[bs []]).map EE))],Aa⟩ (Yi ?_ ?_)
   ·have e1:AV.msl 5 ((A.map EE).length+[[vs (bs [])]].length)=.msl 5 (A++[bs []]).length:=by simp
    have e2:HO.arr 1 (A.map EE++[[vs (bs [])]])=.arr 1 ((A++[bs []]).map EE):=by rw[AA];rfl
    exact⟨⟨Zr,⟨e1,rfl⟩,Zr,Tv⟩,⟨⟨e2,rfl⟩,Tv⟩,Fh,Tv⟩
   refine Yi (Ii i (by omega)) ?_;have eA:A++[bs []]=YG (s.data.toList.take (i+1)):=by
    rw[hA,mw,h2];show _=(CP 47 _).map bs;rw[TZ,AA];rfl
   refine Xi ⟨(i+1,A++[bs []]),by omega,eA⟩ ?_;exact⟨Dl s.data.toList.length i (by omega),Z3,Z1,Fh,Tv⟩
  have h2:¬(s.data.toList[i].toNat:Int)=47:=h2;have h2:s.data.toList[i]≠47:=fun e=>h2 (by rw[e];rfl);have mi:Bf ((A.length:Int)-1):=by unfold Bf;omega
  have Dz:A.length-1<A.length:=by omega
  have hn:((A.length:Int)-1).toNat=A.length-1:=by omega
  have hg:A[A.length-1]?=some A[A.length-1]:=Ge Dz;have rp:FZ A[A.length-1]:=by
   have kE:∀x∈A,x∈YG (s.data.toList.take i):=fun x hx=>hA▸hx;obtain⟨y,hy,e⟩:=Aq.1 (kE _ (Aj Dz));have h5:=Lv 47 _ y hy;rw[AK]at h5;unfold FZ;rw[←e,show(bs y).size=y.length from rfl];omega
  have cw:((A[A.length-1].size+(⟨[s.data.toList[i]].toArray⟩:ByteArray).size:Nat):Int)≤9223372036854775807:=by
   unfold FZ at rp
   have:(⟨[s.data.toList[i]].toArray⟩:ByteArray).size=1:=rfl
   omega
  refine Yi mi (Yi mi ?_);refine Yi (show(0:Int)≤(A.length:Int)-1∧(A.length:Int)-1<(A.length:Int) by omega) ?_;refine Yi (by rw[Lm]) ?_;have pA:(A.map EE)[((A.length:Int)-1).toNat]?=some (EE A[A.length-1]):=by rw[hn];exact B5 hg
  refine Xi (EE A[A.length-1]) (Yi pA ?_);refine Xi s.data.toList[i] (Yi Rj ?_);refine Xi [s.data.toList[i]] (Yi rfl ?_);refine Yi cw ?_;refine Yi (show(0:Int)≤(A.length:Int)-1∧(A.length:Int)-1<(A.length:Int) by omega) ?_;refine Yi (by rw[Lm]) ?_;refine Xi (EE A[A.length-1]) (Yi pA (Yi (Nz rfl) ?_));refine Yi (by kernel_rfl) ?_;refine A8 (show ∃B,B=A.set (A.length-1) (A[A.length-1]++bs [s.data.toList[i]])from⟨_,rfl⟩) (fun B hB=>?_);have fY:B.length=A.length:=by rw[hB,Gn]
  have e2:HO.arr 1 ((A.map EE).set ((A.length:Int)-1).toNat [vs (A[A.length-1]++⟨[s.data.toList[i]].toArray⟩)])=.arr 1 (B.map EE):=by rw[hn,hB,Ny];rfl
  refine Xi ⟨[(0,vs s),(3,.msl 5 B.length),(4,vi i)],[(5,.arr 1 (B.map EE))],Aa⟩ (Yi ⟨⟨Zr,⟨Ac (AV.msl 5) fY.symm,rfl⟩,Zr,Tv⟩,⟨⟨e2,rfl⟩,Tv⟩,Fh,Tv⟩ ?_)
  refine Yi (Ii i (by omega)) ?_;have eB:B=YG (s.data.toList.take (i+1)):=by
   rw[mw,hB];subst hA;exact iD h2 hg
  refine Xi ⟨(i+1,B),by omega,eB⟩ ?_;exact⟨Dl s.data.toList.length i (by omega),Z3,Z1,Fh,Tv⟩
 ·have h:¬(i:Int)<(s.size:Nat):=h;refine Yi (by rw[Lm]) ?_;exact .of_eq (Ac (sl EE) (show A=YG s.data.toList by rw[hA,Az (by omega)]))
end Go.Eng

namespace Go.Eng
open Go.Proofs
theorem YD{s:List UInt8}{n:Int}(h:Gj s=some n):0≤n:=by
 cases s with
 |nil=>unfold Gj at h;cases h
 |cons c r =>
  have h:(if c=118 then(if(r.isEmpty||decide (3<r.length)||(decide (1<r.length)&&decide (r.headD 0=48))||!r.all CC)=true then none else some (DV r))else none)=some n:=h
  by_cases hc:c=118
  ·rw[AB hc]at h
   by_cases hb:(r.isEmpty||decide (3<r.length)||(decide (1<r.length)&&decide (r.headD 0=48))||!r.all CC)=true
   ·rw[AB hb]at h;cases h
   ·rw[Ar hb]at h;have ha:r.all CC=true:=by
     cases hr:r.all CC
     ·rw[hr]at hb;simp at hb
     ·rfl
    rw[←Ch h]
    suffices hh:∀i,i≤r.length→0≤DV (r.take i) by
     have:=hh r.length (Ao _)
     rwa [Do]at this
    intro i
    induction i with
    |zero=>intro _;exact BQ _
    |succ i ih =>
     intro hi;have hd:=I7 (AX.1 ha _ (Aj (show i<r.length by omega)))
     have:=ih (by omega)
     rw[KP r i (by omega)];omega
  ·rw[Ar hc]at h;cases h
theorem iC{l:List UInt8}{x:ByteArray}(h:(YG l)[(YG l).length-1]?=some x):(CP 47 l).getLastD []=x.data.toList:=by
 rw[Lm,AI,←List.getLast?_eq_getElem?]at h;obtain⟨y,hy,e⟩:=AQ.1 h;rw[List.getLastD_eq_getLast?,hy,←e];rfl
theorem qq(p:ByteArray)(hp:FZ p):PC 220 [vs p] (PT (Bw p)):=by
 have Ed:p.size=p.data.toList.length:=by simp
 have hc:=uP p hp;unfold FZ at hp;obtain⟨A,hA⟩:∃A,A=YG p.data.toList:=⟨_,rfl⟩;rw[←hA]at hc;have vA:A.length=(CP 47 p.data.toList).length:=by rw[hA,Lm]
 have mo:=TY 47 p.data.toList;have Rk:0<A.length:=by rw[vA];exact GT.2 (KW 47 _)
 have rH:∀x∈A,x.data.toList.length<4611686018427387904:=fun x hx=>by
  obtain⟨y,hy,e⟩:=Aq.1 (hA▸hx:x∈YG p.data.toList);have h5:=Lv 47 _ y hy;rw[←e];show y.length<_;omega
 have GJ:(CP 47 p.data.toList).all G2=A.all fun x=>G2 x.data.toList:=by rw[hA,List.all_map];rfl
 have Dz:A.length-1<A.length:=by omega
 have hg:A[A.length-1]?=some A[A.length-1]:=Ge Dz;have XE:(CP 47 p.data.toList).getLastD []=A[A.length-1].data.toList:=by
  subst hA;exact iC hg
 have em:Bw p=match Gj A[A.length-1].data.toList with
  |none=>none
  |some n=>if(decide (64<p.data.toList.length)||decide (A.length<2))=true then none else if(A.all fun x=>G2 x.data.toList)=true then some n else none:=by
  unfold Bw PU;rw[XE,GJ,←vA];cases Gj A[A.length-1].data.toList with
  |none=>rfl
  |some n=>rfl
 clear GJ XE
 have hv:=uR A[A.length-1] (rH _ (Aj Dz));obtain⟨o,ho⟩:∃o,o=Gj A[A.length-1].data.toList:=⟨_,rfl⟩;rw[←ho]at hv em;have hz:∀n,o=some n→0≤n:=fun n e=>by
  rw[e]at ho;exact YD ho.symm
 refine Ps (H2 [4,9,10]) Tryz.func220 rfl (Nz rfl) ?_;refine Yi (fun h=>?_) (fun h=>?_)
 ·have h:(64:Int)<((p.size:Nat):Int):=h;exact .of_eq (Ac PT (show(none:Option Int)=Bw p by rw[em,Av (by omega:64<p.data.toList.length)];cases o<;>rfl))
 have h:¬(64:Int)<((p.size:Nat):Int):=h;have d1:decide (64<p.data.toList.length)=false:=At (by omega);refine Xi .pure (Xi _ (Yi (hc) ?_));refine Xi ⟨[(4,sl EE A)],[],Aa⟩ (Yi ⟨Z1,Tv,Fh,Tv⟩ ?_)
 refine Xi {i:Nat // i≤A.length∧∀j (hj:j<A.length),j<i→G2 (A[j]).data.toList=true} (Xi (fun i=>⟨[(4,sl EE A),(5,vi i.1)],[],Aa⟩) (Xi (fun i=>A.length-i.1) (Yi (Xi ⟨0,AL _,fun j _ h=>by omega⟩ ?_) ?_)))
 ·exact⟨Z2,Tv,Fh,Tv⟩
 intro⟨i,i1,i2⟩;refine Yi (fun h2=>?_) (fun h2=>?_)
 ·have h2:(i:Int)<((A.map EE).length:Int):=h2;have h2:i<A.length:=by simpa using h2
  have hg:A[i]?=some A[i]:=Ge h2;refine Xi (EE A[i]) (Yi (Yi (Nn i) (by simp[hg])) (Yi rfl ?_));have hn:=uQ A[i] (rH _ (Aj h2));refine BG (Bt (G2 A[i].data.toList)).symm (fun e1=>?_) (fun e1=>?_)
  ·rw[e1]at hn;refine Xi .pure (Xi _ (Yi (hn) ?_));have e2:(A.all fun x=>G2 x.data.toList)=false:=by
    rw[AH];intro hh
    have:=AX.1 hh _ (Aj h2)
    rw[e1]at this;cases this
   exact .of_eq (Ac PT (show(none:Option Int)=Bw p by
    rw[em,e2];cases o with
    |none=>rfl
    |some n=>cases (decide (64<p.data.toList.length)||decide (A.length<2))<;>rfl))
  rw[e1]at hn;refine Xi .pure (Xi _ (Yi (hn) ?_));refine Yi (Ii i (by omega)) ?_;refine Xi ⟨i+1,by omega,fun j hj IA=>?_⟩ ?_
  ·rcases BV j i with z | z
   ·exact i2 j hj z
   ·have:j=i:=by omega
    subst this;exact e1
  ·exact⟨Dl A.length i (by omega),Z2,Tv,Fh,Tv⟩
 have h2:¬(i:Int)<((A.map EE).length:Int):=h2;have h2:¬i<A.length:=by simpa using h2
 have e2:(A.all fun x=>G2 x.data.toList)=true:=AX.2 fun x hx=>by
  obtain⟨j,hj,rfl⟩:=BY hx;exact i2 j hj (by omega)
 have em:Bw p=match(generalizing:=false) o with
  |none=>none
  |some n=>if decide (A.length<2)=true then none else some n:=by
  rw[em,e2,d1];cases o<;>rfl
 refine Xi ⟨[(4,sl EE A)],[],Aa⟩ (Yi ⟨Z1,Tv,Fh,Tv⟩ ?_)
 have YF:(((A.map EE).length:Int)-1).toNat=A.length-1:=by rw[Lm];omega
 refine Yi (by show Bf (((A.map EE).length:Int)-1);rw[Lm];unfold Bf;omega) ?_;refine Xi (EE A[A.length-1]) (Yi (Yi (by show(0:Int)≤((A.map EE).length:Int)-1;rw[Lm];omega) (by rw[YF];exact B5 hg)) (Yi rfl ?_));refine Xi .pure (Xi _ (Yi (hv) ?_));refine A8 (show ∃z:Int,Uv o=vi z∧(z<0↔o=none)∧∀n,o=some n→z=n by
  cases o with
  |none=>exact⟨-1,rfl,⟨fun _=>rfl,fun _=>by decide⟩,fun n h=>by cases h⟩
  |some n=>exact⟨n,rfl,⟨fun h=>absurd (hz n rfl) (by omega),fun h=>by cases h⟩,fun m h=>by cases h;rfl⟩) (fun z tE=>?_)
 refine Xi ⟨[(4,sl EE A),(6,vi z)],[],Aa⟩ (Yi ⟨⟨Zr,⟨tE.1,rfl⟩,Tv⟩,Tv,Fh,Tv⟩ ?_)
 refine Yi (fun h3=>?_) (fun h3=>?_)
 ·have h3:((A.map EE).length:Int)<2:=h3;rw[Lm]at h3;exact .of_eq (Ac PT (show(none:Option Int)=Bw p by rw[em,Av (by omega:A.length<2)];cases o<;>rfl))
 have h3:¬((A.map EE).length:Int)<2:=h3;rw[Lm]at h3;refine Yi (fun h4=>?_) (fun h4=>?_)
 ·have h4:z<0:=h4;exact .of_eq (Ac PT (show(none:Option Int)=Bw p by rw[em,tE.2.1.1 h4]))
 have h4:¬z<0:=h4;refine A8 (show ∃n,o=some n by
  cases o with
  |none=>exact absurd (tE.2.1.2 rfl) h4
  |some n=>exact⟨n,rfl⟩) (fun n hn=>?_)
 exact .of_eq (show AV.tup [vi z,vi 0]=PT (Bw p) by rw[em,hn,tE.2.2 n hn,At (by omega:¬A.length<2)];rfl)
theorem uI(p:ByteArray)(hp:FZ p):PC 219 [vs p] (vb (Bw p).isSome):=by
 have hc:=qq p hp;cases h:Bw p with
 |none =>
  rw[h]at hc;refine Ps EI Tryz.func219 rfl (Nz rfl) ?_;refine Xi .pure (Xi _ (Yi (hc) ?_));refine Yi ?_ ?_
  ·intro h;exact absurd (show(4:Int)=0 from h) (by decide)
  ·intro _;exact .refl _
 |some n =>
  rw[h]at hc;refine Ps EI Tryz.func219 rfl (Nz rfl) ?_;refine Xi .pure (Xi _ (Yi (hc) ?_));refine Yi ?_ ?_
  ·intro _;exact .refl _
  ·intro h;exact absurd rfl h
end Go.Eng

namespace Go.Eng
open Go.Proofs
end Go.Eng

namespace Go.Eng
open Go.Proofs
end Go.Eng

namespace Go.Eng
open Go.Proofs
end Go.Eng

namespace Go.Eng
open Go.Proofs
end Go.Eng

namespace Go.Eng
open Go.Proofs
abbrev PS(p:ByteArray):Int:=match Bw p with | none=>-1 | some m=>m
abbrev pU:Prop:=∀p:ByteArray,FZ p→PC 123 [vs p] (vi (PS p))
abbrev pV:Prop:=∀s:A9,CK s→PC 125 [sl Ae s] (sl Ae (canon s))
theorem lq{r:List UInt8}(h:r.all CC=true):0≤DV r:=by
 have:∀(l:List UInt8) (n:Int),0≤n→(∀c∈l,CC c=true)→0≤l.foldl (fun n c=>10*n+((c.toNat:Int)-48)) n:=by
  intro l
  induction l with
  |nil=>intro n hn _;exact hn
  |cons c l ih =>
   intro n hn hc
   have:=I7 (hc c (Ab ..))
   exact ih _ (show 0≤10*n+((c.toNat:Int)-48) by omega) fun d hd=>hc d (Ai _ hd)
 exact this r 0 (BQ _) (fun c hc=>AX.1 h c hc)
theorem lX{s:List UInt8}{n:Int}(h:Gj s=some n):0≤n:=by
 unfold Gj at h;split at h
 ·split at h
  ·split at h
   ·cases h
   ·rename_i r _ hc;cases h;refine lq ?_;cases hd:r.all CC with
    |true=>rfl
    |false=>rw[hd]at hc;simp at hc
  ·cases h
 ·cases h
theorem gZ{p:ByteArray}{m:Int}(h:Bw p=some m):0≤m:=by
 unfold Bw PU at h;split at h
 ·cases h
 ·rename_i n e;split at h
  ·cases h
  ·split at h
   ·cases h;exact lX e
   ·cases h
theorem OU(p:ByteArray):PS p<0↔(Bw p).isNone=true:=by
 unfold PS;cases h:Bw p with
 |none=>simp
 |some m=>have:=gZ h;simp;omega
theorem yC(fV:pU)(km:pV)(l:List Rq)(hs:∀q∈l,H4 q):PC 72 [sl Ap l] (vi (Bm l)):=by
 refine Ps (H2 [8,10]) Tryz.func72 rfl (Nz rfl) ?_;refine Yi ?_ ?_
 ·intro h;have h:(16:Int)<(l.map Ap).length:=h;exact .of_eq (Ac vi (show(7:Int)=Bm l by unfold Bm;rw[AB (by rw[Lm]at h;omega)]))
 intro h;have h:¬(16:Int)<(l.map Ap).length:=h;have hl:l.length≤16:=by rw[Lm]at h;omega
 have N7:Bm l=D2 none l:=by unfold Bm;rw[Ar (by omega)]
 refine Xi {i:Nat // i≤l.length∧D2 none l=D2 (GY l i) (l.drop i)} (Xi (fun i=>⟨[(0,sl Ap l),(3,vi i.1)],[],Aa⟩) (Xi (fun i=>l.length-i.1) (Yi (Xi ⟨0,AL _,rfl⟩ ?_) ?_)))
 ·exact⟨Z2,Tv,Fh,Tv⟩
 intro⟨i,h1,h2⟩;refine Yi ?_ ?_
 ·intro h;have h:(i:Int)<(l.map Ap).length:=h;have h:i<l.length:=by simpa using h
  have hg:l[i]?=some l[i]:=Ge h;have hd:l.drop i=l[i]::l.drop (i+1):=Bk h;have hq:=hs l[i] (Aj h);have GV:D2 none l=if F3 (GY l i) l[i]=0 then D2 (some l[i].path) (l.drop (i+1))else F3 (GY l i) l[i]:=by rw[h2,hd];rfl
  have fail:∀e:Int,F3 (GY l i) l[i]=e→e≠0→e=Bm l:=fun e he hz=>by rw[N7,GV,he,Ar hz]
  have aO:GY l (i+1)=some l[i].path:=L0 h;refine Xi (Ap l[i]) (Yi (Yi (Nn i) (by simp[hg])) (Yi rfl ?_));refine Xi .pure (Xi _ (Yi (fV l[i].path hq.2) ?_));refine Yi ?_ ?_
  ·intro h3;have h3:PS l[i].path<0:=h3;exact .of_eq (Ac vi (fail 4 (by unfold F3;rw[AB ((OU _).1 h3)]) (by decide)))
  intro h3;have h3:¬PS l[i].path<0:=h3;have hmj:(Bw l[i].path).isNone=false:=by
   rw[AH];exact fun e=>h3 ((OU _).2 e)
  have er:F3 (GY l i) l[i]=if(l[i].set.isEmpty||!decide (l[i].set=canon l[i].set)||(match GY l i with | some b=>!EH b l[i].path | none=>false))=true then 1 else 0:=by unfold F3;rw[hmj];rfl
  refine Xi ⟨[(0,sl Ap l),(3,vi i)],[],Aa⟩ (Yi ⟨Z2,Tv,Fh,Tv⟩ ?_)
  refine Xi (Ap l[i]) (Yi (Yi (Nn i) (by simp[hg])) (Yi rfl ?_));refine Yi ?_ ?_
  ·intro h4;have h4:((l[i].set.map Ae).length:Int)=0:=h4;have h5:l[i].set.isEmpty=true:=by
    rw[Lm]at h4;rw[F0];exact AJ (by omega)
   refine Yi (by kernel_rfl) ?_;exact .of_eq (Ac vi (fail 1 (by rw[er,h5];rfl) (by decide)))
  intro h4;have h4:¬((l[i].set.map Ae).length:Int)=0:=h4;have h5:l[i].set.isEmpty=false:=by
   cases hqs:l[i].set with
   |nil=>rw[hqs]at h4;exact absurd rfl h4
   |cons a b=>rfl
  have he:=c75 l[i].set (canon l[i].set) hq.1;refine Xi (Ap l[i]) (Yi (Yi (Nn i) (by simp[hg])) (Yi rfl ?_));refine Xi (Ap l[i]) (Yi (Yi (Nn i) (by simp[hg])) (Yi rfl ?_));refine Xi _ (Yi (km l[i].set hq.1) ?_);refine BG (Bt (decide (l[i].set=canon l[i].set))) (fun e=>?_) (fun e=>?_)
  rotate_left
  ·rw[e]at he;refine Xi _ (Yi (he) ?_);refine Yi (by kernel_rfl) ?_;exact .of_eq (Ac vi (fail 1 (by rw[er,h5,e];rfl) (by decide)))
  rw[e]at he;refine Xi _ (Yi (he) ?_);refine Yi (by kernel_rfl) ?_;refine Xi ⟨[(0,sl Ap l),(3,vi i)],[],Aa⟩ (Yi ⟨Z2,Tv,Fh,Tv⟩ ?_)
  refine Yi ?_ ?_
  ·intro h6;have h6:(0:Int)<i:=h6;have h7:i-1<l.length:=by omega
   have hb:GY l i=some l[i-1].path:=by
    obtain⟨k,rfl⟩:∃k,i=k+1:=⟨i-1,by omega⟩;exact L0 h7
   refine Xi (Ap l[i]) (Yi (Yi (Nn i) (by simp[hg])) (Yi rfl ?_));refine Yi (by show Bf ((i:Int)-1);unfold Bf;omega) ?_;refine Xi (Ap l[i-1]) (Yi (Yi (by show(0:Int)≤(i:Int)-1;omega) (by rw[show((i:Int)-1).toNat=i-1 by omega];exact B5 (Ge h7))) (Yi rfl ?_));refine Yi ?_ ?_
   ·intro h8;have h8:Op.bytesLess l[i-1].path.toList l[i].path.toList=false:=h8;refine Yi (by kernel_rfl) ?_;exact .of_eq (Ac vi (fail 1 (by rw[er,h5,e,hb];show(if(!EH l[i-1].path l[i].path)=true then(1:Int)else 0)=1;rw[Fi,h8];rfl) (by decide)))
   ·intro h8;have h8:¬Op.bytesLess l[i-1].path.toList l[i].path.toList=false:=h8;have h8:Op.bytesLess l[i-1].path.toList l[i].path.toList=true:=by simpa using h8
    refine Yi (by kernel_rfl) ?_;refine Yi (Ii i (by omega)) ?_;refine Xi ⟨i+1,by omega,by rw[GV,aO,AB (by rw[er,h5,e,hb];show(if(!EH l[i-1].path l[i].path)=true then(1:Int)else 0)=0;rw[Fi,h8];rfl)]⟩ ?_;exact⟨Dl l.length i (by omega),Z2,Tv,Fh,Tv⟩
  ·intro h6;have h6:¬(0:Int)<i:=h6;have h7:i=0:=by omega
   refine Yi (by kernel_rfl) ?_;refine Yi (Ii i (by omega)) ?_;refine Xi ⟨i+1,by omega,by rw[GV,aO,AB (by rw[er,h5,e];subst h7;rfl)]⟩ ?_;exact⟨Dl l.length i (by omega),Z2,Tv,Fh,Tv⟩
 ·intro h;have h:¬(i:Int)<(l.map Ap).length:=h;have h:¬i<l.length:=by simpa using h
  have e:(0:Int)=Bm l:=by rw[N7,h2,Ho (by omega)];rfl
  exact .of_eq (Ac vi e)
end Go.Eng

namespace Go.Eng
open Go.Proofs
theorem Zw(p:ByteArray)(k:Nat)(hk:k<p.data.toList.length)(h1:p.data.toList[k]=47)(h2:∀j (hj:j<p.data.toList.length),k<j→p.data.toList[j]≠47):Go.Lib.lastIndex p.data.toList [47]=k:=by
 have pC:∀i (hi:i<p.data.toList.length),Go.Lib.occAt p.data.toList [47] i=true↔p.data.toList[i]=47:=fun i hi=>by
  unfold Go.Lib.occAt;rw[Bk hi];simp;exact eq_comm
 unfold Go.Lib.lastIndex;rw[AB (by simp only[AC];omega)];rcases Go.Lib.lastOcc_spec p.data.toList [47] (p.data.toList.length - [(47:UInt8)].length+1)with ⟨_,h3⟩ | ⟨j,h3,h4,h5,h6⟩
 ·have:=h3 k (by simp only[AC];omega)
  rw[(pC k hk).2 h1]at this;cases this
 ·rw[h4];simp only[AC]at h3;have e:j=k:=by
   rcases Nat.lt_trichotomy j k with z | z | z
   ·have:=h6 k z (by simp only[AC];omega)
    rw[(pC k hk).2 h1]at this;cases this
   ·exact z
   ·exact absurd ((pC j (by omega)).1 h5) (h2 j (by omega) z)
  rw[e]
theorem dH{p:ByteArray}{m:Int}(h:Bw p=some m):(47:UInt8)∈p.data.toList:=by
 refine N2 47 _ ?_;unfold Bw PU at h;split at h
 ·cases h
 ·split at h
  ·cases h
  ·rename_i hn;simp only[CQ,AE]at hn;omega
theorem ux(p:ByteArray)(hp:FZ p):PC 177 [vs p] (Tn Wr p):=by
 have hc:=qq p hp;have hi:=uI p hp;have Ed:p.size=p.data.toList.length:=by simp
 unfold Tn;cases h:Bw p with
 |none =>
  rw[h]at hi;refine Ps EI Tryz.func177 rfl (Nz rfl) ?_;refine Xi .pure (Xi _ (Yi (hi) ?_));exact .refl _
 |some n =>
  have d7:=dH h;rw[h]at hc hi;unfold FZ at hp;refine A8 (show ∃q,∃hq:q<p.data.toList.length,p.data.toList[q]=47 from BY d7) (fun q hq=>?_);refine A8 hq (fun hq eq=>?_);refine Ps EI Tryz.func177 rfl (Nz rfl) ?_;refine Xi .pure (Xi _ (Yi (hi) ?_));refine Xi .pure (Xi _ (Yi (hc) ?_));refine Yi (fun h=>absurd rfl h) (fun _=>?_);refine Yi (show Bf (((p.size:Nat):Int)-1) by unfold Bf;omega) ?_;refine Xi {k:Nat // k<p.data.toList.length∧∀j (hj:j<p.data.toList.length),k<j→p.data.toList[j]≠47} (Xi (fun k=>⟨[(0,vs p),(5,vi n),(7,vi k.1)],[],Aa⟩) (Xi (fun k=>k.1) (Yi (Xi ⟨p.data.toList.length-1,by omega,fun j hj IA=>by omega⟩ ?_) ?_)))
  ·have e1:vi (((p.size:Nat):Int)-1)=vi ((p.data.toList.length-1:Nat):Int):=Ac vi (by omega);exact⟨⟨Zr,Zr,⟨e1,rfl⟩,Tv⟩,Tv,Fh,Tv⟩
  intro⟨k,k1,k2⟩;have Rj:(0:Int)≤k∧p.data[((k:Nat):Int).toNat]?=some p.data.toList[k]:=⟨by omega,by rw[A6];exact MC p k k1⟩;refine Xi p.data.toList[k] (Yi Rj ?_);refine Yi (fun h2=>?_) (fun h2=>?_)
  ·have h2:¬(p.data.toList[k].toNat:Int)=47:=h2;have h2:p.data.toList[k]≠47:=fun e=>h2 (by rw[e];rfl);have hqk:q≤k:=by
    rcases BV k q with z | z
    ·exact absurd eq (k2 q hq z)
    ·exact z
   have WQ:q≠k:=fun e=>by subst e;exact h2 eq
   refine Yi (show Bf ((k:Int)-1) by unfold Bf;omega) ?_;have e1:vi ((k:Int)-1)=vi ((k-1:Nat):Int):=Ac vi (by omega);refine Xi ⟨k-1,by omega,fun j hj IA=>?_⟩ ?_
   ·rcases BV k j with z | z
    ·exact k2 j hj z
    ·have:j=k:=by omega
     subst this;exact h2
   ·exact⟨by show k-1<k;omega,⟨Zr,Zr,⟨e1,rfl⟩,Tv⟩,Tv,Fh,Tv⟩
  ·have h2:¬¬(p.data.toList[k].toNat:Int)=47:=h2;have h2:p.data.toList[k]=47:=Gr.1 (by have:=B3.1 h2;show p.data.toList[k].toNat=47;omega);have el:=Zw p k k1 h2 k2;refine Yi ⟨BQ _,by show(0:Int)≤k;omega,by show(k:Int)≤p.size;omega⟩ ?_;have e3:p.extract 0 ((k:Nat):Int).toNat=Wr p:=by unfold Wr;rw[el]
   exact .of_eq (show AV.tup [vs (p.extract 0 ((k:Nat):Int).toNat),vi n,vi 0]=_ by rw[e3])
theorem uh(p:ByteArray)(hp:FZ p):PC 123 [vs p] (vi (PS p)):=by
 have hc:=ux p hp;unfold Tn at hc;unfold PS;cases h:Bw p with
 |none =>
  rw[h]at hc;refine Ps EI Tryz.func123 rfl (Nz rfl) ?_;refine Xi .pure (Xi _ (Yi (hc) ?_));refine Yi (fun _=>?_) (fun h=>absurd (show(4:Int)≠0 by decide) h);exact .refl _
 |some m =>
  rw[h]at hc;refine Ps EI Tryz.func123 rfl (Nz rfl) ?_;refine Xi .pure (Xi _ (Yi (hc) ?_));refine Yi (fun h=>absurd rfl h) (fun _=>?_);exact .refl _
theorem fV:pU:=uh
end Go.Eng

namespace Go.Eng
open Go.Proofs
abbrev sm:QA:=⟨[],[(3,0)],[(63,2)],[],[],[],[],[],[],[(112,7)],[4,6,10,11,14,16,17,18]⟩
theorem KV(s:A9):∀cs∈s.map Ae,cs.length=2:=fun cs h=>by
 obtain⟨x,_,rfl⟩:=Aq.1 h;rfl
theorem Kw{n:Nat}:∀{l:List (List AV)},(∀c∈l,c.length=n)→B1 n l
 | [],_=>trivial
 |c::_,h=>⟨h c (Ab ..),Kw fun d hd=>h d (Ai _ hd)⟩
abbrev Mu(s:A9)(k:Nat):List (List AV):=((s.map Ae).take (((s.map Ae).length:Nat):Int).toNat).drop ((k:Nat):Int).toNat
theorem TR(s:A9)(k:Nat):Mu s k=(s.drop k).map Ae:=by
 unfold Mu;rw[A6,A6,Az (Ao _),List.map_drop]
theorem l7(s:A9)(x:Int×Int)(k:Nat)(h:s.length≤1073741824):B1 2 (Mu s k)∧[Ae x].length=1∧([Ae x].length+(Mu s k).length)*16≤140737488355328∧[Ae x].length+(Mu s k).length≤9223372036854775807:=by
 rw[TR];refine⟨Kw (KV _),rfl,?_,?_⟩<;>rw[Lm,B6,AC]<;>omega
abbrev QL(s:A9)(k:Nat):List (List AV):=((s.map Ae).take ((k:Nat):Int).toNat).drop ((0:Int)).toNat
theorem Xy(s:A9)(k:Nat):QL s k=(s.take k).map Ae:=by
 unfold QL;rw[A6,show(0:Int).toNat=0 from rfl,Ko,Rg]
theorem l8(s:A9)(x:Int×Int)(k:Nat)(hk:k≤s.length)(h:s.length≤1073741824):B1 2 ([Ae x]++Mu s k)∧(QL s k).length=((k:Nat):Int).toNat-((0:Int)).toNat∧((QL s k).length+([Ae x]++Mu s k).length)*16≤140737488355328∧(QL s k).length+([Ae x]++Mu s k).length≤9223372036854775807:=by
 rw[TR,Xy];refine⟨⟨rfl,Kw (KV _)⟩,?_,?_,?_⟩
 ·rw[Lm,AK,A6];show min k s.length=k-0;omega
 ·rw[Ad,Lm,Lm,AK,B6,AC];omega
 ·rw[Ad,Lm,Lm,AK,B6,AC];omega
theorem r5(s:A9)(x:Int×Int)(k:Nat):QL s k++([Ae x]++Mu s k)=(s.take k++([x]++s.drop k)).map Ae:=by
 rw[TR,Xy,AA,AA];rfl
theorem cE{s A:A9}{j:Nat}(h:j<s.length)(hA:A=(Bv (s.take j)).reverse){y:Int×Int}(hy:A[A.length-1]?=some y)(Hs:s[j].1≤y.2):A.set (A.length-1) (y.1,max y.2 s[j].2)=(Bv (s.take (j+1))).reverse:=by
 rw[Ft s j h];cases hr:Bv (s.take j)with
 |nil=>rw[hA,hr]at hy;cases hy
 |cons z t =>
  have eA:A=t.reverse++[z]:=by rw[hA,hr,EK]
  have eL:A.length-1=t.reverse.length:=by rw[eA,Ad,AC];omega
  rw[eL,eA,AR (Ao _),Ff]at hy;have ez:z=y:=Ch hy;have e2:JE (z::t) s[j]=(z.1,max z.2 s[j].2)::t:=by show(if s[j].1≤z.2 then _ else _)=_;rw[AB (ez▸Hs)]
  rw[e2,eL,eA,List.set_append_right _ _ (Ao _),Ff,EK,ez];rfl
theorem XW{s A:A9}{j:Nat}(h:j<s.length)(hA:A=(Bv (s.take j)).reverse)(hn:∀y,A[A.length-1]?=some y→¬s[j].1≤y.2):A++[s[j]]=(Bv (s.take (j+1))).reverse:=by
 rw[Ft s j h];cases hr:Bv (s.take j)with
 |nil=>rw[hA,hr];rfl
 |cons z t =>
  have eA:A=t.reverse++[z]:=by rw[hA,hr,EK]
  have eL:A.length-1=t.reverse.length:=by rw[eA,Ad,AC];omega
  have:=hn z (by rw[eL,eA,AR (Ao _),Ff];rfl)
  have e2:JE (z::t) s[j]=s[j]::z::t:=by show(if s[j].1≤z.2 then _ else _)=_;rw[Ar this]
  rw[e2,eA,EK,EK]
theorem r9(A:A9)(k:Nat)(y x:Int×Int):(A.map Ae).set k [vi y.1,vi (max y.2 x.2)]=(A.set k (y.1,max y.2 x.2)).map Ae:=by rw[Ny]
set_option maxHeartbeats 4000000 in
theorem ui(l:A9)(hl:CK l):PC 125 [sl Ae l] (sl Ae (canon l)):=by
 have hl:l.length≤1073741824:=hl;refine Ps sm Tryz.func125 rfl (Nz rfl) ?_;refine Xi {p:Nat×A9 // p.1≤l.length∧p.2.Perm (CJ (l.take p.1))∧p.2.Pairwise fun a b=>a.1≤b.1} (Xi (fun p=>⟨[(0,sl Ae l),(3,sl Ae p.1.2),(4,vi p.1.1)],[],Aa⟩) (Xi (fun p=>l.length-p.1.1) (Yi (Xi ⟨(0,[]),AL _,.refl _,.nil⟩ ?_) ?_)))
 ·exact⟨Z3,Tv,Fh,Tv⟩
 intro⟨⟨i,s⟩,i1,i2,i3⟩;have i1:i≤l.length:=i1;have i2:s.Perm (CJ (l.take i)):=i2;have i3:s.Pairwise fun a b=>a.1≤b.1:=i3;have T5:s.length≤i:=by rw[i2.length_eq];exact So l i
 refine Yi (fun h=>?_) (fun h=>?_)
 ·skip
  have h:(i:Int)<(l.map Ae).length:=h;have h:i<l.length:=by simpa using h
  have hg:l[i]?=some l[i]:=Ge h;refine Xi (Ae l[i]) (Yi (Yi (Nn i) (by simp[hg])) (Yi rfl ?_));refine Xi (Ae l[i]) (Yi (Yi (Nn i) (by simp[hg])) (Yi rfl ?_));refine Yi (Nz rfl) ?_;refine Yi (by kernel_rfl) ?_;refine Xi ⟨[(0,sl Ae l),(3,sl Ae s),(4,vi i),(5,.ref 5 0)],[(5,.cells (Ae (D6 l[i])))],Aa⟩ (Yi ?_ ?_)
  ·have e0:HO.cells [vi (max 0 l[i].1),vi (min 1000000 l[i].2)]=.cells (Ae (D6 l[i])):=by
    rw[Int.max_comm,Int.min_comm];rfl
   exact⟨Z4,⟨⟨e0,rfl⟩,Tv⟩,Fh,Tv⟩
  refine Yi (fun h3=>?_) (fun h3=>?_)
  ·have h3:(D6 l[i]).2≤(D6 l[i]).1:=h3;refine Xi ⟨[(0,sl Ae l),(3,sl Ae s),(4,vi i)],[],Aa⟩ (Yi ⟨Z3,Tv,Fh,Tv⟩ ?_)
   refine Yi (Ii i (by omega)) ?_;have e:=Sn h (show ¬(D6 l[i]).1<(D6 l[i]).2 by omega);refine Xi ⟨(i+1,s),by omega,by show s.Perm (CJ (l.take (i+1)));rw[e];exact i2,i3⟩ ?_;exact⟨Dl l.length i (by omega),Z3,Tv,Fh,Tv⟩
  have h3:¬(D6 l[i]).2≤(D6 l[i]).1:=h3;have e:=PA h (show(D6 l[i]).1<(D6 l[i]).2 by omega);refine Xi {k:Nat // k≤s.length∧∀j (hj:j<s.length),k≤j→(D6 l[i]).1<s[j].1} (Xi (fun k=>⟨[(0,sl Ae l),(3,sl Ae s),(4,vi i),(5,.ref 5 0),(6,vi k.1)],[(5,.cells (Ae (D6 l[i])))],Aa⟩) (Xi (fun k=>k.1) (Yi (Xi ⟨s.length,Ao _,fun j hj IA=>by omega⟩ ?_) ?_)))
  ·have e1:vi ((s.map Ae).length:Int)=vi (s.length:Int):=by rw[Lm]
   exact⟨⟨Zr,Zr,Zr,Zr,⟨e1,rfl⟩,Tv⟩,Z1,Fh,Tv⟩
  intro⟨k,k1,k2⟩;refine Yi (fun h4=>?_) (fun h4=>?_)
  ·have h4:(0:Int)<k:=h4;refine Yi (show Bf ((k:Int)-1) by unfold Bf;omega) ?_;have hk:k-1<s.length:=by omega
   have hg:s[k-1]?=some s[k-1]:=Ge hk;have hn:((k:Int)-1).toNat=k-1:=by omega
   refine Xi (Ae s[k-1]) (Yi (Yi (by show(0:Int)≤(k:Int)-1;omega) (by rw[hn];exact B5 hg)) (Yi rfl ?_));refine Yi (fun h5=>?_) (fun h5=>?_)
   ·have h5:(D6 l[i]).1<s[k-1].1:=h5;refine Yi (by kernel_rfl) ?_;refine Yi (show Bf ((k:Int)-1) by unfold Bf;omega) ?_;have e1:vi ((k:Int)-1)=vi ((k-1:Nat):Int):=Ac vi (by omega);refine Xi ⟨k-1,by omega,fun j hj IA=>?_⟩ ?_
    ·rcases BV j k with z | z
     ·have:j=k-1:=by omega
      subst this;exact h5
     ·exact k2 j hj z
    ·exact⟨by show k-1<k;omega,⟨Zr,Zr,Zr,Zr,⟨e1,rfl⟩,Tv⟩,Z1,Fh,Tv⟩
   have h5:¬(D6 l[i]).1<s[k-1].1:=h5;have Ia:k=0∨∃h:k-1<s.length,s[k-1].1≤(D6 l[i]).1:=.inr ⟨hk,by omega⟩;refine Yi (by kernel_rfl) ?_;refine Xi ⟨[(0,sl Ae l),(3,sl Ae s),(4,vi i),(5,.ref 5 0),(6,vi k)],[(5,.cells (Ae (D6 l[i])))],Aa⟩ (Yi ⟨Z5,Z1,Fh,Tv⟩ ?_)
   refine Yi (show(0:Int)≤0∧(0:Int)≤k∧(k:Int)=k∧(k:Int)≤((s.map Ae).length:Nat) by rw[Lm];omega) (Yi (KV s) ?_);refine Yi (Nz rfl) ?_;refine Yi (show(0:Int)≤k∧(k:Int)≤((s.map Ae).length:Nat)∧(((s.map Ae).length:Nat):Int)≤((s.map Ae).length:Nat) by rw[Lm];omega) (Yi (KV s) ?_);refine Yi (l7 s (D6 l[i]) k (by omega)) ?_;refine Yi (l8 s (D6 l[i]) k k1 (by omega)) ?_;refine Yi (by kernel_rfl) ?_;refine A8 (show ∃t,t=s.take k++([D6 l[i]]++s.drop k)from⟨_,rfl⟩) (fun t ht=>?_);refine Xi ⟨[(0,sl Ae l),(3,sl Ae t),(4,vi i)],[],Aa⟩ (Yi ?_ ?_)
   ·have e3:AV.slice .none (QL s k++([Ae (D6 l[i])]++Mu s k))=sl Ae t:=by rw[ht];exact Ac (AV.slice .none) (r5 s (D6 l[i]) k)
    exact⟨⟨Zr,⟨e3,rfl⟩,Zr,Tv⟩,Tv,Fh,Tv⟩
   refine Yi (Ii i (by omega)) ?_;refine Xi ⟨(i+1,t),by omega,by show t.Perm (CJ (l.take (i+1)));rw[e,ht];exact XV s _ k i2,by show t.Pairwise _;rw[ht];exact Td s _ k i3 k2 Ia⟩ ?_;exact⟨Dl l.length i (by omega),Z3,Tv,Fh,Tv⟩
  ·have h4:¬(0:Int)<k:=h4;have Ia:k=0∨∃h:k-1<s.length,s[k-1].1≤(D6 l[i]).1:=.inl (by omega);refine Yi (by kernel_rfl) ?_;refine Xi ⟨[(0,sl Ae l),(3,sl Ae s),(4,vi i),(5,.ref 5 0),(6,vi k)],[(5,.cells (Ae (D6 l[i])))],Aa⟩ (Yi ⟨Z5,Z1,Fh,Tv⟩ ?_)
   refine Yi (show(0:Int)≤0∧(0:Int)≤k∧(k:Int)=k∧(k:Int)≤((s.map Ae).length:Nat) by rw[Lm];omega) (Yi (KV s) ?_);refine Yi (Nz rfl) ?_;refine Yi (show(0:Int)≤k∧(k:Int)≤((s.map Ae).length:Nat)∧(((s.map Ae).length:Nat):Int)≤((s.map Ae).length:Nat) by rw[Lm];omega) (Yi (KV s) ?_);refine Yi (l7 s (D6 l[i]) k (by omega)) ?_;refine Yi (l8 s (D6 l[i]) k k1 (by omega)) ?_;refine Yi (by kernel_rfl) ?_;refine A8 (show ∃t,t=s.take k++([D6 l[i]]++s.drop k)from⟨_,rfl⟩) (fun t ht=>?_);refine Xi ⟨[(0,sl Ae l),(3,sl Ae t),(4,vi i)],[],Aa⟩ (Yi ?_ ?_)
   ·have e3:AV.slice .none (QL s k++([Ae (D6 l[i])]++Mu s k))=sl Ae t:=by rw[ht];exact Ac (AV.slice .none) (r5 s (D6 l[i]) k)
    exact⟨⟨Zr,⟨e3,rfl⟩,Zr,Tv⟩,Tv,Fh,Tv⟩
   refine Yi (Ii i (by omega)) ?_;refine Xi ⟨(i+1,t),by omega,by show t.Perm (CJ (l.take (i+1)));rw[e,ht];exact XV s _ k i2,by show t.Pairwise _;rw[ht];exact Td s _ k i3 k2 Ia⟩ ?_;exact⟨Dl l.length i (by omega),Z3,Tv,Fh,Tv⟩
 ·skip
  have h:¬(i:Int)<(l.map Ae).length:=h;have h:¬i<l.length:=by simpa using h
  have fin:(Bv s).reverse=canon l:=LD (by rw[Az (by omega)]at i2;exact i2) i3;refine Xi ⟨[(3,sl Ae s)],[],Aa⟩ (Yi ⟨Z1,Tv,Fh,Tv⟩ ?_)
  refine Xi {p:Nat×A9 // p.1≤s.length∧p.2=(Bv (s.take p.1)).reverse} (Xi (fun p=>⟨[(3,sl Ae s),(7,.msl 63 p.1.2.length),(8,vi p.1.1)],[(63,FK p.1.2)],Aa⟩) (Xi (fun p=>s.length-p.1.1) (Yi (Xi ⟨(0,[]),AL _,rfl⟩ ?_) ?_)))
  ·exact⟨Z3,Z1,Fh,Tv⟩
  intro⟨⟨j,A⟩,j1,hA⟩;have j1:j≤s.length:=j1;have hA:A=(Bv (s.take j)).reverse:=hA;have vA:A.length≤j:=by rw[hA,Dg];exact(NR s j j1).1
  refine Yi (fun h2=>?_) (fun h2=>?_)
  ·have h2:(j:Int)<((s.map Ae).length:Int):=h2;have h2:j<s.length:=by simpa using h2
   have pz:s[j]?=some s[j]:=Ge h2;refine Xi ⟨[(3,sl Ae s),(7,.msl 63 A.length),(8,vi j),(9,vi A.length)],[(63,FK A)],Aa⟩ (Yi ⟨Z4,Z1,Fh,Tv⟩ ?_)
   refine Yi (fun h3=>?_) (fun h3=>?_)
   ·have h3:(0:Int)<A.length:=h3;have mi:Bf ((A.length:Int)-1):=by unfold Bf;omega
    have hn:((A.length:Int)-1).toNat=A.length-1:=by omega
    have YF:(0:Int)≤(A.length:Int)-1∧(A.length:Int)-1<(A.length:Int):=by omega
    have Dz:A.length-1<A.length:=by omega
    have hg:A[A.length-1]?=some A[A.length-1]:=Ge Dz;have pA:(A.map Ae)[((A.length:Int)-1).toNat]?=some (Ae A[A.length-1]):=by rw[hn];exact B5 hg
    have wv:A.length=(A.map Ae).length:=by rw[Lm]
    have rU:(0:Int)≤j∧(s.map Ae)[((j:Nat):Int).toNat]?=some (Ae s[j]):=⟨by omega,by rw[A6];exact B5 pz⟩;refine Xi (Ae s[j]) (Yi rU (Yi rfl ?_));refine Yi mi (Yi YF (Yi wv (Xi (Ae A[A.length-1]) (Yi pA ?_))));refine Yi (fun h4=>?_) (fun h4=>?_)
    ·have h4:s[j].1≤A[A.length-1].2:=h4;refine Yi (by kernel_rfl) ?_;refine Xi ⟨[(3,sl Ae s),(7,.msl 63 A.length),(8,vi j),(9,vi A.length)],[(63,FK A)],Aa⟩ (Yi ⟨Z4,Z1,Fh,Tv⟩ ?_)
     refine Yi mi (Yi mi (Yi YF (Yi wv (Xi (Ae A[A.length-1]) (Yi pA ?_)))));refine Xi (Ae s[j]) (Yi rU (Yi rfl ?_));refine Yi YF (Yi wv (Xi (Ae A[A.length-1]) (Yi pA (Yi (Nz rfl) ?_))));refine Yi (by kernel_rfl) ?_;refine A8 (show ∃B,B=A.set (A.length-1) (A[A.length-1].1,max A[A.length-1].2 s[j].2)from⟨_,rfl⟩) (fun B hB=>?_);have e2:HO.arr 2 ((A.map Ae).set ((A.length:Int)-1).toNat [vi A[A.length-1].1,vi (max A[A.length-1].2 s[j].2)])=FK B:=by rw[hn,hB];exact Ac (HO.arr 2) (r9 A _ _ _)
     have e1:AV.msl 63 A.length=.msl 63 B.length:=by rw[hB,Gn]
     refine Xi ⟨[(3,sl Ae s),(7,.msl 63 B.length),(8,vi j)],[(63,FK B)],Aa⟩ (Yi ⟨⟨Zr,⟨e1,rfl⟩,Zr,Tv⟩,⟨⟨e2,rfl⟩,Tv⟩,Fh,Tv⟩ ?_)
     refine Yi (Ii j (by omega)) ?_;refine Xi ⟨(j+1,B),by omega,by rw[hB];exact cE h2 hA hg h4⟩ ?_;exact⟨Dl s.length j (by omega),Z3,Z1,Fh,Tv⟩
    have h4:¬s[j].1≤A[A.length-1].2:=h4;have wo:A++[s[j]]=(Bv (s.take (j+1))).reverse:=XW h2 hA fun y hy=>by
     rw[hg]at hy;rw[←Ch hy];exact h4
    refine Yi (by kernel_rfl) ?_;refine Xi ⟨[(3,sl Ae s),(7,.msl 63 A.length),(8,vi j),(9,vi A.length)],[(63,FK A)],Aa⟩ (Yi ⟨Z4,Z1,Fh,Tv⟩ ?_)
    refine Xi (Ae s[j]) (Yi rU (Yi rfl ?_));refine Yi (Nz rfl) ?_;have GI:B1 2 [Ae s[j]]∧(A.map Ae).length=A.length∧((A.map Ae).length+[Ae s[j]].length)*16≤140737488355328∧(A.map Ae).length+[Ae s[j]].length≤9223372036854775807 :=
     ⟨⟨rfl,trivial⟩,by rw[Lm],by rw[Lm,AC];omega,by rw[Lm,AC];omega⟩
    refine Yi GI ?_;refine A8 (show ∃B,B=A++[s[j]]from⟨_,rfl⟩) (fun B hB=>?_);have e1:AV.msl 63 ((A.map Ae).length+[Ae s[j]].length)=.msl 63 B.length:=by rw[hB];simp
    have e2:HO.arr 2 (A.map Ae++[Ae s[j]])=FK B:=by rw[hB];simp
    refine Xi ⟨[(3,sl Ae s),(7,.msl 63 B.length),(8,vi j)],[(63,FK B)],Aa⟩ (Yi ⟨⟨Zr,⟨e1,rfl⟩,Zr,Tv⟩,⟨⟨e2,rfl⟩,Tv⟩,Fh,Tv⟩ ?_)
    refine Yi (Ii j (by omega)) ?_;refine Xi ⟨(j+1,B),by omega,by rw[hB];exact wo⟩ ?_;exact⟨Dl s.length j (by omega),Z3,Z1,Fh,Tv⟩
   ·have h3:¬(0:Int)<A.length:=h3;have rU:(0:Int)≤j∧(s.map Ae)[((j:Nat):Int).toNat]?=some (Ae s[j]):=⟨by omega,by rw[A6];exact B5 pz⟩;have wo:A++[s[j]]=(Bv (s.take (j+1))).reverse:=XW h2 hA fun y hy=>by
     rw[AJ (by omega:A.length=0)]at hy;cases hy
    refine Yi (by kernel_rfl) ?_;refine Xi ⟨[(3,sl Ae s),(7,.msl 63 A.length),(8,vi j),(9,vi A.length)],[(63,FK A)],Aa⟩ (Yi ⟨Z4,Z1,Fh,Tv⟩ ?_)
    refine Xi (Ae s[j]) (Yi rU (Yi rfl ?_));refine Yi (Nz rfl) ?_;have GI:B1 2 [Ae s[j]]∧(A.map Ae).length=A.length∧((A.map Ae).length+[Ae s[j]].length)*16≤140737488355328∧(A.map Ae).length+[Ae s[j]].length≤9223372036854775807 :=
     ⟨⟨rfl,trivial⟩,by rw[Lm],by rw[Lm,AC];omega,by rw[Lm,AC];omega⟩
    refine Yi GI ?_;refine A8 (show ∃B,B=A++[s[j]]from⟨_,rfl⟩) (fun B hB=>?_);have e1:AV.msl 63 ((A.map Ae).length+[Ae s[j]].length)=.msl 63 B.length:=by rw[hB];simp
    have e2:HO.arr 2 (A.map Ae++[Ae s[j]])=FK B:=by rw[hB];simp
    refine Xi ⟨[(3,sl Ae s),(7,.msl 63 B.length),(8,vi j)],[(63,FK B)],Aa⟩ (Yi ⟨⟨Zr,⟨e1,rfl⟩,Zr,Tv⟩,⟨⟨e2,rfl⟩,Tv⟩,Fh,Tv⟩ ?_)
    refine Yi (Ii j (by omega)) ?_;refine Xi ⟨(j+1,B),by omega,by rw[hB];exact wo⟩ ?_;exact⟨Dl s.length j (by omega),Z3,Z1,Fh,Tv⟩
  ·have h2:¬(j:Int)<((s.map Ae).length:Int):=h2;have h2:¬j<s.length:=by simpa using h2
   refine Yi (by rw[Lm]) ?_;exact .of_eq (Ac (sl Ae) (show A=canon l by rw[hA,Az (by omega)];exact fin))
theorem km:pV:=ui
end Go.Eng

namespace Go.Eng
open Go.Proofs
end Go.Eng

namespace Go.Eng
open Go.Proofs
end Go.Eng

namespace Go.Eng
open Go.Proofs
end Go.Eng

namespace Go.Eng
open Go.Proofs
theorem ne(s:ByteArray):PC 175 [vs s] (vb (DK s)):=by
 refine Ps EI Tryz.func175 rfl (Nz rfl) ?_;refine Yi (fun h=>?_) (fun h=>?_)
 ·have h:((s.size:Nat):Int)=0:=h;exact .of_eq (Ac vb (show true=DK s by unfold DK;rw[Av (by omega:s.size=0)];rfl))
 have h:¬((s.size:Nat):Int)=0:=h;refine Yi (fun h2=>?_) (fun h2=>?_)
 ·have h2:((s.size:Nat):Int)=32:=h2;exact .of_eq (Ac vb (show true=DK s by unfold DK;rw[Av (by omega:s.size=32),T7]))
 have h2:¬((s.size:Nat):Int)=32:=h2;exact .of_eq (Ac vb (show false=DK s by unfold DK;rw[At (by omega:¬s.size=0),At (by omega:¬s.size=32)];rfl))
def IJ(v:Ver):Nat→Int
 |0=>v.a
 |1=>v.b
 |_=>v.c
abbrev N5(v:Ver):List (List AV):=[[vi v.a],[vi v.b],[vi v.c]]
theorem Pg(v:Ver)(i:Nat)(h:i<3):(N5 v)[((i:Nat):Int).toNat]?=some [vi (IJ v i)]:=by
 rw[A6]
 match i,h with
 |0,_=>rfl
 |1,_=>rfl
 |2,_=>rfl
theorem fm(a b:Ver)(i:Nat)(hi:i<3)(h:∀j,j<i→IJ a j=IJ b j)(hl:IJ a i<IJ b i):IW a b=-1:=by
 match i,hi,h,hl with
 |0,_,h,hl =>
  have hl:a.a<b.a:=hl;unfold IW Fx;simp[hl]
 |1,_,h,hl =>
  have hl:a.b<b.b:=hl;have h0:a.a=b.a:=h 0 (by omega);unfold IW Fx;simp[hl,h0]
 |2,_,h,hl =>
  have hl:a.c<b.c:=hl;have h0:a.a=b.a:=h 0 (by omega);have h1:a.b=b.b:=h 1 (by omega);unfold IW Fx;simp[hl,h0,h1]
theorem fj(a b:Ver)(i:Nat)(hi:i<3)(h:∀j,j<i→IJ a j=IJ b j)(hl:IJ b i<IJ a i):IW a b=1:=by
 match i,hi,h,hl with
 |0,_,h,hl =>
  have hl:b.a<a.a:=hl;have hn:¬a.a<b.a:=by omega
  unfold IW Fx;simp[hl,hn]
 |1,_,h,hl =>
  have hl:b.b<a.b:=hl;have hn:¬a.b<b.b:=by omega
  have h0:a.a=b.a:=h 0 (by omega);unfold IW Fx;simp[hl,hn,h0]
 |2,_,h,hl =>
  have hl:b.c<a.c:=hl;have hn:¬a.c<b.c:=by omega
  have h0:a.a=b.a:=h 0 (by omega);have h1:a.b=b.b:=h 1 (by omega);unfold IW Fx;simp[hl,hn,h0,h1]
theorem fh(a b:Ver)(h:∀j,j<3→IJ a j=IJ b j):IW a b=0:=by
 have h0:a.a=b.a:=h 0 (by omega);have h1:a.b=b.b:=h 1 (by omega);have h2:a.c=b.c:=h 2 (by omega);unfold IW Fx;simp[h0,h1,h2]
theorem uw(a b:Ver):PC 176 [.agg (Gi a),.agg (Gi b)] (vi (IW a b)):=by
 refine Ps (H2 [3,5]) Tryz.func176 rfl (Nz rfl) ?_;refine Xi ⟨[(5,.slice (.id 14 1) (N5 a)),(6,.slice (.id 21 1) (N5 b))],[(14,.tok 1 3),(21,.tok 1 3)],Aa⟩ (Yi ⟨Z2,Z2,Fh,Tv⟩ ?_)
 refine Xi {i:Nat // i≤3∧∀j,j<i→IJ a j=IJ b j} (Xi (fun i=>⟨[(5,.slice (.id 14 1) (N5 a)),(6,.slice (.id 21 1) (N5 b)),(7,vi i.1)],[(14,.tok 1 3),(21,.tok 1 3)],Aa⟩) (Xi (fun i=>3-i.1) (Yi (Xi ⟨0,AL _,fun j h=>by omega⟩ ?_) ?_)))
 ·exact⟨Z3,Z2,Fh,Tv⟩
 intro⟨i,i1,i2⟩;refine Yi (fun h=>?_) (fun h=>?_)
 ·have h:(i:Int)<3:=h;have h:i<3:=by omega
  refine Xi [vi (IJ a i)] (Yi (Yi (Nn i) (Pg a i h)) (Yi rfl ?_));refine Xi [vi (IJ b i)] (Yi (Yi (Nn i) (Pg b i h)) (Yi rfl ?_));refine Yi (fun h2=>?_) (fun h2=>?_)
  ·have h2:IJ a i<IJ b i:=h2;refine Yi (by kernel_rfl) ?_;exact .of_eq (Ac vi (fm a b i h i2 h2).symm)
  have h2:¬IJ a i<IJ b i:=h2;refine Yi (by kernel_rfl) ?_;refine Xi [vi (IJ a i)] (Yi (Yi (Nn i) (Pg a i h)) (Yi rfl ?_));refine Xi [vi (IJ b i)] (Yi (Yi (Nn i) (Pg b i h)) (Yi rfl ?_));refine Yi (fun h3=>?_) (fun h3=>?_)
  ·have h3:IJ b i<IJ a i:=h3;refine Yi (by kernel_rfl) ?_;exact .of_eq (Ac vi (fj a b i h i2 h3).symm)
  have h3:¬IJ b i<IJ a i:=h3;refine Yi (by kernel_rfl) ?_;refine Xi ⟨[(5,.slice (.id 14 1) (N5 a)),(6,.slice (.id 21 1) (N5 b)),(7,vi i)],[(14,.tok 1 3),(21,.tok 1 3)],Aa⟩ (Yi ⟨Z3,Z2,Fh,Tv⟩ ?_)
  refine Yi (Ii i (by omega)) ?_;refine Xi ⟨i+1,by omega,fun j hj=>?_⟩ ?_
  ·rcases BV j i with z | z
   ·exact i2 j z
   ·have:j=i:=by omega
    subst this;omega
  exact⟨Dl 3 i (by omega),Z3,Z2,Fh,Tv⟩
 ·have h:¬(i:Int)<3:=h;exact .of_eq (Ac vi (fh a b fun j hj=>i2 j (by omega)).symm)
theorem ug(a b:Rl):PC 122 [.agg (AY a),.agg (AY b)] (vi (Iq a b)):=by
 have hc:=uw a.ver b.ver;refine Ps EI Tryz.func122 rfl (Nz rfl) ?_;refine Yi (fun h=>?_) (fun h=>?_)
 ·have h:Op.bytesLess a.path.toList b.path.toList=true:=h;exact .of_eq (Ac vi (show(-1:Int)=Iq a b by unfold Iq LQ;rw[AB (show EH a.path b.path=true by rw[Fi];exact h)];rfl))
 have h:¬Op.bytesLess a.path.toList b.path.toList=true:=h;refine Yi (fun h2=>?_) (fun h2=>?_)
 ·have h2:Op.bytesLess b.path.toList a.path.toList=true:=h2;exact .of_eq (Ac vi (show(1:Int)=Iq a b by unfold Iq LQ;rw[Ar (show ¬EH a.path b.path=true by rw[Fi];exact h),AB (show EH b.path a.path=true by rw[Fi];exact h2)];rfl))
 have h2:¬Op.bytesLess b.path.toList a.path.toList=true:=h2;refine Yi (Nz rfl) (Yi (Nz rfl) ?_);refine Xi .pure (Xi _ (Yi (hc) ?_));exact .of_eq (Ac vi (show IW a.ver b.ver=Iq a b by unfold Iq LQ;rw[Ar (show ¬EH a.path b.path=true by rw[Fi];exact h),Ar (show ¬EH b.path a.path=true by rw[Fi];exact h2)];rfl))
end Go.Eng
