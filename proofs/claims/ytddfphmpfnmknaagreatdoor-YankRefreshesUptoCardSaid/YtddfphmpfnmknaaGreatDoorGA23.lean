/- Lemmas for the claims of this seat, without a condition: part 23 (R3, R4, R5, C60, C61, C62, C63, C64, R6, R7, R8, R9, R10). -/
import Derived.Test.YtddfphmpfnmknaaGreatDoorGA22
namespace Go.Eng
open Go.Proofs
variable {l:List UInt8}{n m:Int}{j:Nat}{A:Bb}(c:UInt8)(s:Bb)(p:ByteArray)(x:Int×Int)(k:Nat)
theorem mq{s:ByteArray}:Hu s.data.toList=(s.data.toList.all N6&&GN s.data.toList):=by
 unfold Hu;rw[Bool.and_comm]
theorem zz(s:ByteArray)(hs:s.data.toList.length<4611686018427387904):PC 223 [vs s] (vb (Hu s.data.toList)):=by
 have Ev:s.size=s.data.toList.length:=by simp
 have zZ:=zG s hs;rw[mq];refine Ps D3 Tryz.func223 rfl (Nz rfl) (Xi {i:Nat // i≤s.data.toList.length∧∀j (hj:j<s.data.toList.length),j<i→N6 s.data.toList[j]=true} (Xi (fun i=>⟨[(0,vs s),(3,vi i.1)],[],Af⟩) (Xi (fun i=>s.data.toList.length-i.1) (Yi (Xi ⟨0,AA _,fun j _ h=>by omega⟩ ?_) ?_))))
 ·exact⟨Z2,Tv,Fh,Tv⟩
 intro⟨i,h1,h2⟩;refine Yi ?_ ?_
 ·intro h;have h:(i:Int)<(s.size:Nat):=h;have h:i<s.data.toList.length:=by omega
  have S8:(0:Int)≤i∧s.data[((i:Nat):Int).toNat]?=some s.data.toList[i]:=⟨by omega,by rw[A7];exact Nx s i h⟩;have nx:N6 s.data.toList[i]=true→∀j (hj:j<s.data.toList.length),j<i+1→N6 s.data.toList[j]=true:=fun e j hj Iq=>by
   rcases BY j i with z | z
   ·exact h2 j hj z
   ·have:j=i:=by omega
    subst this;exact e
  refine Xi s.data.toList[i] (Yi S8 ?_);have h3:=rz s.data.toList[i];have h4:=nM s.data.toList[i];refine BF (Bt (EW s.data.toList[i])) (fun e=>?_) (fun e=>?_)
  ·rw[e]at h3;refine Xi .pure (Xi _ (Yi (h3) (Yi (Ii i ch) (Xi ⟨i+1,by omega,nx (by unfold N6;rw[e];rfl)⟩ ?_))));exact⟨Dl s.data.toList.length i ch,Z2,Tv,Fh,Tv⟩
  rw[e]at h3;refine Xi .pure (Xi _ (Yi (h3) (Xi s.data.toList[i] (Yi S8 (BF (Bt (CM s.data.toList[i])) (fun e2=>?_) (fun e2=>?_))))))
  ·rw[e2]at h4;refine Xi .pure (Xi _ (Yi (h4) (Yi (Ii i ch) (Xi ⟨i+1,by omega,nx (by unfold N6;rw[e2,VJ])⟩ ?_))));exact⟨Dl s.data.toList.length i ch,Z2,Tv,Fh,Tv⟩
  rw[e2]at h4;refine Xi .pure (Xi _ (Yi (h4) ?_));have er:s.data.toList.all N6=false:=by
   rw[AI];intro ha
   have:=AZ.1 ha _ (Aj h)
   unfold N6 at this;rw[e,e2]at this;cases this
  exact .of_eq (Ab vb (by rw[er];rfl))
 ·intro h;have h:¬(i:Int)<(s.size:Nat):=h;have er:s.data.toList.all N6=true:=AZ.2 fun c hc=>by
   obtain⟨j,hj,rfl⟩:=BZ hc;exact h2 j hj ch
  refine Xi .pure (Xi _ (Yi (zZ) ?_));exact .of_eq (Ab vb (by rw[er];rfl))
abbrev We:Option Int→AV
 |some n=>vi n
 |none=>vi (-1)
theorem zA(s:ByteArray)(hs:s.data.toList.length<4611686018427387904):PC 224 [vs s] (We (GM s.data.toList)):=by
 have Ev:s.size=s.data.toList.length:=by simp
 refine Ps (H1 [3]) Tryz.func224 rfl (Nz rfl) (Yi (fun h=>?_) (fun h=>?_))
 ·have h:((s.size:Nat):Int)<2:=h;exact .of_eq (Ab We (show(none:Option Int)=GM s.data.toList by
   cases hs:s.data.toList with
   |nil=>rfl
   |cons c r =>
    cases r with
    |nil=>unfold GM;simp
    |cons d r=>rw[hs]at Ev;simp only[Av]at Ev;omega))
 have h:¬((s.size:Nat):Int)<2:=h;refine Ba (show ∃c r,s.data.toList=c::r by
  cases e:s.data.toList with
  |nil=>rw[e]at Ev;simp only[Ax]at Ev;omega
  |cons c l=>exact⟨c,l,rfl⟩) (fun c hc=>?_)
 refine Ba hc (fun r jc=>?_);have hrl:s.size=r.length+1:=by rw[Ev,jc];rfl
 have hv0:GM s.data.toList=if c=118 then(if(r.isEmpty||decide (3<r.length)||(decide (1<r.length)&&decide (r.headD 0=48))||!r.all CM)=true then none else some (Ec r))else none:=by rw[jc];rfl
 refine Yi (fun h2=>?_) (fun h2=>?_)
 ·have h2:(4:Int)<((s.size:Nat):Int):=h2;exact .of_eq (Ab We (show(none:Option Int)=GM s.data.toList by rw[hv0,Aq (by omega:3<r.length)];simp))
 have h2:¬(4:Int)<((s.size:Nat):Int):=h2;refine Xi c (Yi ⟨by decide,by show s.data[(0:Int).toNat]?=_;rw[←AQ,jc];rfl⟩ ?_);refine Yi (fun h3=>?_) (fun h3=>?_)
 ·have h3:¬(c.toNat:Int)=118:=h3;have h3:¬c=118:=fun e=>h3 (by rw[e];rfl);exact .of_eq (Ab We (show(none:Option Int)=GM s.data.toList by rw[hv0,Ae h3]))
 have h3:¬¬(c.toNat:Int)=118:=h3;have h3:(c.toNat:Int)=118:=BB.1 h3;have h3:c=118:=GS.1 (by show c.toNat=118;omega);have hr:s.data.toList=118::r:=by rw[jc,h3]
 have hv:GM s.data.toList=if(r.isEmpty||decide (3<r.length)||(decide (1<r.length)&&decide (r.headD 0=48))||!r.all CM)=true then none else some (Ec r):=by rw[hv0,Al h3]
 have CB:0<r.length:=by omega
 have Rr:r.isEmpty=false:=by
  cases hl:r with
  |nil=>rw[hl]at CB;exact absurd CB Cl
  |cons a l=>rfl
 have vU:r.length≤3:=by omega
 have d3:decide (3<r.length)=false:=Ap ch;have z0:Ec (r.take 0)=0:=rfl;have hh:=ON r CB;refine Xi r[0] (Yi ⟨by decide,by show s.data[(1:Int).toNat]?=_;rw[←AQ,jc];show r[0]?=_;exact Ge CB⟩ ?_);refine Yi (fun h4=>?_) (fun h4=>?_)
 ·have h4:(r[0].toNat:Int)=48:=h4;have h4:r[0]=48:=GS.1 (by show r[0].toNat=48;omega);refine Yi (fun h5=>?_) (fun h5=>?_)
  ·have h5:(2:Int)<((s.size:Nat):Int):=h5;exact .of_eq (Ab We (show(none:Option Int)=GM s.data.toList by rw[hv,hh,h4,Aq (by omega:1<r.length)];simp))
  have h5:¬(2:Int)<((s.size:Nat):Int):=h5;have eo:(decide (1<r.length)&&decide (r.headD 0=48))=false:=by rw[Ap (by omega:¬1<r.length)];rfl
  refine cU [(0,vs s)] [] Z1 Tv (Xi {i:Nat // i≤r.length∧(∀j (hj:j<r.length),j<i→CM r[j]=true)∧0≤Ec (r.take i)∧(i=0→Ec (r.take i)≤0)∧(i≤1→Ec (r.take i)≤9)∧(i≤2→Ec (r.take i)≤99)∧Ec (r.take i)≤999} (Xi (fun i=>⟨[(0,vs s),(3,vi (Ec (r.take i.1))),(4,vi (1+(i.1:Int)))],[],Af⟩) (Xi (fun i=>r.length-i.1) (Yi (Xi ⟨0,AA _,fun j _ h=>by omega,by omega,fun _=>by omega,fun _=>by omega,fun _=>by omega,by omega⟩ ?_) ?_))))
  ·exact⟨Z3,Tv,Fh,Tv⟩
  intro⟨i,i1,i0,i2,i3,i4,i5,i6⟩;refine Yi ?_ ?_
  ·intro h;have h:1+(i:Int)<(s.size:Nat):=h;have h:i<r.length:=by omega
   have S8:(0:Int)≤1+(i:Int)∧s.data[(1+(i:Int)).toNat]?=some r[i]:=⟨by omega,by rw[show(1+(i:Int)).toNat=i+1 by omega,←AQ,hr,EP];exact Ge h⟩;refine Xi r[i] (Yi S8 ?_);have hc:=nM r[i];refine BF (Bt (CM r[i])).symm (fun e=>?_) (fun e=>?_)
   ·rw[e]at hc;refine Xi .pure (Xi _ (Yi (hc) ?_));have Gr:r.all CM=false:=by
     rw[AI];intro ha
     have:=AZ.1 ha _ (Aj h)
     rw[e]at this;cases this
    exact .of_eq (Ab We (show(none:Option Int)=GM s.data.toList by rw[hv,Gr];simp))
   rw[e]at hc;refine Xi .pure (Xi _ (Yi (hc) ?_));have qm:=JX e;have dT:=LB r i h;have cq:IntKind.u8.wrap ((r[i].toNat:Int)-48)=(r[i].toNat:Int)-48:=TG ch ch;refine Yi (by show Bc (10*Ec (r.take i));unfold Bc;omega) (Xi r[i] (Yi S8 (Yi (by show Bc (IntKind.u8.wrap ((r[i].toNat:Int)-48));rw[cq];unfold Bc;omega) ?_)));refine Yi (by show Bc (10*Ec (r.take i)+IntKind.u8.wrap ((r[i].toNat:Int)-48));rw[cq];unfold Bc;omega) ?_;refine Yi (by show Bc (1+(i:Int)+1);unfold Bc;omega) ?_;have e5:vi (10*Ec (r.take i)+IntKind.u8.wrap ((r[i].toNat:Int)-48))=vi (Ec (r.take (i+1))):=by rw[cq,dT]
   have e6:vi (1+(i:Int)+1)=vi (1+((i+1:Nat):Int)):=Ab vi ch;refine Xi ⟨i+1,by omega,fun j hj Iq=>?_,by omega,fun _=>by omega,fun _=>by omega,fun _=>by omega,by omega⟩ ?_
   ·rcases BY j i with z | z
    ·exact i0 j hj z
    ·have:j=i:=by omega
     subst this;exact e
   ·exact⟨Dl r.length i ch,⟨Zr,⟨e5,rfl⟩,⟨e6,rfl⟩,Tv⟩,Tv,Fh,Tv⟩
  ·intro h;have h:¬1+(i:Int)<(s.size:Nat):=h;have e3:r.all CM=true:=AZ.2 fun c hc=>by
    obtain⟨j,hj,rfl⟩:=BZ hc;exact i0 j hj ch
   have e6:vi (Ec (r.take i))=We (GM s.data.toList):=by rw[hv,Rr,d3,eo,e3,Au ch];rfl
   exact .of_eq e6
 have h4:¬(r[0].toNat:Int)=48:=h4;have eo:(decide (1<r.length)&&decide (r.headD 0=48))=false:=by rw[hh,Ap (show ¬r[0]=48 from fun e=>h4 (by rw[e];rfl)),Cz]
 refine cU [(0,vs s)] [] Z1 Tv (Xi {i:Nat // i≤r.length∧(∀j (hj:j<r.length),j<i→CM r[j]=true)∧0≤Ec (r.take i)∧(i=0→Ec (r.take i)≤0)∧(i≤1→Ec (r.take i)≤9)∧(i≤2→Ec (r.take i)≤99)∧Ec (r.take i)≤999} (Xi (fun i=>⟨[(0,vs s),(3,vi (Ec (r.take i.1))),(4,vi (1+(i.1:Int)))],[],Af⟩) (Xi (fun i=>r.length-i.1) (Yi (Xi ⟨0,AA _,fun j _ h=>by omega,by omega,fun _=>by omega,fun _=>by omega,fun _=>by omega,by omega⟩ ?_) ?_))))
 ·exact⟨Z3,Tv,Fh,Tv⟩
 intro⟨i,i1,i0,i2,i3,i4,i5,i6⟩;refine Yi ?_ ?_
 ·intro h;have h:1+(i:Int)<(s.size:Nat):=h;have h:i<r.length:=by omega
  have S8:(0:Int)≤1+(i:Int)∧s.data[(1+(i:Int)).toNat]?=some r[i]:=⟨by omega,by rw[show(1+(i:Int)).toNat=i+1 by omega,←AQ,hr,EP];exact Ge h⟩;refine Xi r[i] (Yi S8 ?_);have hc:=nM r[i];refine BF (Bt (CM r[i])).symm (fun e=>?_) (fun e=>?_)
  ·rw[e]at hc;refine Xi .pure (Xi _ (Yi (hc) ?_));have Gr:r.all CM=false:=by
    rw[AI];intro ha
    have:=AZ.1 ha _ (Aj h)
    rw[e]at this;cases this
   exact .of_eq (Ab We (show(none:Option Int)=GM s.data.toList by rw[hv,Gr];simp))
  rw[e]at hc;refine Xi .pure (Xi _ (Yi (hc) ?_));have qm:=JX e;have dT:=LB r i h;have cq:IntKind.u8.wrap ((r[i].toNat:Int)-48)=(r[i].toNat:Int)-48:=TG ch ch;refine Yi (by show Bc (10*Ec (r.take i));unfold Bc;omega) (Xi r[i] (Yi S8 (Yi (by show Bc (IntKind.u8.wrap ((r[i].toNat:Int)-48));rw[cq];unfold Bc;omega) ?_)));refine Yi (by show Bc (10*Ec (r.take i)+IntKind.u8.wrap ((r[i].toNat:Int)-48));rw[cq];unfold Bc;omega) ?_;refine Yi (by show Bc (1+(i:Int)+1);unfold Bc;omega) ?_;have e5:vi (10*Ec (r.take i)+IntKind.u8.wrap ((r[i].toNat:Int)-48))=vi (Ec (r.take (i+1))):=by rw[cq,dT]
  have e6:vi (1+(i:Int)+1)=vi (1+((i+1:Nat):Int)):=Ab vi ch;refine Xi ⟨i+1,by omega,fun j hj Iq=>?_,by omega,fun _=>by omega,fun _=>by omega,fun _=>by omega,by omega⟩ ?_
  ·rcases BY j i with z | z
   ·exact i0 j hj z
   ·have:j=i:=by omega
    subst this;exact e
  ·exact⟨Dl r.length i ch,⟨Zr,⟨e5,rfl⟩,⟨e6,rfl⟩,Tv⟩,Tv,Fh,Tv⟩
 ·intro h;have h:¬1+(i:Int)<(s.size:Nat):=h;have e3:r.all CM=true:=AZ.2 fun c hc=>by
   obtain⟨j,hj,rfl⟩:=BZ hc;exact i0 j hj ch
  have e6:vi (Ec (r.take i))=We (GM s.data.toList):=by rw[hv,Rr,d3,eo,e3,Au ch];rfl
  exact .of_eq e6
abbrev bv(l:List UInt8):List ByteArray:=(CT 47 l).map bs
def Xg:List (List UInt8)→UInt8→List (List UInt8)
 | [],_=>[]
 | [x],b=>[x++[b]]
 |x::l,b=>x::Xg l b
theorem LJ(s:List UInt8):CT c s≠[]:=by
 cases s with
 |nil=>rw[CT];exact MB _ _
 |cons b r =>
  rw[CT];split
  ·exact MB _ _
  ·split<;>exact MB _ _
theorem Vz(c:UInt8):∀s:List UInt8,CT c (s++[c])=CT c s++[[]]
 | []=>by simp[CT]
 |b::r=>by
  rw[Eg,CT,Vz c r,CT]
  by_cases e:b=c
  ·rw[Al e,Al e];rfl
  ·rw[Ae e,Ae e];cases h:CT c r with
   |nil=>exact absurd h (LJ c r)
   |cons x l=>rfl
theorem Vf(x:List UInt8){l:List (List UInt8)}(b:UInt8)(h:l≠[]):Xg (x::l) b=x::Xg l b:=by
 cases l with
 |nil=>exact absurd rfl h
 |cons y l=>rfl
theorem SQ(c b:UInt8)(hb:b≠c):∀s:List UInt8,CT c (s++[b])=Xg (CT c s) b
 | []=>by simp[CT,hb,Xg]
 |a::r=>by
  rw[Eg,CT,SQ c b hb r,CT]
  by_cases e:a=c
  ·rw[Al e,Al e,Vf _ _ (LJ c r)]
  ·rw[Ae e,Ae e];cases h:CT c r with
   |nil=>exact absurd h (LJ c r)
   |cons x l =>
    cases l with
    |nil=>rfl
    |cons y l=>rfl
theorem Xh(b:UInt8):∀(l:List (List UInt8)) (x:List UInt8),l[l.length-1]?=some x→l.set (l.length-1) (x++[b])=Xg l b
 | [],_,h=>by cases h
 | [y],x,h=>by
  have h:some y=some x:=h;rw[Cr h];rfl
 |y::z::l,x,h=>by
  have h:(z::l)[(z::l).length-1]?=some x:=h;rw[Vf y b (MB _ _),←Xh b (z::l) x h];rfl
theorem Vy(s:List UInt8):(CT c s).length≤s.length+1:=by
 induction s with
 |nil=>rw[CT];exact Ao _
 |cons b r ih =>
  rw[CT,Av];split
  ·rw[Av];omega
  ·split
   ·simp
   ·rename_i x l e;rw[e,Av]at ih;rw[Av];omega
abbrev wL:Q0:=⟨[],[],[(5,1)],[],[],[],[],[],[],[(36,3)],[4]⟩
theorem lW{c:UInt8}(hc:c≠47){x:ByteArray}(h:(bv l)[(bv l).length-1]?=some x):(bv l).set ((bv l).length-1) (x++bs [c])=bv (l++[c]):=by
 have h2:=h;rw[AL,Lm]at h;obtain⟨y,hy,e⟩:=AW.1 h;subst e;show _=(CT 47 (l++[c])).map bs;rw[SQ 47 c hc l,←Xh c (CT 47 l) y hy,E5,Lm]
 congr 1
theorem zy(s:ByteArray)(hs:Gi s):PC 222 [vs s] (sl Ft (bv s.data.toList)):=by
 unfold Gi at hs;have Ev:s.size=s.data.toList.length:=by simp
 refine Ps wL Tryz.func222 rfl (Nz rfl) (Xi {p:Nat×List ByteArray // p.1≤s.data.toList.length∧p.2=bv (s.data.toList.take p.1)} (Xi (fun p=>⟨[(0,vs s),(3,.msl 5 p.1.2.length),(4,vi p.1.1)],[(5,.arr 1 (p.1.2.map Ft))],Af⟩) (Xi (fun p=>s.data.toList.length-p.1.1) (Yi (Xi ⟨(0,[bs []]),AA _,rfl⟩ ?_) ?_))))
 ·exact⟨Z3,Z1,Fh,Tv⟩
 intro⟨⟨i,A⟩,h1,hA⟩;have h1:i≤s.data.toList.length:=h1;have hA:A=bv (s.data.toList.take i):=hA;have se:A.length≤i+1:=by
  have:=Vy 47 (s.data.toList.take i)
  rw[AB]at this;rw[hA,Lm];omega
 have Td:0<A.length:=by
  rw[hA,Lm];exact Ho.2 (LJ 47 _)
 refine Yi (fun h=>?_) (fun h=>?_)
 ·have h:(i:Int)<(s.size:Nat):=h;have h:i<s.data.toList.length:=by omega
  have S8:(0:Int)≤i∧s.data[((i:Nat):Int).toNat]?=some s.data.toList[i]:=⟨by omega,by rw[A7];exact Nx s i h⟩;have m9:s.data.toList.take (i+1)=s.data.toList.take i++[s.data.toList[i]]:=by rw[Be,Ge h];rfl
  refine Xi s.data.toList[i] (Yi S8 (Yi (fun h2=>?_) (fun h2=>?_)))
  ·have h2:(s.data.toList[i].toNat:Int)=47:=h2;have h2:s.data.toList[i]=47:=GS.1 (by show s.data.toList[i].toNat=47;omega);have GQ:Cf 1 [[vs (bs [])]]∧(A.map Ft).length=A.length∧((A.map Ft).length+[[vs (bs [])]].length)*16≤140737488355328∧(A.map Ft).length+[[vs (bs [])]].length≤9223372036854775807 :=
    ⟨⟨rfl,trivial⟩,by rw[Lm],by rw[Lm,AG];omega,by rw[Lm,AG];omega⟩
   refine Yi GQ (Xi ⟨[(0,vs s),(3,.msl 5 (A++[bs []]).length),(4,vi i)],[(5,.arr 1 ((A++[bs []]).map Ft))],Af⟩ (Yi ?_ ?_))
   ·have e1:AV.msl 5 ((A.map Ft).length+[[vs (bs [])]].length)=.msl 5 (A++[bs []]).length:=by simp
    have e2:HO.arr 1 (A.map Ft++[[vs (bs [])]])=.arr 1 ((A++[bs []]).map Ft):=by rw[As];rfl
    exact⟨⟨Zr,⟨e1,rfl⟩,Zr,Tv⟩,⟨⟨e2,rfl⟩,Tv⟩,Fh,Tv⟩
   refine Yi (Ii i ch) ?_;have eA:A++[bs []]=bv (s.data.toList.take (i+1)):=by
    rw[hA,m9,h2];show _=(CT 47 _).map bs;rw[Vz,As];rfl
   refine Xi ⟨(i+1,A++[bs []]),by omega,eA⟩ ?_;exact⟨Dl s.data.toList.length i ch,Z3,Z1,Fh,Tv⟩
  have h2:¬(s.data.toList[i].toNat:Int)=47:=h2;have h2:s.data.toList[i]≠47:=fun e=>h2 (by rw[e];rfl);have kK:Bc ((A.length:Int)-1):=by unfold Bc;omega
  have DJ:A.length-1<A.length:=by omega
  have hn:((A.length:Int)-1).toNat=A.length-1:=by omega
  have hg:A[A.length-1]?=some A[A.length-1]:=Ge DJ;have vI:Gi A[A.length-1]:=by
   have oy:∀x∈A,x∈bv (s.data.toList.take i):=fun x hx=>hA▸hx;obtain⟨y,hy,e⟩:=Am.1 (oy _ (Aj DJ));have h5:=Mi 47 _ y hy;rw[AB]at h5;unfold Gi;rw[←e,show(bs y).size=y.length from rfl];omega
  have Te:((A[A.length-1].size+(⟨[s.data.toList[i]].toArray⟩:ByteArray).size:Nat):Int)≤9223372036854775807:=by
   unfold Gi at vI
   have:(⟨[s.data.toList[i]].toArray⟩:ByteArray).size=1:=rfl
   omega
  refine Yi kK (Yi kK (Yi (show(0:Int)≤(A.length:Int)-1∧(A.length:Int)-1<(A.length:Int) by omega) (Yi (by rw[Lm]) ?_)));have tV:(A.map Ft)[((A.length:Int)-1).toNat]?=some (Ft A[A.length-1]):=by rw[hn];exact CR hg
  refine Xi (Ft A[A.length-1]) (Yi tV (Xi s.data.toList[i] (Yi S8 (Xi [s.data.toList[i]] (Yi rfl (Yi Te (Yi (show(0:Int)≤(A.length:Int)-1∧(A.length:Int)-1<(A.length:Int) by omega) (Yi (by rw[Lm]) ?_))))))));refine Xi (Ft A[A.length-1]) (Yi tV (yN (Yi Wk (Ba (show ∃B,B=A.set (A.length-1) (A[A.length-1]++bs [s.data.toList[i]])from⟨_,rfl⟩) (fun B hB=>?_)))));have kw:B.length=A.length:=by rw[hB,CJ]
  have e2:HO.arr 1 ((A.map Ft).set ((A.length:Int)-1).toNat [vs (A[A.length-1]++⟨[s.data.toList[i]].toArray⟩)])=.arr 1 (B.map Ft):=by rw[hn,hB,E5];rfl
  refine cU [(0,vs s),(3,.msl 5 B.length),(4,vi i)] [(5,.arr 1 (B.map Ft))] ⟨Zr,⟨Ab (AV.msl 5) kw.symm,rfl⟩,Zr,Tv⟩ ⟨⟨e2,rfl⟩,Tv⟩ (Yi (Ii i ch) ?_);have eB:B=bv (s.data.toList.take (i+1)):=by
   rw[m9,hB];subst hA;exact lW h2 hg
  refine Xi ⟨(i+1,B),by omega,eB⟩ ?_;exact⟨Dl s.data.toList.length i ch,Z3,Z1,Fh,Tv⟩
 ·have h:¬(i:Int)<(s.size:Nat):=h;refine Yi (by rw[Lm]) ?_;exact .of_eq (Ab (sl Ft) (show A=bv s.data.toList by rw[hA,Au ch]))
theorem bo{s:List UInt8}(h:GM s=some n):0≤n:=by
 cases s with
 |nil=>unfold GM at h;cases h
 |cons c r =>
  have h:(if c=118 then(if(r.isEmpty||decide (3<r.length)||(decide (1<r.length)&&decide (r.headD 0=48))||!r.all CM)=true then none else some (Ec r))else none)=some n:=h
  by_cases hc:c=118
  ·rw[Al hc]at h
   by_cases hb:(r.isEmpty||decide (3<r.length)||(decide (1<r.length)&&decide (r.headD 0=48))||!r.all CM)=true
   ·rw[Al hb]at h;cases h
   ·rw[Ae hb]at h;have ha:r.all CM=true:=by
     cases hr:r.all CM
     ·rw[hr]at hb;simp at hb
     ·rfl
    rw[←Cr h]
    suffices hh:∀i,i≤r.length→0≤Ec (r.take i) by
     have:=hh r.length (Ao _)
     rwa [Dp]at this
    intro i
    induction i with
    |zero=>intro _;exact BK _
    |succ i ih =>
     intro hi;have hd:=JX (AZ.1 ha _ (Aj (show i<r.length by omega)))
     have:=ih ch
     rw[LB r i ch];omega
  ·rw[Ae hc]at h;cases h
theorem lV{x:ByteArray}(h:(bv l)[(bv l).length-1]?=some x):(CT 47 l).getLastD []=x.data.toList:=by
 rw[Lm,AL,←List.getLast?_eq_getElem?]at h;obtain⟨y,hy,e⟩:=AW.1 h;rw[List.getLastD_eq_getLast?,hy,←e];rfl
theorem uF(hp:Gi p):PC 191 [vs p] (RB (Bu p)):=by
 have Ev:p.size=p.data.toList.length:=by simp
 have hc:=zy p hp;unfold Gi at hp;obtain⟨A,hA⟩:∃A,A=bv p.data.toList:=⟨_,rfl⟩;rw[←hA]at hc;have z8:A.length=(CT 47 p.data.toList).length:=by rw[hA,Lm]
 have se:=Vy 47 p.data.toList;have Td:0<A.length:=by rw[z8];exact Ho.2 (LJ 47 _)
 have ZN:∀x∈A,x.data.toList.length<4611686018427387904:=fun x hx=>by
  obtain⟨y,hy,e⟩:=Am.1 (hA▸hx:x∈bv p.data.toList);have h5:=Mi 47 _ y hy;rw[←e];show y.length<_;omega
 have Gr:(CT 47 p.data.toList).all Hu=A.all fun x=>Hu x.data.toList:=by rw[hA,List.all_map];rfl
 have DJ:A.length-1<A.length:=by omega
 have hg:A[A.length-1]?=some A[A.length-1]:=Ge DJ;have ZL:(CT 47 p.data.toList).getLastD []=A[A.length-1].data.toList:=by
  subst hA;exact lV hg
 have em:Bu p=match GM A[A.length-1].data.toList with
  |none=>none
  |some n=>if(decide (64<p.data.toList.length)||decide (A.length<2))=true then none else if(A.all fun x=>Hu x.data.toList)=true then some n else none:=by
  unfold Bu RC;rw[ZL,Gr,←z8];cases GM A[A.length-1].data.toList with
  |none=>rfl
  |some n=>rfl
 clear Gr ZL
 have hv:=zA A[A.length-1] (ZN _ (Aj DJ));obtain⟨o,ho⟩:∃o,o=GM A[A.length-1].data.toList:=⟨_,rfl⟩;rw[←ho]at hv em;have hz:∀n,o=some n→0≤n:=fun n e=>by
  rw[e]at ho;exact bo ho.symm
 refine Ps (H1 [4,9,10]) Tryz.func191 rfl (Nz rfl) (Yi (fun h=>?_) (fun h=>?_))
 ·have h:(64:Int)<((p.size:Nat):Int):=h;exact .of_eq (Ab RB (show(none:Option Int)=Bu p by rw[em,Aq (by omega:64<p.data.toList.length)];cases o<;>rfl))
 have h:¬(64:Int)<((p.size:Nat):Int):=h;have d1:decide (64<p.data.toList.length)=false:=Ap ch;refine Xi .pure (Xi _ (Yi (hc) (cU [(4,sl Ft A)] [] Z1 Tv (Xi {i:Nat // i≤A.length∧∀j (hj:j<A.length),j<i→Hu (A[j]).data.toList=true} (Xi (fun i=>⟨[(4,sl Ft A),(5,vi i.1)],[],Af⟩) (Xi (fun i=>A.length-i.1) (Yi (Xi ⟨0,AA _,fun j _ h=>by omega⟩ ?_) ?_)))))))
 ·exact⟨Z2,Tv,Fh,Tv⟩
 intro⟨i,i1,i2⟩;refine Yi (fun h2=>?_) (fun h2=>?_)
 ·have h2:(i:Int)<((A.map Ft).length:Int):=h2;have h2:i<A.length:=by simpa using h2
  have hg:A[i]?=some A[i]:=Ge h2;refine Xi (Ft A[i]) (Yi (Yi (Nn i) (by simp[hg])) (Yi rfl ?_));have hn:=zz A[i] (ZN _ (Aj h2));refine BF (Bt (Hu A[i].data.toList)).symm (fun e1=>?_) (fun e1=>?_)
  ·rw[e1]at hn;refine Xi .pure (Xi _ (Yi (hn) ?_));have e2:(A.all fun x=>Hu x.data.toList)=false:=by
    rw[AI];intro hh
    have:=AZ.1 hh _ (Aj h2)
    rw[e1]at this;cases this
   exact .of_eq (Ab RB (show(none:Option Int)=Bu p by
    rw[em,e2];cases o with
    |none=>rfl
    |some n=>cases (decide (64<p.data.toList.length)||decide (A.length<2))<;>rfl))
  rw[e1]at hn;refine Xi .pure (Xi _ (Yi (hn) (Yi (Ii i ch) (Xi ⟨i+1,by omega,fun j hj Iq=>?_⟩ ?_))))
  ·rcases BY j i with z | z
   ·exact i2 j hj z
   ·have:j=i:=by omega
    subst this;exact e1
  ·exact⟨Dl A.length i ch,Z2,Tv,Fh,Tv⟩
 have h2:¬(i:Int)<((A.map Ft).length:Int):=h2;have h2:¬i<A.length:=by simpa using h2
 have e2:(A.all fun x=>Hu x.data.toList)=true:=AZ.2 fun x hx=>by
  obtain⟨j,hj,rfl⟩:=BZ hx;exact i2 j hj ch
 have em:Bu p=match(generalizing:=false) o with
  |none=>none
  |some n=>if decide (A.length<2)=true then none else some n:=by
  rw[em,e2,d1];cases o<;>rfl
 refine cU [(4,sl Ft A)] [] Z1 Tv ?_
 have bt:(((A.map Ft).length:Int)-1).toNat=A.length-1:=by rw[Lm];omega
 refine Yi (by show Bc (((A.map Ft).length:Int)-1);rw[Lm];unfold Bc;omega) ?_;refine Xi (Ft A[A.length-1]) (Yi (Yi (by show(0:Int)≤((A.map Ft).length:Int)-1;rw[Lm];omega) (by rw[bt];exact CR hg)) (Yi rfl ?_));refine Xi .pure (Xi _ (Yi (hv) ?_));refine Ba (show ∃z:Int,We o=vi z∧(z<0↔o=none)∧∀n,o=some n→z=n by
  cases o with
  |none=>exact⟨-1,rfl,⟨fun _=>rfl,fun _=>by decide⟩,fun n h=>by cases h⟩
  |some n=>exact⟨n,rfl,⟨fun h=>absurd (hz n rfl) ch,fun h=>by cases h⟩,fun m h=>by cases h;rfl⟩) (fun z ym=>?_)
 refine cU [(4,sl Ft A),(6,vi z)] [] ⟨Zr,⟨ym.1,rfl⟩,Tv⟩ Tv (Yi (fun h3=>?_) (fun h3=>?_))
 ·have h3:((A.map Ft).length:Int)<2:=h3;rw[Lm]at h3;exact .of_eq (Ab RB (show(none:Option Int)=Bu p by rw[em,Aq (by omega:A.length<2)];cases o<;>rfl))
 have h3:¬((A.map Ft).length:Int)<2:=h3;rw[Lm]at h3;refine Yi (fun h4=>?_) (fun h4=>?_)
 ·have h4:z<0:=h4;exact .of_eq (Ab RB (show(none:Option Int)=Bu p by rw[em,ym.2.1.1 h4]))
 have h4:¬z<0:=h4;refine Ba (show ∃n,o=some n by
  cases o with
  |none=>exact absurd (ym.2.1.2 rfl) h4
  |some n=>exact⟨n,rfl⟩) (fun n hn=>?_)
 exact .of_eq (show AV.tup [vi z,vi 0]=RB (Bu p) by rw[em,hn,ym.2.2 n hn,Ap (by omega:¬A.length<2)];rfl)
theorem zt(hp:Gi p):PC 190 [vs p] (vb (Bu p).isSome):=by
 have hc:=uF p hp;cases h:Bu p with
 |none =>
  rw[h]at hc;refine Ps D3 Tryz.func190 rfl (Nz rfl) (Xi .pure (Xi _ (Yi (hc) (Yi ?_ ?_))))
  ·intro h;exact absurd (show(4:Int)=0 from h) Cl
  ·intro _;exact .refl _
 |some n =>
  rw[h]at hc;refine Ps D3 Tryz.func190 rfl (Nz rfl) (Xi .pure (Xi _ (Yi (hc) (Yi ?_ ?_))))
  ·intro _;exact .refl _
  ·intro h;exact absurd rfl h
theorem c80(s:List Sl)(hs:Cy s):PC 48 [sl Ac s] (vb (DG s)):=by
 unfold Cy at hs;refine Ps D3 Tryz.func48 rfl (Nz rfl) ?_;refine Xi {i:Nat // 1≤i∧(s=[]∨i≤s.length)∧DG s=(match s[i-1]? with | none=>true | some y=>M5 (some y.path) (s.drop i))} (Xi (fun i=>⟨[(0,sl Ac s),(3,vi i.1)],[],Af⟩) (Xi (fun i=>s.length-i.1) (Yi (Xi ⟨1,Ao _,by cases s with | nil=>exact .inl rfl | cons _ _=>exact .inr B0,by cases s<;>rfl⟩ ?_) ?_)))
 ·exact⟨Z2,Tv,Fh,Tv⟩
 intro⟨i,h1,h2,h3⟩;refine Yi ?_ ?_
 ·intro h;have h:(i:Int)<(s.map Ac).length:=h;have h:i<s.length:=by simpa using h
  have hg:s[i]?=some s[i]:=Ge h;have h' : i-1<s.length:=by omega
  have ci : s[i-1]?=some s[i-1]:=Ge h';have e1:((i:Int)-1).toNat=i-1:=by omega
  have ZT:DG s=(DL s[i-1].path s[i].path&&M5 (some s[i].path) (s.drop (i+1))):=by
   rw[h3,ci]
   have:=lc s (i-1) ch
   simp only[show i-1+1=i by omega,show i-1+2=i+1 by omega]at this;exact this
  refine Xi (Ac s[i]) (Yi (Yi (Nn i) (by simp[hg])) (Yi rfl ?_));refine Yi (by show Bc ((i:Int)-1);unfold Bc;omega) (Xi (Ac s[i-1]) (Yi (Yi (by show(0:Int)≤(i:Int)-1;omega) (by show(s.map Ac)[((i:Int)-1).toNat]?=_;rw[e1];simp[ci])) (Yi rfl (Yi ?_ ?_))))
  ·intro h4;have h4:Op.bytesLess s[i-1].path.toList s[i].path.toList=false:=h4;rw[←Ed]at h4;refine Yi Wk ?_;exact .of_eq (Ab vb (show false=DG s by rw[ZT,h4];rfl))
  ·intro h4;have h4:¬Op.bytesLess s[i-1].path.toList s[i].path.toList=false:=h4;rw[←Ed,Bool.not_eq_false]at h4;refine Yi Wk (Yi (Ii i ch) (Xi ⟨i+1,by omega,.inr ch,by rw[ZT,h4,show i+1-1=i by omega,hg];rfl⟩ ?_));exact⟨Dl s.length i ch,Z2,Tv,Fh,Tv⟩
 ·intro h;have h:¬(i:Int)<(s.map Ac).length:=h;have h:¬i<s.length:=by simpa using h
  have Aaw:DG s=true:=by
   rcases h2 with h2 | h2
   ·rw[h2];rfl
   ·have e:i=s.length:=by omega
    rw[h3,e,List.drop_length];cases s[s.length-1]?<;>rfl
  exact .of_eq (Ab vb Aaw.symm)
abbrev RA:Int:=match Bu p with | none=>-1 | some m=>m
abbrev uh:Prop:=∀p:ByteArray,Gi p→PC 100 [vs p] (vi (RA p))
abbrev ui:Prop:=∀s:Bb,Cy s→PC 142 [sl Ag s] (sl Ag (canon s))
theorem pe{r:List UInt8}(h:r.all CM=true):0≤Ec r:=by
 have:∀(l:List UInt8) (n:Int),0≤n→(∀c∈l,CM c=true)→0≤l.foldl (fun n c=>10*n+((c.toNat:Int)-48)) n:=by
  intro l
  induction l with
  |nil=>intro n hn _;exact hn
  |cons c l ih =>
   intro n hn hc
   have:=JX (hc c (Aa ..))
   exact ih _ (show 0≤10*n+((c.toNat:Int)-48) by omega) fun d hd=>hc d (Ah _ hd)
 exact this r 0 (BK _) (fun c hc=>AZ.1 h c hc)
theorem pZ{s:List UInt8}(h:GM s=some n):0≤n:=by
 unfold GM at h;split at h
 ·split at h
  ·split at h
   ·cases h
   ·rename_i r _ hc;cases h;refine pe ?_;cases hd:r.all CM with
    |true=>rfl
    |false=>rw[hd]at hc;simp at hc
  ·cases h
 ·cases h
theorem lw{p:ByteArray}(h:Bu p=some m):0≤m:=by
 unfold Bu RC at h;split at h
 ·cases h
 ·rename_i n e;split at h
  ·cases h
  ·split at h
   ·cases h;exact pZ e
   ·cases h
theorem Qn:RA p<0↔(Bu p).isNone=true:=by
 unfold RA;cases h:Bu p with
 |none=>simp
 |some m=>have:=lw h;simp;omega
theorem c68(ko:uh)(n6:ui)(l:List Rq)(hs:∀q∈l,J8 q):PC 102 [sl AH l] (vi (Bn l)):=by
 refine Ps (H1 []) Tryz.func102 rfl (Nz rfl) (Yi ?_ ?_)
 ·intro h;have h:(16:Int)<(l.map AH).length:=h;exact .of_eq (Ab vi (show(7:Int)=Bn l by unfold Bn;rw[Al (by rw[Lm]at h;omega)]))
 intro h;have h:¬(16:Int)<(l.map AH).length:=h;have hl:l.length≤16:=by rw[Lm]at h;omega
 have NY:Bn l=Ek none l:=by unfold Bn;rw[Ae ch]
 refine Xi {i:Nat // i≤l.length∧Ek none l=Ek (If l i) (l.drop i)} (Xi (fun i=>⟨[(0,sl AH l),(3,vi i.1)],[],Af⟩) (Xi (fun i=>l.length-i.1) (Yi (Xi ⟨0,AA _,rfl⟩ ?_) ?_)))
 ·exact⟨Z2,Tv,Fh,Tv⟩
 intro⟨i,h1,h2⟩;refine Yi ?_ ?_
 ·intro h;have h:(i:Int)<(l.map AH).length:=h;have h:i<l.length:=by simpa using h
  have hg:l[i]?=some l[i]:=Ge h;have hd:l.drop i=l[i]::l.drop (i+1):=AP h;have hq:=hs l[i] (Aj h);have H8:Ek none l=if GK (If l i) l[i]=0 then Ek (some l[i].path) (l.drop (i+1))else GK (If l i) l[i]:=by rw[h2,hd];rfl
  have fail:∀e:Int,GK (If l i) l[i]=e→e≠0→e=Bn l:=fun e he hz=>by rw[NY,H8,he,Ae hz]
  have dT:If l (i+1)=some l[i].path:=MM h;refine Xi (AH l[i]) (Yi (Yi (Nn i) (by simp[hg])) (Yi rfl ?_));refine Xi .pure (Xi _ (Yi (ko l[i].path hq.2) (Yi ?_ ?_)))
  ·intro h3;have h3:RA l[i].path<0:=h3;exact .of_eq (Ab vi (fail 4 (by unfold GK;rw[Al ((Qn _).1 h3)]) Cl))
  intro h3;have h3:¬RA l[i].path<0:=h3;have hmj:(Bu l[i].path).isNone=false:=by
   rw[AI];exact fun e=>h3 ((Qn _).2 e)
  have er:GK (If l i) l[i]=if(l[i].set.isEmpty||!decide (l[i].set=canon l[i].set)||(match If l i with | some b=>!DL b l[i].path | none=>false))=true then 1 else 0:=by unfold GK;rw[hmj];rfl
  refine Xi (AH l[i]) (Yi (Yi (Nn i) (by simp[hg])) (Yi rfl ?_));refine Yi ?_ ?_
  ·intro h4;have h4:((l[i].set.map Ag).length:Int)=0:=h4;have h5:l[i].set.isEmpty=true:=by
    rw[Lm]at h4;rw[Gp];exact AK ch
   refine Yi Wk ?_;exact .of_eq (Ab vi (fail 1 (by rw[er,h5];rfl) Cl))
  intro h4;have h4:¬((l[i].set.map Ag).length:Int)=0:=h4;have h5:l[i].set.isEmpty=false:=by
   cases hqs:l[i].set with
   |nil=>rw[hqs]at h4;exact absurd rfl h4
   |cons a b=>rfl
  have he:=c75 l[i].set (canon l[i].set) hq.1;refine Xi (AH l[i]) (Yi (Yi (Nn i) (by simp[hg])) (Yi rfl ?_));refine Xi (AH l[i]) (Yi (Yi (Nn i) (by simp[hg])) (Yi rfl ?_));refine Xi _ (Yi (n6 l[i].set hq.1) (BF (Bt (decide (l[i].set=canon l[i].set))) (fun e=>?_) (fun e=>?_)))
  rotate_left
  ·rw[e]at he;refine Xi _ (Yi (he) (Yi Wk ?_));exact .of_eq (Ab vi (fail 1 (by rw[er,h5,e];rfl) Cl))
  rw[e]at he;refine Xi _ (Yi (he) (Yi Wk (Yi ?_ ?_)))
  ·intro h6;have h6:(0:Int)<i:=h6;have h7:i-1<l.length:=by omega
   have hb:If l i=some l[i-1].path:=by
    obtain⟨k,rfl⟩:∃k,i=k+1:=⟨i-1,by omega⟩;exact MM h7
   refine Xi (AH l[i]) (Yi (Yi (Nn i) (by simp[hg])) (Yi rfl ?_));refine Yi (by show Bc ((i:Int)-1);unfold Bc;omega) (Xi (AH l[i-1]) (Yi (Yi (by show(0:Int)≤(i:Int)-1;omega) (by rw[show((i:Int)-1).toNat=i-1 by omega];exact CR (Ge h7))) (Yi rfl ?_)));refine Yi ?_ ?_
   ·intro h8;have h8:Op.bytesLess l[i-1].path.toList l[i].path.toList=false:=h8;refine Yi Wk ?_;exact .of_eq (Ab vi (fail 1 (by rw[er,h5,e,hb];show(if(!DL l[i-1].path l[i].path)=true then(1:Int)else 0)=1;rw[Ed,h8];rfl) Cl))
   ·intro h8;have h8:¬Op.bytesLess l[i-1].path.toList l[i].path.toList=false:=h8;have h8:Op.bytesLess l[i-1].path.toList l[i].path.toList=true:=by simpa using h8
    refine Yi Wk (Yi (Ii i ch) (Xi ⟨i+1,by omega,by rw[H8,dT,Al (by rw[er,h5,e,hb];show(if(!DL l[i-1].path l[i].path)=true then(1:Int)else 0)=0;rw[Ed,h8];rfl)]⟩ ?_));exact⟨Dl l.length i ch,Z2,Tv,Fh,Tv⟩
  ·intro h6;have h6:¬(0:Int)<i:=h6;have h7:i=0:=by omega
   refine Yi Wk (Yi (Ii i ch) (Xi ⟨i+1,by omega,by rw[H8,dT,Al (by rw[er,h5,e];subst h7;rfl)]⟩ ?_));exact⟨Dl l.length i ch,Z2,Tv,Fh,Tv⟩
 ·intro h;have h:¬(i:Int)<(l.map AH).length:=h;have h:¬i<l.length:=by simpa using h
  have e:(0:Int)=Bn l:=by rw[NY,h2,H3 ch];rfl
  exact .of_eq (Ab vi e)
theorem cz(hk:k<p.data.toList.length)(h1:p.data.toList[k]=47)(h2:∀j (hj:j<p.data.toList.length),k<j→p.data.toList[j]≠47):Go.Lib.lastIndex p.data.toList [47]=k:=by
 have t6:∀i (hi:i<p.data.toList.length),Go.Lib.occAt p.data.toList [47] i=true↔p.data.toList[i]=47:=fun i hi=>by
  unfold Go.Lib.occAt;rw[AP hi];simp;exact eq_comm
 unfold Go.Lib.lastIndex;rw[Al (by simp only[AG];omega)];rcases Go.Lib.lastOcc_spec p.data.toList [47] (p.data.toList.length - [(47:UInt8)].length+1)with ⟨_,h3⟩ | ⟨j,h3,h4,h5,h6⟩
 ·have:=h3 k (by simp only[AG];omega)
  rw[(t6 k hk).2 h1]at this;cases this
 ·rw[h4];simp only[AG]at h3;have e:j=k:=by
   rcases Sm j k with z | z | z
   ·have:=h6 k z (by simp only[AG];omega)
    rw[(t6 k hk).2 h1]at this;cases this
   ·exact z
   ·exact absurd ((t6 j ch).1 h5) (h2 j ch z)
  rw[e]
theorem iI{p:ByteArray}(h:Bu p=some m):(47:UInt8)∈p.data.toList:=by
 refine Ph 47 _ ?_;unfold Bu RC at h;split at h
 ·cases h
 ·split at h
  ·cases h
  ·rename_i hn;simp only[Cq,Az]at hn;omega
theorem zi(hp:Gi p):PC 140 [vs p] (UT Yq p):=by
 have hc:=uF p hp;have hi:=zt p hp;have Ev:p.size=p.data.toList.length:=by simp
 unfold UT;cases h:Bu p with
 |none =>
  rw[h]at hi;refine Ps D3 Tryz.func140 rfl (Nz rfl) (Xi .pure (Xi _ (Yi (hi) ?_)));exact .refl _
 |some n =>
  have jd:=iI h;rw[h]at hc hi;unfold Gi at hp;refine Ba (show ∃q,∃hq:q<p.data.toList.length,p.data.toList[q]=47 from BZ jd) (fun q hq=>?_);refine Ba hq (fun hq eq=>?_);refine Ps D3 Tryz.func140 rfl (Nz rfl) (Xi .pure (Xi _ (Yi (hi) (Xi .pure (Xi _ (Yi (hc) (Yi (fun h=>absurd rfl h) (fun _=>?_))))))));refine Yi (show Bc (((p.size:Nat):Int)-1) by unfold Bc;omega) ?_;refine Xi {k:Nat // k<p.data.toList.length∧∀j (hj:j<p.data.toList.length),k<j→p.data.toList[j]≠47} (Xi (fun k=>⟨[(0,vs p),(5,vi n),(7,vi k.1)],[],Af⟩) (Xi (fun k=>k.1) (Yi (Xi ⟨p.data.toList.length-1,by omega,fun j hj Iq=>by omega⟩ ?_) ?_)))
  ·have e1:vi (((p.size:Nat):Int)-1)=vi ((p.data.toList.length-1:Nat):Int):=Ab vi ch;exact⟨⟨Zr,Zr,⟨e1,rfl⟩,Tv⟩,Tv,Fh,Tv⟩
  intro⟨k,k1,k2⟩;have S8:(0:Int)≤k∧p.data[((k:Nat):Int).toNat]?=some p.data.toList[k]:=⟨by omega,by rw[A7];exact Nx p k k1⟩;refine Xi p.data.toList[k] (Yi S8 (Yi (fun h2=>?_) (fun h2=>?_)))
  ·have h2:¬(p.data.toList[k].toNat:Int)=47:=h2;have h2:p.data.toList[k]≠47:=fun e=>h2 (by rw[e];rfl);have hqk:q≤k:=by
    rcases BY k q with z | z
    ·exact absurd eq (k2 q hq z)
    ·exact z
   have QW:q≠k:=fun e=>by subst e;exact h2 eq
   refine Yi (show Bc ((k:Int)-1) by unfold Bc;omega) ?_;have e1:vi ((k:Int)-1)=vi ((k-1:Nat):Int):=Ab vi ch;refine Xi ⟨k-1,by omega,fun j hj Iq=>?_⟩ ?_
   ·rcases BY k j with z | z
    ·exact k2 j hj z
    ·have:j=k:=by omega
     subst this;exact h2
   ·exact⟨by show k-1<k;omega,⟨Zr,Zr,⟨e1,rfl⟩,Tv⟩,Tv,Fh,Tv⟩
  ·have h2:¬¬(p.data.toList[k].toNat:Int)=47:=h2;have h2:p.data.toList[k]=47:=GS.1 (by have:=BB.1 h2;show p.data.toList[k].toNat=47;omega);have el:=cz p k k1 h2 k2;refine Yi ⟨BK _,by show(0:Int)≤k;omega,by show(k:Int)≤p.size;omega⟩ ?_;have e3:p.extract 0 ((k:Nat):Int).toNat=Yq p:=by unfold Yq;rw[el]
   exact .of_eq (show AV.tup [vs (p.extract 0 ((k:Nat):Int).toNat),vi n,vi 0]=_ by rw[e3])
theorem yY(hp:Gi p):PC 100 [vs p] (vi (RA p)):=by
 have hc:=zi p hp;unfold UT at hc;unfold RA;cases h:Bu p with
 |none =>
  rw[h]at hc;refine Ps D3 Tryz.func100 rfl (Nz rfl) (Xi .pure (Xi _ (Yi (hc) (Yi (fun _=>?_) (fun h=>absurd (show(4:Int)≠0 by decide) h)))));exact .refl _
 |some m =>
  rw[h]at hc;refine Ps D3 Tryz.func100 rfl (Nz rfl) (Xi .pure (Xi _ (Yi (hc) (Yi (fun h=>absurd rfl h) (fun _=>?_)))));exact .refl _
theorem ko:uh:=yY
abbrev wK:Q0:=⟨[],[(3,0)],[(63,2)],[],[],[],[],[],[],[(112,7)],[4,6,10,11,14,16,17,18]⟩
theorem LI:∀cs∈s.map Ag,cs.length=2:=fun cs h=>by
 obtain⟨x,_,rfl⟩:=Am.1 h;rfl
theorem IR{n:Nat}:∀{l:List (List AV)},(∀c∈l,c.length=n)→Cf n l
 | [],_=>trivial
 |c::_,h=>⟨h c (Aa ..),IR fun d hd=>h d (Ah _ hd)⟩
abbrev No:List (List AV):=((s.map Ag).take (((s.map Ag).length:Nat):Int).toNat).drop ((k:Nat):Int).toNat
theorem Vl:No s k=(s.drop k).map Ag:=by
 unfold No;rw[A7,A7,Au (Ao _),List.map_drop]
theorem qf(h:s.length≤1073741824):Cf 2 (No s k)∧[Ag x].length=1∧([Ag x].length+(No s k).length)*16≤140737488355328∧[Ag x].length+(No s k).length≤9223372036854775807:=by
 rw[Vl];refine⟨IR (LI _),rfl,?_,?_⟩<;>rw[Lm,B3,AG]<;>omega
abbrev Sw:List (List AV):=((s.map Ag).take ((k:Nat):Int).toNat).drop ((0:Int)).toNat
theorem ZH:Sw s k=(s.take k).map Ag:=by
 unfold Sw;rw[A7,show(0:Int).toNat=0 from rfl,Lg,SX]
theorem qg(hk:k≤s.length)(h:s.length≤1073741824):Cf 2 ([Ag x]++No s k)∧(Sw s k).length=((k:Nat):Int).toNat-((0:Int)).toNat∧((Sw s k).length+([Ag x]++No s k).length)*16≤140737488355328∧(Sw s k).length+([Ag x]++No s k).length≤9223372036854775807:=by
 rw[Vl,ZH];refine⟨⟨rfl,IR (LI _)⟩,?_,?_,?_⟩
 ·rw[Lm,AB,A7];show min k s.length=k-0;omega
 ·rw[Ad,Lm,Lm,AB,B3,AG];omega
 ·rw[Ad,Lm,Lm,AB,B3,AG];omega
theorem wy:Sw s k++([Ag x]++No s k)=(s.take k++([x]++s.drop k)).map Ag:=by
 rw[Vl,ZH,As,As];rfl
theorem gN{s:Bb}(h:j<s.length)(hA:A=(By (s.take j)).reverse){y:Int×Int}(hy:A[A.length-1]?=some y)(HD:s[j].1≤y.2):A.set (A.length-1) (y.1,max y.2 s[j].2)=(By (s.take (j+1))).reverse:=by
 rw[FO s j h];cases hr:By (s.take j)with
 |nil=>rw[hA,hr]at hy;cases hy
 |cons z t =>
  have eA:A=t.reverse++[z]:=by rw[hA,hr,E6]
  have eL:A.length-1=t.reverse.length:=by rw[eA,Ad,AG];omega
  rw[eL,eA,AR (Ao _),EF]at hy;have ez:z=y:=Cr hy;have e2:Ks (z::t) s[j]=(z.1,max z.2 s[j].2)::t:=by show(if s[j].1≤z.2 then _ else _)=_;rw[Al (ez▸HD)]
  rw[e2,eL,eA,Mk _ _ (Ao _),EF,E6,ez];rfl
theorem ab{s:Bb}(h:j<s.length)(hA:A=(By (s.take j)).reverse)(hn:∀y,A[A.length-1]?=some y→¬s[j].1≤y.2):A++[s[j]]=(By (s.take (j+1))).reverse:=by
 rw[FO s j h];cases hr:By (s.take j)with
 |nil=>rw[hA,hr];rfl
 |cons z t =>
  have eA:A=t.reverse++[z]:=by rw[hA,hr,E6]
  have eL:A.length-1=t.reverse.length:=by rw[eA,Ad,AG];omega
  have:=hn z (by rw[eL,eA,AR (Ao _),EF];rfl)
  have e2:Ks (z::t) s[j]=s[j]::z::t:=by show(if s[j].1≤z.2 then _ else _)=_;rw[Ae this]
  rw[e2,eA,E6,E6]
theorem wB(A:Bb)(k:Nat)(y x:Int×Int):(A.map Ag).set k [vi y.1,vi (max y.2 x.2)]=(A.set k (y.1,max y.2 x.2)).map Ag:=by rw[E5]
set_option maxHeartbeats 4000000 in
theorem yZ(l:Bb)(hl:Cy l):PC 142 [sl Ag l] (sl Ag (canon l)):=by
 have hl:l.length≤1073741824:=hl;refine Ps wK Tryz.func142 rfl (Nz rfl) (Xi {p:Nat×Bb // p.1≤l.length∧p.2.Perm (DF (l.take p.1))∧p.2.Pairwise fun a b=>a.1≤b.1} (Xi (fun p=>⟨[(0,sl Ag l),(3,sl Ag p.1.2),(4,vi p.1.1)],[],Af⟩) (Xi (fun p=>l.length-p.1.1) (Yi (Xi ⟨(0,[]),AA _,.refl _,.nil⟩ ?_) ?_))))
 ·exact⟨Z3,Tv,Fh,Tv⟩
 intro⟨⟨i,s⟩,i1,i2,i3⟩;have i1:i≤l.length:=i1;have i2:s.Perm (DF (l.take i)):=i2;have i3:s.Pairwise fun a b=>a.1≤b.1:=i3;have WR:s.length≤i:=by rw[i2.length_eq];exact T9 l i
 refine Yi (fun h=>?_) (fun h=>?_)
 ·skip
  have h:(i:Int)<(l.map Ag).length:=h;have h:i<l.length:=by simpa using h
  have hg:l[i]?=some l[i]:=Ge h;refine Xi (Ag l[i]) (Yi (Yi (Nn i) (by simp[hg])) (Yi rfl ?_));refine Xi (Ag l[i]) (Yi (Yi (Nn i) (by simp[hg])) (Yi rfl ?_));refine yN (Yi Wk (Xi ⟨[(0,sl Ag l),(3,sl Ag s),(4,vi i),(5,.ref 5 0)],[(5,.cells (Ag (Et l[i])))],Af⟩ (Yi ?_ ?_)))
  ·have e0:HO.cells [vi (max 0 l[i].1),vi (min 1000000 l[i].2)]=.cells (Ag (Et l[i])):=by
    rw[Int.max_comm,Int.min_comm];rfl
   exact⟨Z4,⟨⟨e0,rfl⟩,Tv⟩,Fh,Tv⟩
  refine Yi (fun h3=>?_) (fun h3=>?_)
  ·have h3:(Et l[i]).2≤(Et l[i]).1:=h3;refine cU [(0,sl Ag l),(3,sl Ag s),(4,vi i)] [] Z3 Tv (Yi (Ii i ch) ?_);have e:=T8 h (show ¬(Et l[i]).1<(Et l[i]).2 by omega);refine Xi ⟨(i+1,s),by omega,by show s.Perm (DF (l.take (i+1)));rw[e];exact i2,i3⟩ ?_;exact⟨Dl l.length i ch,Z3,Tv,Fh,Tv⟩
  have h3:¬(Et l[i]).2≤(Et l[i]).1:=h3;have e:=Ri h (show(Et l[i]).1<(Et l[i]).2 by omega);refine Xi {k:Nat // k≤s.length∧∀j (hj:j<s.length),k≤j→(Et l[i]).1<s[j].1} (Xi (fun k=>⟨[(0,sl Ag l),(3,sl Ag s),(4,vi i),(5,.ref 5 0),(6,vi k.1)],[(5,.cells (Ag (Et l[i])))],Af⟩) (Xi (fun k=>k.1) (Yi (Xi ⟨s.length,Ao _,fun j hj Iq=>by omega⟩ ?_) ?_)))
  ·have e1:vi ((s.map Ag).length:Int)=vi (s.length:Int):=by rw[Lm]
   exact⟨⟨Zr,Zr,Zr,Zr,⟨e1,rfl⟩,Tv⟩,Z1,Fh,Tv⟩
  intro⟨k,k1,k2⟩;refine Yi (fun h4=>?_) (fun h4=>?_)
  ·have h4:(0:Int)<k:=h4;refine Yi (show Bc ((k:Int)-1) by unfold Bc;omega) ?_;have hk:k-1<s.length:=by omega
   have hg:s[k-1]?=some s[k-1]:=Ge hk;have hn:((k:Int)-1).toNat=k-1:=by omega
   refine Xi (Ag s[k-1]) (Yi (Yi (by show(0:Int)≤(k:Int)-1;omega) (by rw[hn];exact CR hg)) (Yi rfl ?_));refine Yi (fun h5=>?_) (fun h5=>?_)
   ·have h5:(Et l[i]).1<s[k-1].1:=h5;refine Yi Wk (Yi (show Bc ((k:Int)-1) by unfold Bc;omega) ?_);have e1:vi ((k:Int)-1)=vi ((k-1:Nat):Int):=Ab vi ch;refine Xi ⟨k-1,by omega,fun j hj Iq=>?_⟩ ?_
    ·rcases BY j k with z | z
     ·have:j=k-1:=by omega
      subst this;exact h5
     ·exact k2 j hj z
    ·exact⟨by show k-1<k;omega,⟨Zr,Zr,Zr,Zr,⟨e1,rfl⟩,Tv⟩,Z1,Fh,Tv⟩
   have h5:¬(Et l[i]).1<s[k-1].1:=h5;have H6:k=0∨∃h:k-1<s.length,s[k-1].1≤(Et l[i]).1:=.inr ⟨hk,by omega⟩;refine Yi Wk (cU [(0,sl Ag l),(3,sl Ag s),(4,vi i),(5,.ref 5 0),(6,vi k)] [(5,.cells (Ag (Et l[i])))] Z5 Z1 (Yi (show(0:Int)≤0∧(0:Int)≤k∧(k:Int)=k∧(k:Int)≤((s.map Ag).length:Nat) by rw[Lm];omega) (Yi (LI s) (yN (Yi (show(0:Int)≤k∧(k:Int)≤((s.map Ag).length:Nat)∧(((s.map Ag).length:Nat):Int)≤((s.map Ag).length:Nat) by rw[Lm];omega) (Yi (LI s) ?_))))));refine Yi (qf s (Et l[i]) k ch) (Yi (qg s (Et l[i]) k k1 ch) (Yi Wk (Ba (show ∃t,t=s.take k++([Et l[i]]++s.drop k)from⟨_,rfl⟩) (fun t ht=>?_))));refine Xi ⟨[(0,sl Ag l),(3,sl Ag t),(4,vi i)],[],Af⟩ (Yi ?_ ?_)
   ·have e3:AV.slice .none (Sw s k++([Ag (Et l[i])]++No s k))=sl Ag t:=by rw[ht];exact Ab (AV.slice .none) (wy s (Et l[i]) k)
    exact⟨⟨Zr,⟨e3,rfl⟩,Zr,Tv⟩,Tv,Fh,Tv⟩
   refine Yi (Ii i ch) (Xi ⟨(i+1,t),by omega,by show t.Perm (DF (l.take (i+1)));rw[e,ht];exact aa s _ k i2,by show t.Pairwise _;rw[ht];exact UL s _ k i3 k2 H6⟩ ?_);exact⟨Dl l.length i ch,Z3,Tv,Fh,Tv⟩
  ·have h4:¬(0:Int)<k:=h4;have H6:k=0∨∃h:k-1<s.length,s[k-1].1≤(Et l[i]).1:=.inl ch;refine Yi Wk (cU [(0,sl Ag l),(3,sl Ag s),(4,vi i),(5,.ref 5 0),(6,vi k)] [(5,.cells (Ag (Et l[i])))] Z5 Z1 (Yi (show(0:Int)≤0∧(0:Int)≤k∧(k:Int)=k∧(k:Int)≤((s.map Ag).length:Nat) by rw[Lm];omega) (Yi (LI s) (yN (Yi (show(0:Int)≤k∧(k:Int)≤((s.map Ag).length:Nat)∧(((s.map Ag).length:Nat):Int)≤((s.map Ag).length:Nat) by rw[Lm];omega) (Yi (LI s) ?_))))));refine Yi (qf s (Et l[i]) k ch) (Yi (qg s (Et l[i]) k k1 ch) (Yi Wk (Ba (show ∃t,t=s.take k++([Et l[i]]++s.drop k)from⟨_,rfl⟩) (fun t ht=>?_))));refine Xi ⟨[(0,sl Ag l),(3,sl Ag t),(4,vi i)],[],Af⟩ (Yi ?_ ?_)
   ·have e3:AV.slice .none (Sw s k++([Ag (Et l[i])]++No s k))=sl Ag t:=by rw[ht];exact Ab (AV.slice .none) (wy s (Et l[i]) k)
    exact⟨⟨Zr,⟨e3,rfl⟩,Zr,Tv⟩,Tv,Fh,Tv⟩
   refine Yi (Ii i ch) (Xi ⟨(i+1,t),by omega,by show t.Perm (DF (l.take (i+1)));rw[e,ht];exact aa s _ k i2,by show t.Pairwise _;rw[ht];exact UL s _ k i3 k2 H6⟩ ?_);exact⟨Dl l.length i ch,Z3,Tv,Fh,Tv⟩
 ·skip
  have h:¬(i:Int)<(l.map Ag).length:=h;have h:¬i<l.length:=by simpa using h
  have fin:(By s).reverse=canon l:=Mo (by rw[Au ch]at i2;exact i2) i3;refine cU [(3,sl Ag s)] [] Z1 Tv (Xi {p:Nat×Bb // p.1≤s.length∧p.2=(By (s.take p.1)).reverse} (Xi (fun p=>⟨[(3,sl Ag s),(7,.msl 63 p.1.2.length),(8,vi p.1.1)],[(63,Hg p.1.2)],Af⟩) (Xi (fun p=>s.length-p.1.1) (Yi (Xi ⟨(0,[]),AA _,rfl⟩ ?_) ?_))))
  ·exact⟨Z3,Z1,Fh,Tv⟩
  intro⟨⟨j,A⟩,j1,hA⟩;have j1:j≤s.length:=j1;have hA:A=(By (s.take j)).reverse:=hA;have z8:A.length≤j:=by rw[hA,Dj];exact(OW s j j1).1
  refine Yi (fun h2=>?_) (fun h2=>?_)
  ·have h2:(j:Int)<((s.map Ag).length:Int):=h2;have h2:j<s.length:=by simpa using h2
   have tU:s[j]?=some s[j]:=Ge h2;refine cU [(3,sl Ag s),(7,.msl 63 A.length),(8,vi j),(9,vi A.length)] [(63,Hg A)] Z4 Z1 (Yi (fun h3=>?_) (fun h3=>?_))
   ·have h3:(0:Int)<A.length:=h3;have kK:Bc ((A.length:Int)-1):=by unfold Bc;omega
    have hn:((A.length:Int)-1).toNat=A.length-1:=by omega
    have bt:(0:Int)≤(A.length:Int)-1∧(A.length:Int)-1<(A.length:Int):=by omega
    have DJ:A.length-1<A.length:=by omega
    have hg:A[A.length-1]?=some A[A.length-1]:=Ge DJ;have tV:(A.map Ag)[((A.length:Int)-1).toNat]?=some (Ag A[A.length-1]):=by rw[hn];exact CR hg
    have vX:A.length=(A.map Ag).length:=by rw[Lm]
    have wt:(0:Int)≤j∧(s.map Ag)[((j:Nat):Int).toNat]?=some (Ag s[j]):=⟨by omega,by rw[A7];exact CR tU⟩;refine Xi (Ag s[j]) (Yi wt (Yi rfl (Yi kK (Yi bt (Yi vX (Xi (Ag A[A.length-1]) (Yi tV (Yi (fun h4=>?_) (fun h4=>?_)))))))))
    ·have h4:s[j].1≤A[A.length-1].2:=h4;refine Yi Wk (cU [(3,sl Ag s),(7,.msl 63 A.length),(8,vi j),(9,vi A.length)] [(63,Hg A)] Z4 Z1 (Yi kK (Yi kK (Yi bt (Yi vX (Xi (Ag A[A.length-1]) (Yi tV (Xi (Ag s[j]) (Yi wt (Yi rfl (Yi bt (Yi vX (Xi (Ag A[A.length-1]) (Yi tV (yN (Yi Wk (Ba (show ∃B,B=A.set (A.length-1) (A[A.length-1].1,max A[A.length-1].2 s[j].2)from⟨_,rfl⟩) (fun B hB=>?_))))))))))))))))));have e2:HO.arr 2 ((A.map Ag).set ((A.length:Int)-1).toNat [vi A[A.length-1].1,vi (max A[A.length-1].2 s[j].2)])=Hg B:=by rw[hn,hB];exact Ab (HO.arr 2) (wB A _ _ _)
     have e1:AV.msl 63 A.length=.msl 63 B.length:=by rw[hB,CJ]
     refine cU [(3,sl Ag s),(7,.msl 63 B.length),(8,vi j)] [(63,Hg B)] ⟨Zr,⟨e1,rfl⟩,Zr,Tv⟩ ⟨⟨e2,rfl⟩,Tv⟩ (Yi (Ii j ch) (Xi ⟨(j+1,B),by omega,by rw[hB];exact gN h2 hA hg h4⟩ ?_));exact⟨Dl s.length j ch,Z3,Z1,Fh,Tv⟩
    have h4:¬s[j].1≤A[A.length-1].2:=h4;have hjn:A++[s[j]]=(By (s.take (j+1))).reverse:=ab h2 hA fun y hy=>by
     rw[hg]at hy;rw[←Cr hy];exact h4
    refine Yi Wk (cU [(3,sl Ag s),(7,.msl 63 A.length),(8,vi j),(9,vi A.length)] [(63,Hg A)] Z4 Z1 (Xi (Ag s[j]) (Yi wt (Yi rfl (yN ?_)))));have GQ:Cf 2 [Ag s[j]]∧(A.map Ag).length=A.length∧((A.map Ag).length+[Ag s[j]].length)*16≤140737488355328∧(A.map Ag).length+[Ag s[j]].length≤9223372036854775807 :=
     ⟨⟨rfl,trivial⟩,by rw[Lm],by rw[Lm,AG];omega,by rw[Lm,AG];omega⟩
    refine Yi GQ (Ba (show ∃B,B=A++[s[j]]from⟨_,rfl⟩) (fun B hB=>?_));have e1:AV.msl 63 ((A.map Ag).length+[Ag s[j]].length)=.msl 63 B.length:=by rw[hB];simp
    have e2:HO.arr 2 (A.map Ag++[Ag s[j]])=Hg B:=by rw[hB];simp
    refine cU [(3,sl Ag s),(7,.msl 63 B.length),(8,vi j)] [(63,Hg B)] ⟨Zr,⟨e1,rfl⟩,Zr,Tv⟩ ⟨⟨e2,rfl⟩,Tv⟩ (Yi (Ii j ch) (Xi ⟨(j+1,B),by omega,by rw[hB];exact hjn⟩ ?_));exact⟨Dl s.length j ch,Z3,Z1,Fh,Tv⟩
   ·have h3:¬(0:Int)<A.length:=h3;have wt:(0:Int)≤j∧(s.map Ag)[((j:Nat):Int).toNat]?=some (Ag s[j]):=⟨by omega,by rw[A7];exact CR tU⟩;have hjn:A++[s[j]]=(By (s.take (j+1))).reverse:=ab h2 hA fun y hy=>by
     rw[AK (by omega:A.length=0)]at hy;cases hy
    refine Yi Wk (cU [(3,sl Ag s),(7,.msl 63 A.length),(8,vi j),(9,vi A.length)] [(63,Hg A)] Z4 Z1 (Xi (Ag s[j]) (Yi wt (Yi rfl (yN ?_)))));have GQ:Cf 2 [Ag s[j]]∧(A.map Ag).length=A.length∧((A.map Ag).length+[Ag s[j]].length)*16≤140737488355328∧(A.map Ag).length+[Ag s[j]].length≤9223372036854775807 :=
     ⟨⟨rfl,trivial⟩,by rw[Lm],by rw[Lm,AG];omega,by rw[Lm,AG];omega⟩
    refine Yi GQ (Ba (show ∃B,B=A++[s[j]]from⟨_,rfl⟩) (fun B hB=>?_));have e1:AV.msl 63 ((A.map Ag).length+[Ag s[j]].length)=.msl 63 B.length:=by rw[hB];simp
    have e2:HO.arr 2 (A.map Ag++[Ag s[j]])=Hg B:=by rw[hB];simp
    refine cU [(3,sl Ag s),(7,.msl 63 B.length),(8,vi j)] [(63,Hg B)] ⟨Zr,⟨e1,rfl⟩,Zr,Tv⟩ ⟨⟨e2,rfl⟩,Tv⟩ (Yi (Ii j ch) (Xi ⟨(j+1,B),by omega,by rw[hB];exact hjn⟩ ?_));exact⟨Dl s.length j ch,Z3,Z1,Fh,Tv⟩
  ·have h2:¬(j:Int)<((s.map Ag).length:Int):=h2;have h2:¬j<s.length:=by simpa using h2
   refine Yi (by rw[Lm]) ?_;exact .of_eq (Ab (sl Ag) (show A=canon l by rw[hA,Au ch];exact fin))
theorem n6:ui:=yZ
end Go.Eng
