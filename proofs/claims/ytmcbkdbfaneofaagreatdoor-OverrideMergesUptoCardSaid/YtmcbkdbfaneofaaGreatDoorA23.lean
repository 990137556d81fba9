/- Lemmas for the claims of this seat, without a condition: part 23 (R2, R3, R4, R5, C60, C61, C62, C63, C64, R6, R7, R8, R9, R10). -/
import Derived.Test.YtmcbkdbfaneofaaGreatDoorA22
namespace Go.Eng
open Go.Proofs
abbrev uB:List ByteArray:=pE.map bs
theorem wh:PC 216 [] (sl Dw uB):=by
 refine Ps E8 Tryz.func216 rfl (Nz rfl) ?_;exact .refl _
theorem wg(l:List ByteArray)(s:ByteArray)(hl:Co l):PC 215 [sl Dw l,vs s] (vb (l.any fun q=>decide (q=s))):=by
 unfold Co at hl;refine Ps E8 Tryz.func215 rfl (Nz rfl) ?_;refine Xi {i:Nat // i≤l.length∧∀j (hj:j<l.length),j<i→l[j]≠s} (Xi (fun i=>⟨[(0,sl Dw l),(1,vs s),(5,vi i.1)],[],Aa⟩) (Xi (fun i=>l.length-i.1) (Yi (Xi ⟨0,AG _,fun j _ h=>by omega⟩ ?_) ?_)))
 ·exact⟨Z3,Tv,Fh,Tv⟩
 intro⟨i,h1,h2⟩;refine Yi ?_ ?_
 ·intro h;have h:(i:Int)<(l.map Dw).length:=h;have h:i<l.length:=by simpa using h
  have hg:l[i]?=some l[i]:=Ge h;refine Xi (Dw l[i]) (Yi (Yi (Nn i) (by simp[hg])) (Yi rfl ?_));refine Yi ?_ ?_
  ·intro he;have he:l[i]=s:=he;exact .of_eq (Ab vb (show true=_ from(Bb.2 ⟨l[i],Ak h,by simpa using he⟩).symm))
  ·intro he;have he:¬l[i]=s:=he;refine Yi (Ii i (by omega)) ?_;refine Xi ⟨i+1,by omega,fun j hj GA=>?_⟩ ?_
   ·rcases Ch j i with z | z
    ·exact h2 j hj z
    ·have:j=i:=by omega
     subst this;exact he
   ·exact⟨Dl l.length i (by omega),Z3,Tv,Fh,Tv⟩
 ·intro h;have h:¬(i:Int)<(l.map Dw).length:=h;have h:¬i<l.length:=by simpa using h
  have er:(l.any fun q=>decide (q=s))=false:=by
   rw[FH];intro q hq;obtain⟨j,hj,rfl⟩:=Cc hq;simpa using h2 j hj (by omega)
  exact .of_eq (Ab vb er.symm)
theorem q9{w:List UInt8}{s:ByteArray}:bs w=s↔w=s.data.toList:=by
 constructor
 ·intro h;rw[←h];rfl
 ·intro h;rw[h];rfl
theorem pG(s:ByteArray):(uB.any fun q=>decide (q=s))=pE.any (fun w=>decide (w=s.data.toList)):=by
 unfold uB;rw[List.any_map]
 congr 1
 funext w
 simp only[Function.comp];rw[Tg];exact q9
theorem v8(s:ByteArray)(hs:s.data.toList.length<4611686018427387904):PC 184 [vs s] (vb (Gv s.data.toList)):=by
 have Ek:s.size=s.data.toList.length:=by simp
 obtain⟨N,hN⟩:∃N,N=Gv s.data.toList:=⟨_,rfl⟩;rw[←hN];unfold Gv at hN;have lk:=we s hs;have gQ:=wg uB s (by decide);rw[pG]at gQ;refine Ps E8 Tryz.func184 rfl (Nz rfl) ?_;refine Yi (fun h=>?_) (fun h=>?_)
 rotate_left
 ·have h:¬(1:Int)≤(s.size:Nat):=h;have e:s.data.toList=[]:=Az (by omega);exact .of_eq (Ab vb (show false=N by rw[hN,e];rfl))
 have h:(1:Int)≤(s.size:Nat):=h;have he:s.data.toList.isEmpty=false:=by
  cases e:s.data.toList with
  |nil=>rw[e,Ay]at Ek;omega
  |cons _ _=>rfl
 refine Yi (fun h2=>?_) (fun h2=>?_)
 rotate_left
 ·have h2:¬((s.size:Nat):Int)≤32:=h2;exact .of_eq (Ab vb (show false=N by rw[hN,he,Aj (by omega)];rfl))
 have h2:((s.size:Nat):Int)≤32:=h2;refine BN (show ∃c l,s.data.toList=c::l by cases e:s.data.toList with | nil=>rw[e]at he;cases he | cons c l=>exact⟨c,l,rfl⟩) (fun c hc=>?_);refine BN hc (fun l hc=>?_);refine Xi c (Yi ⟨by decide,by show s.data[(0:Int).toNat]?=_;rw[←AQ,hc];rfl⟩ ?_);have lj:=oG c;have hN:N=(EK c&&s.data.toList.all F7&&!U4 s.data.toList):=by
  rw[hN,he,At (by omega),hc];rfl
 refine Bq (Bt (EK c)).symm (fun e=>?_) (fun e=>?_)
 ·rw[e]at lj;refine Xi .pure (Xi _ (Yi (lj) ?_));exact .of_eq (Ab vb (show false=N by rw[hN,e];rfl))
 rw[e]at lj;refine Xi .pure (Xi _ (Yi (lj) ?_));refine Bq (Bt (s.data.toList.all F7)).symm (fun e2=>?_) (fun e2=>?_)
 ·rw[e2]at lk;refine Xi .pure (Xi _ (Yi (lk) ?_));exact .of_eq (Ab vb (show false=N by rw[hN,e,e2];rfl))
 rw[e2]at lk;refine Xi .pure (Xi _ (Yi (lk) ?_));refine Xi .pure (Xi _ (Yi (wh) ?_));rw[an e2]at hN;refine Bq (Bt (pE.any (fun w=>decide (w=s.data.toList)))) (fun e3=>?_) (fun e3=>?_)
 ·rw[e3]at gQ;refine Xi .pure (Xi _ (Yi (gQ) ?_));exact .of_eq (Ab vb (show false=N by rw[hN,e,e2,e3];rfl))
 ·rw[e3]at gQ;refine Xi .pure (Xi _ (Yi (gQ) ?_));exact .of_eq (Ab vb (show true=N by rw[hN,e,e2,e3];rfl))
theorem jL{s:ByteArray}:Hh s.data.toList=(s.data.toList.all Nv&&Gv s.data.toList):=by
 unfold Hh;rw[Bool.and_comm]
theorem vT(s:ByteArray)(hs:s.data.toList.length<4611686018427387904):PC 136 [vs s] (vb (Hh s.data.toList)):=by
 have Ek:s.size=s.data.toList.length:=by simp
 have wq:=v8 s hs;rw[jL];refine Ps E8 Tryz.func136 rfl (Nz rfl) ?_;refine Xi {i:Nat // i≤s.data.toList.length∧∀j (hj:j<s.data.toList.length),j<i→Nv s.data.toList[j]=true} (Xi (fun i=>⟨[(0,vs s),(3,vi i.1)],[],Aa⟩) (Xi (fun i=>s.data.toList.length-i.1) (Yi (Xi ⟨0,AG _,fun j _ h=>by omega⟩ ?_) ?_)))
 ·exact⟨Z2,Tv,Fh,Tv⟩
 intro⟨i,h1,h2⟩;refine Yi ?_ ?_
 ·intro h;have h:(i:Int)<(s.size:Nat):=h;have h:i<s.data.toList.length:=by omega
  have RZ:(0:Int)≤i∧s.data[((i:Nat):Int).toNat]?=some s.data.toList[i]:=⟨by omega,by rw[Ba];exact MV s i h⟩;have nx:Nv s.data.toList[i]=true→∀j (hj:j<s.data.toList.length),j<i+1→Nv s.data.toList[j]=true:=fun e j hj GA=>by
   rcases Ch j i with z | z
   ·exact h2 j hj z
   ·have:j=i:=by omega
    subst this;exact e
  refine Xi s.data.toList[i] (Yi RZ ?_);have h3:=oG s.data.toList[i];have h4:=kR s.data.toList[i];refine Bq (Bt (EK s.data.toList[i])) (fun e=>?_) (fun e=>?_)
  ·rw[e]at h3;refine Xi .pure (Xi _ (Yi (h3) ?_));refine Yi (Ii i (by omega)) ?_;refine Xi ⟨i+1,by omega,nx (by unfold Nv;rw[e];rfl)⟩ ?_;exact⟨Dl s.data.toList.length i (by omega),Z2,Tv,Fh,Tv⟩
  rw[e]at h3;refine Xi .pure (Xi _ (Yi (h3) ?_));refine Xi s.data.toList[i] (Yi RZ ?_);refine Bq (Bt (CI s.data.toList[i])) (fun e2=>?_) (fun e2=>?_)
  ·rw[e2]at h4;refine Xi .pure (Xi _ (Yi (h4) ?_));refine Yi (Ii i (by omega)) ?_;refine Xi ⟨i+1,by omega,nx (by unfold Nv;rw[e2,UL])⟩ ?_;exact⟨Dl s.data.toList.length i (by omega),Z2,Tv,Fh,Tv⟩
  rw[e2]at h4;refine Xi .pure (Xi _ (Yi (h4) ?_));have er:s.data.toList.all Nv=false:=by
   rw[AF];intro ha
   have:=AR.1 ha _ (Ak h)
   unfold Nv at this;rw[e,e2]at this;cases this
  exact .of_eq (Ab vb (by rw[er];rfl))
 ·intro h;have h:¬(i:Int)<(s.size:Nat):=h;have er:s.data.toList.all Nv=true:=AR.2 fun c hc=>by
   obtain⟨j,hj,rfl⟩:=Cc hc;exact h2 j hj (by omega)
  refine Xi .pure (Xi _ (Yi (wq) ?_));exact .of_eq (Ab vb (by rw[er];rfl))
abbrev U9:Option Int→AV
 |some n=>vi n
 |none=>vi (-1)
theorem vU(s:ByteArray)(hs:s.data.toList.length<4611686018427387904):PC 137 [vs s] (U9 (Gu s.data.toList)):=by
 have Ek:s.size=s.data.toList.length:=by simp
 refine Ps (Iq [3]) Tryz.func137 rfl (Nz rfl) ?_;refine Yi (fun h=>?_) (fun h=>?_)
 ·have h:((s.size:Nat):Int)<2:=h;exact .of_eq (Ab U9 (show(none:Option Int)=Gu s.data.toList by
   cases hs:s.data.toList with
   |nil=>rfl
   |cons c r =>
    cases r with
    |nil=>unfold Gu;simp
    |cons d r=>rw[hs]at Ek;simp only[Au]at Ek;omega))
 have h:¬((s.size:Nat):Int)<2:=h;refine BN (show ∃c r,s.data.toList=c::r by
  cases e:s.data.toList with
  |nil=>rw[e]at Ek;simp only[Ay]at Ek;omega
  |cons c l=>exact⟨c,l,rfl⟩) (fun c hc=>?_)
 refine BN hc (fun r fw=>?_);have W4:s.size=r.length+1:=by rw[Ek,fw];rfl
 have xz:Gu s.data.toList=if c=118 then(if(r.isEmpty||decide (3<r.length)||(decide (1<r.length)&&decide (r.headD 0=48))||!r.all CI)=true then none else some (D1 r))else none:=by rw[fw];rfl
 refine Yi (fun h2=>?_) (fun h2=>?_)
 ·have h2:(4:Int)<((s.size:Nat):Int):=h2;exact .of_eq (Ab U9 (show(none:Option Int)=Gu s.data.toList by rw[xz,At (by omega:3<r.length)];simp))
 have h2:¬(4:Int)<((s.size:Nat):Int):=h2;refine Xi c (Yi ⟨by decide,by show s.data[(0:Int).toNat]?=_;rw[←AQ,fw];rfl⟩ ?_);refine Yi (fun h3=>?_) (fun h3=>?_)
 ·have h3:¬(c.toNat:Int)=118:=h3;have h3:¬c=118:=fun e=>h3 (by rw[e];rfl);exact .of_eq (Ab U9 (show(none:Option Int)=Gu s.data.toList by rw[xz,Ao h3]))
 have h3:¬¬(c.toNat:Int)=118:=h3;have h3:(c.toNat:Int)=118:=B2.1 h3;have h3:c=118:=GB.1 (by show c.toNat=118;omega);have hr:s.data.toList=118::r:=by rw[fw,h3]
 have hv:Gu s.data.toList=if(r.isEmpty||decide (3<r.length)||(decide (1<r.length)&&decide (r.headD 0=48))||!r.all CI)=true then none else some (D1 r):=by rw[xz,Ax h3]
 have CJ:0<r.length:=by omega
 have Qt:r.isEmpty=false:=by
  cases hl:r with
  |nil=>rw[hl]at CJ;exact absurd CJ (by decide)
  |cons a l=>rfl
 have su:r.length≤3:=by omega
 have d3:decide (3<r.length)=false:=Aj (by omega);have z0:D1 (r.take 0)=0:=rfl;have hh:=N8 r CJ;refine Xi r[0] (Yi ⟨by decide,by show s.data[(1:Int).toNat]?=_;rw[←AQ,fw];show r[0]?=_;exact Ge CJ⟩ ?_);refine Yi (fun h4=>?_) (fun h4=>?_)
 ·have h4:(r[0].toNat:Int)=48:=h4;have h4:r[0]=48:=GB.1 (by show r[0].toNat=48;omega);refine Yi (fun h5=>?_) (fun h5=>?_)
  ·have h5:(2:Int)<((s.size:Nat):Int):=h5;exact .of_eq (Ab U9 (show(none:Option Int)=Gu s.data.toList by rw[hv,hh,h4,At (by omega:1<r.length)];simp))
  have h5:¬(2:Int)<((s.size:Nat):Int):=h5;have eo:(decide (1<r.length)&&decide (r.headD 0=48))=false:=by rw[Aj (by omega:¬1<r.length)];rfl
  refine Xi ⟨[(0,vs s)],[],Aa⟩ (Yi ⟨Z1,Tv,Fh,Tv⟩ ?_)
  refine Xi {i:Nat // i≤r.length∧(∀j (hj:j<r.length),j<i→CI r[j]=true)∧0≤D1 (r.take i)∧(i=0→D1 (r.take i)≤0)∧(i≤1→D1 (r.take i)≤9)∧(i≤2→D1 (r.take i)≤99)∧D1 (r.take i)≤999} (Xi (fun i=>⟨[(0,vs s),(3,vi (D1 (r.take i.1))),(4,vi (1+(i.1:Int)))],[],Aa⟩) (Xi (fun i=>r.length-i.1) (Yi (Xi ⟨0,AG _,fun j _ h=>by omega,by omega,fun _=>by omega,fun _=>by omega,fun _=>by omega,by omega⟩ ?_) ?_)))
  ·exact⟨Z3,Tv,Fh,Tv⟩
  intro⟨i,i1,i0,i2,i3,i4,i5,i6⟩;refine Yi ?_ ?_
  ·intro h;have h:1+(i:Int)<(s.size:Nat):=h;have h:i<r.length:=by omega
   have RZ:(0:Int)≤1+(i:Int)∧s.data[(1+(i:Int)).toNat]?=some r[i]:=⟨by omega,by rw[show(1+(i:Int)).toNat=i+1 by omega,←AQ,hr,EE];exact Ge h⟩;refine Xi r[i] (Yi RZ ?_);have hc:=kR r[i];refine Bq (Bt (CI r[i])).symm (fun e=>?_) (fun e=>?_)
   ·rw[e]at hc;refine Xi .pure (Xi _ (Yi (hc) ?_));have Fp:r.all CI=false:=by
     rw[AF];intro ha
     have:=AR.1 ha _ (Ak h)
     rw[e]at this;cases this
    exact .of_eq (Ab U9 (show(none:Option Int)=Gu s.data.toList by rw[hv,Fp];simp))
   rw[e]at hc;refine Xi .pure (Xi _ (Yi (hc) ?_));have nf:=Ju e;have bB:=K7 r i h;have Ys:IntKind.u8.wrap ((r[i].toNat:Int)-48)=(r[i].toNat:Int)-48:=SD (by omega) (by omega);refine Yi (by show Bu (10*D1 (r.take i));unfold Bu;omega) ?_;refine Xi r[i] (Yi RZ ?_);refine Yi (by show Bu (IntKind.u8.wrap ((r[i].toNat:Int)-48));rw[Ys];unfold Bu;omega) ?_;refine Yi (by show Bu (10*D1 (r.take i)+IntKind.u8.wrap ((r[i].toNat:Int)-48));rw[Ys];unfold Bu;omega) ?_;refine Yi (by show Bu (1+(i:Int)+1);unfold Bu;omega) ?_;have e5:vi (10*D1 (r.take i)+IntKind.u8.wrap ((r[i].toNat:Int)-48))=vi (D1 (r.take (i+1))):=by rw[Ys,bB]
   have e6:vi (1+(i:Int)+1)=vi (1+((i+1:Nat):Int)):=Ab vi (by omega);refine Xi ⟨i+1,by omega,fun j hj GA=>?_,by omega,fun _=>by omega,fun _=>by omega,fun _=>by omega,by omega⟩ ?_
   ·rcases Ch j i with z | z
    ·exact i0 j hj z
    ·have:j=i:=by omega
     subst this;exact e
   ·exact⟨Dl r.length i (by omega),⟨Zr,⟨e5,rfl⟩,⟨e6,rfl⟩,Tv⟩,Tv,Fh,Tv⟩
  ·intro h;have h:¬1+(i:Int)<(s.size:Nat):=h;have e3:r.all CI=true:=AR.2 fun c hc=>by
    obtain⟨j,hj,rfl⟩:=Cc hc;exact i0 j hj (by omega)
   have e6:vi (D1 (r.take i))=U9 (Gu s.data.toList):=by rw[hv,Qt,d3,eo,e3,AJ (by omega)];rfl
   exact .of_eq e6
 have h4:¬(r[0].toNat:Int)=48:=h4;have eo:(decide (1<r.length)&&decide (r.headD 0=48))=false:=by rw[hh,Aj (show ¬r[0]=48 from fun e=>h4 (by rw[e];rfl)),Cz]
 refine Xi ⟨[(0,vs s)],[],Aa⟩ (Yi ⟨Z1,Tv,Fh,Tv⟩ ?_)
 refine Xi {i:Nat // i≤r.length∧(∀j (hj:j<r.length),j<i→CI r[j]=true)∧0≤D1 (r.take i)∧(i=0→D1 (r.take i)≤0)∧(i≤1→D1 (r.take i)≤9)∧(i≤2→D1 (r.take i)≤99)∧D1 (r.take i)≤999} (Xi (fun i=>⟨[(0,vs s),(3,vi (D1 (r.take i.1))),(4,vi (1+(i.1:Int)))],[],Aa⟩) (Xi (fun i=>r.length-i.1) (Yi (Xi ⟨0,AG _,fun j _ h=>by omega,by omega,fun _=>by omega,fun _=>by omega,fun _=>by omega,by omega⟩ ?_) ?_)))
 ·exact⟨Z3,Tv,Fh,Tv⟩
 intro⟨i,i1,i0,i2,i3,i4,i5,i6⟩;refine Yi ?_ ?_
 ·intro h;have h:1+(i:Int)<(s.size:Nat):=h;have h:i<r.length:=by omega
  have RZ:(0:Int)≤1+(i:Int)∧s.data[(1+(i:Int)).toNat]?=some r[i]:=⟨by omega,by rw[show(1+(i:Int)).toNat=i+1 by omega,←AQ,hr,EE];exact Ge h⟩;refine Xi r[i] (Yi RZ ?_);have hc:=kR r[i];refine Bq (Bt (CI r[i])).symm (fun e=>?_) (fun e=>?_)
  ·rw[e]at hc;refine Xi .pure (Xi _ (Yi (hc) ?_));have Fp:r.all CI=false:=by
    rw[AF];intro ha
    have:=AR.1 ha _ (Ak h)
    rw[e]at this;cases this
   exact .of_eq (Ab U9 (show(none:Option Int)=Gu s.data.toList by rw[hv,Fp];simp))
  rw[e]at hc;refine Xi .pure (Xi _ (Yi (hc) ?_));have nf:=Ju e;have bB:=K7 r i h;have Ys:IntKind.u8.wrap ((r[i].toNat:Int)-48)=(r[i].toNat:Int)-48:=SD (by omega) (by omega);refine Yi (by show Bu (10*D1 (r.take i));unfold Bu;omega) ?_;refine Xi r[i] (Yi RZ ?_);refine Yi (by show Bu (IntKind.u8.wrap ((r[i].toNat:Int)-48));rw[Ys];unfold Bu;omega) ?_;refine Yi (by show Bu (10*D1 (r.take i)+IntKind.u8.wrap ((r[i].toNat:Int)-48));rw[Ys];unfold Bu;omega) ?_;refine Yi (by show Bu (1+(i:Int)+1);unfold Bu;omega) ?_;have e5:vi (10*D1 (r.take i)+IntKind.u8.wrap ((r[i].toNat:Int)-48))=vi (D1 (r.take (i+1))):=by rw[Ys,bB]
  have e6:vi (1+(i:Int)+1)=vi (1+((i+1:Nat):Int)):=Ab vi (by omega);refine Xi ⟨i+1,by omega,fun j hj GA=>?_,by omega,fun _=>by omega,fun _=>by omega,fun _=>by omega,by omega⟩ ?_
  ·rcases Ch j i with z | z
   ·exact i0 j hj z
   ·have:j=i:=by omega
    subst this;exact e
  ·exact⟨Dl r.length i (by omega),⟨Zr,⟨e5,rfl⟩,⟨e6,rfl⟩,Tv⟩,Tv,Fh,Tv⟩
 ·intro h;have h:¬1+(i:Int)<(s.size:Nat):=h;have e3:r.all CI=true:=AR.2 fun c hc=>by
   obtain⟨j,hj,rfl⟩:=Cc hc;exact i0 j hj (by omega)
  have e6:vi (D1 (r.take i))=U9 (Gu s.data.toList):=by rw[hv,Qt,d3,eo,e3,AJ (by omega)];rfl
  exact .of_eq e6
abbrev Zo(l:List UInt8):List ByteArray:=(CO 47 l).map bs
def V6:List (List UInt8)→UInt8→List (List UInt8)
 | [],_=>[]
 | [x],b=>[x++[b]]
 |x::l,b=>x::V6 l b
theorem Ld(c:UInt8)(s:List UInt8):CO c s≠[]:=by
 cases s with
 |nil=>rw[CO];exact SI _ _
 |cons b r =>
  rw[CO];split
  ·exact SI _ _
  ·split<;>exact SI _ _
theorem UE(c:UInt8):∀s:List UInt8,CO c (s++[c])=CO c s++[[]]
 | []=>by simp[CO]
 |b::r=>by
  rw[D6,CO,UE c r,CO]
  by_cases e:b=c
  ·rw[Ax e,Ax e];rfl
  ·rw[Ao e,Ao e];cases h:CO c r with
   |nil=>exact absurd h (Ld c r)
   |cons x l=>rfl
theorem Up(x:List UInt8){l:List (List UInt8)}(b:UInt8)(h:l≠[]):V6 (x::l) b=x::V6 l b:=by
 cases l with
 |nil=>exact absurd rfl h
 |cons y l=>rfl
theorem RS(c b:UInt8)(hb:b≠c):∀s:List UInt8,CO c (s++[b])=V6 (CO c s) b
 | []=>by simp[CO,hb,V6]
 |a::r=>by
  rw[D6,CO,RS c b hb r,CO]
  by_cases e:a=c
  ·rw[Ax e,Ax e,Up _ _ (Ld c r)]
  ·rw[Ao e,Ao e];cases h:CO c r with
   |nil=>exact absurd h (Ld c r)
   |cons x l =>
    cases l with
    |nil=>rfl
    |cons y l=>rfl
theorem V7(b:UInt8):∀(l:List (List UInt8)) (x:List UInt8),l[l.length-1]?=some x→l.set (l.length-1) (x++[b])=V6 l b
 | [],_,h=>by cases h
 | [y],x,h=>by
  have h:some y=some x:=h;rw[BA h];rfl
 |y::z::l,x,h=>by
  have h:(z::l)[(z::l).length-1]?=some x:=h;rw[Up y b (SI _ _),←V7 b (z::l) x h];rfl
theorem UD(c:UInt8)(s:List UInt8):(CO c s).length≤s.length+1:=by
 induction s with
 |nil=>rw[CO];exact Al _
 |cons b r ih =>
  rw[CO,Au];split
  ·rw[Au];omega
  ·split
   ·simp
   ·rename_i x l e;rw[e,Au]at ih;rw[Au];omega
abbrev tn:Sj:=⟨[],[],[(5,1)],[],[],[],[],[],[],[(36,3)],[4]⟩
theorem jo{l:List UInt8}{c:UInt8}(hc:c≠47){x:ByteArray}(h:(Zo l)[(Zo l).length-1]?=some x):(Zo l).set ((Zo l).length-1) (x++bs [c])=Zo (l++[c]):=by
 have h2:=h;rw[AK,Lm]at h;obtain⟨y,hy,e⟩:=AY.1 h;subst e;show _=(CO 47 (l++[c])).map bs;rw[RS 47 c hc l,←V7 c (CO 47 l) y hy,HJ,Lm]
 congr 1
theorem vS(s:ByteArray)(hs:E9 s):PC 135 [vs s] (sl EL (Zo s.data.toList)):=by
 unfold E9 at hs;have Ek:s.size=s.data.toList.length:=by simp
 refine Ps tn Tryz.func135 rfl (Nz rfl) ?_;refine Xi {p:Nat×List ByteArray // p.1≤s.data.toList.length∧p.2=Zo (s.data.toList.take p.1)} (Xi (fun p=>⟨[(0,vs s),(3,.msl 5 p.1.2.length),(4,vi p.1.1)],[(5,.arr 1 (p.1.2.map EL))],Aa⟩) (Xi (fun p=>s.data.toList.length-p.1.1) (Yi (Xi ⟨(0,[bs []]),AG _,rfl⟩ ?_) ?_)))
 ·exact⟨Z3,Z1,Fh,Tv⟩
 intro⟨⟨i,A⟩,h1,hA⟩;have h1:i≤s.data.toList.length:=h1;have hA:A=Zo (s.data.toList.take i):=hA;have sG:A.length≤i+1:=by
  have:=UD 47 (s.data.toList.take i)
  rw[AC]at this;rw[hA,Lm];omega
 have ko:0<A.length:=by
  rw[hA,Lm];exact G7.2 (Ld 47 _)
 refine Yi (fun h=>?_) (fun h=>?_)
 ·have h:(i:Int)<(s.size:Nat):=h;have h:i<s.data.toList.length:=by omega
  have RZ:(0:Int)≤i∧s.data[((i:Nat):Int).toNat]?=some s.data.toList[i]:=⟨by omega,by rw[Ba];exact MV s i h⟩;have kp:s.data.toList.take (i+1)=s.data.toList.take i++[s.data.toList[i]]:=by rw[BC,Ge h];rfl
  refine Xi s.data.toList[i] (Yi RZ ?_);refine Yi (fun h2=>?_) (fun h2=>?_)
  ·have h2:(s.data.toList[i].toNat:Int)=47:=h2;have h2:s.data.toList[i]=47:=GB.1 (by show s.data.toList[i].toNat=47;omega);have F8:CT 1 [[vs (bs [])]]∧(A.map EL).length=A.length∧((A.map EL).length+[[vs (bs [])]].length)*16≤140737488355328∧(A.map EL).length+[[vs (bs [])]].length≤9223372036854775807 :=
    ⟨⟨rfl,trivial⟩,by rw[Lm],by rw[Lm,Am];omega,by rw[Lm,Am];omega⟩
   refine Yi F8 ?_;refine Xi ⟨[(0,vs s),(3,.msl 5 (A++[bs []]).length),(4,vi i)],[(5,.arr 1 ((A++[bs []]).map EL))],Aa⟩ (Yi ?_ ?_)
   ·have e1:AV.msl 5 ((A.map EL).length+[[vs (bs [])]].length)=.msl 5 (A++[bs []]).length:=by simp
    have e2:HO.arr 1 (A.map EL++[[vs (bs [])]])=.arr 1 ((A++[bs []]).map EL):=by rw[AH];rfl
    exact⟨⟨Zr,⟨e1,rfl⟩,Zr,Tv⟩,⟨⟨e2,rfl⟩,Tv⟩,Fh,Tv⟩
   refine Yi (Ii i (by omega)) ?_;have eA:A++[bs []]=Zo (s.data.toList.take (i+1)):=by
    rw[hA,kp,h2];show _=(CO 47 _).map bs;rw[UE,AH];rfl
   refine Xi ⟨(i+1,A++[bs []]),by omega,eA⟩ ?_;exact⟨Dl s.data.toList.length i (by omega),Z3,Z1,Fh,Tv⟩
  have h2:¬(s.data.toList[i].toNat:Int)=47:=h2;have h2:s.data.toList[i]≠47:=fun e=>h2 (by rw[e];rfl);have np:Bu ((A.length:Int)-1):=by unfold Bu;omega
  have DF:A.length-1<A.length:=by omega
  have hn:((A.length:Int)-1).toNat=A.length-1:=by omega
  have hg:A[A.length-1]?=some A[A.length-1]:=Ge DF;have sa:E9 A[A.length-1]:=by
   have lB:∀x∈A,x∈Zo (s.data.toList.take i):=fun x hx=>hA▸hx;obtain⟨y,hy,e⟩:=Ar.1 (lB _ (Ak DF));have h5:=LJ 47 _ y hy;rw[AC]at h5;unfold E9;rw[←e,show(bs y).size=y.length from rfl];omega
  have L1:((A[A.length-1].size+(⟨[s.data.toList[i]].toArray⟩:ByteArray).size:Nat):Int)≤9223372036854775807:=by
   unfold E9 at sa
   have:(⟨[s.data.toList[i]].toArray⟩:ByteArray).size=1:=rfl
   omega
  refine Yi np (Yi np ?_);refine Yi (show(0:Int)≤(A.length:Int)-1∧(A.length:Int)-1<(A.length:Int) by omega) ?_;refine Yi (by rw[Lm]) ?_;have qu:(A.map EL)[((A.length:Int)-1).toNat]?=some (EL A[A.length-1]):=by rw[hn];exact B4 hg
  refine Xi (EL A[A.length-1]) (Yi qu ?_);refine Xi s.data.toList[i] (Yi RZ ?_);refine Xi [s.data.toList[i]] (Yi rfl ?_);refine Yi L1 ?_;refine Yi (show(0:Int)≤(A.length:Int)-1∧(A.length:Int)-1<(A.length:Int) by omega) ?_;refine Yi (by rw[Lm]) ?_;refine Xi (EL A[A.length-1]) (Yi qu (Yi (Nz rfl) ?_));refine Yi (by kernel_rfl) ?_;refine BN (show ∃B,B=A.set (A.length-1) (A[A.length-1]++bs [s.data.toList[i]])from⟨_,rfl⟩) (fun B hB=>?_);have gR:B.length=A.length:=by rw[hB,CG]
  have e2:HO.arr 1 ((A.map EL).set ((A.length:Int)-1).toNat [vs (A[A.length-1]++⟨[s.data.toList[i]].toArray⟩)])=.arr 1 (B.map EL):=by rw[hn,hB,HJ];rfl
  refine Xi ⟨[(0,vs s),(3,.msl 5 B.length),(4,vi i)],[(5,.arr 1 (B.map EL))],Aa⟩ (Yi ⟨⟨Zr,⟨Ab (AV.msl 5) gR.symm,rfl⟩,Zr,Tv⟩,⟨⟨e2,rfl⟩,Tv⟩,Fh,Tv⟩ ?_)
  refine Yi (Ii i (by omega)) ?_;have eB:B=Zo (s.data.toList.take (i+1)):=by
   rw[kp,hB];subst hA;exact jo h2 hg
  refine Xi ⟨(i+1,B),by omega,eB⟩ ?_;exact⟨Dl s.data.toList.length i (by omega),Z3,Z1,Fh,Tv⟩
 ·have h:¬(i:Int)<(s.size:Nat):=h;refine Yi (by rw[Lm]) ?_;exact .of_eq (Ab (sl EL) (show A=Zo s.data.toList by rw[hA,AJ (by omega)]))
theorem Zl{s:List UInt8}{n:Int}(h:Gu s=some n):0≤n:=by
 cases s with
 |nil=>unfold Gu at h;cases h
 |cons c r =>
  have h:(if c=118 then(if(r.isEmpty||decide (3<r.length)||(decide (1<r.length)&&decide (r.headD 0=48))||!r.all CI)=true then none else some (D1 r))else none)=some n:=h
  by_cases hc:c=118
  ·rw[Ax hc]at h
   by_cases hb:(r.isEmpty||decide (3<r.length)||(decide (1<r.length)&&decide (r.headD 0=48))||!r.all CI)=true
   ·rw[Ax hb]at h;cases h
   ·rw[Ao hb]at h;have ha:r.all CI=true:=by
     cases hr:r.all CI
     ·rw[hr]at hb;simp at hb
     ·rfl
    rw[←BA h]
    suffices hh:∀i,i≤r.length→0≤D1 (r.take i) by
     have:=hh r.length (Al _)
     rwa [Dp]at this
    intro i
    induction i with
    |zero=>intro _;exact AZ _
    |succ i ih =>
     intro hi;have hd:=Ju (AR.1 ha _ (Ak (show i<r.length by omega)))
     have:=ih (by omega)
     rw[K7 r i (by omega)];omega
  ·rw[Ao hc]at h;cases h
theorem jn{l:List UInt8}{x:ByteArray}(h:(Zo l)[(Zo l).length-1]?=some x):(CO 47 l).getLastD []=x.data.toList:=by
 rw[Lm,AK,←List.getLast?_eq_getElem?]at h;obtain⟨y,hy,e⟩:=AY.1 h;rw[List.getLastD_eq_getLast?,hy,←e];rfl
theorem rk(p:ByteArray)(hp:E9 p):PC 111 [vs p] (QE (Bi p)):=by
 have Ek:p.size=p.data.toList.length:=by simp
 have hc:=vS p hp;unfold E9 at hp;obtain⟨A,hA⟩:∃A,A=Zo p.data.toList:=⟨_,rfl⟩;rw[←hA]at hc;have wv:A.length=(CO 47 p.data.toList).length:=by rw[hA,Lm]
 have sG:=UD 47 p.data.toList;have ko:0<A.length:=by rw[wv];exact G7.2 (Ld 47 _)
 have sx:∀x∈A,x.data.toList.length<4611686018427387904:=fun x hx=>by
  obtain⟨y,hy,e⟩:=Ar.1 (hA▸hx:x∈Zo p.data.toList);have h5:=LJ 47 _ y hy;rw[←e];show y.length<_;omega
 have Fp:(CO 47 p.data.toList).all Hh=A.all fun x=>Hh x.data.toList:=by rw[hA,List.all_map];rfl
 have DF:A.length-1<A.length:=by omega
 have hg:A[A.length-1]?=some A[A.length-1]:=Ge DF;have Yl:(CO 47 p.data.toList).getLastD []=A[A.length-1].data.toList:=by
  subst hA;exact jn hg
 have em:Bi p=match Gu A[A.length-1].data.toList with
  |none=>none
  |some n=>if(decide (64<p.data.toList.length)||decide (A.length<2))=true then none else if(A.all fun x=>Hh x.data.toList)=true then some n else none:=by
  unfold Bi QF;rw[Yl,Fp,←wv];cases Gu A[A.length-1].data.toList with
  |none=>rfl
  |some n=>rfl
 clear Fp Yl
 have hv:=vU A[A.length-1] (sx _ (Ak DF));obtain⟨o,ho⟩:∃o,o=Gu A[A.length-1].data.toList:=⟨_,rfl⟩;rw[←ho]at hv em;have hz:∀n,o=some n→0≤n:=fun n e=>by
  rw[e]at ho;exact Zl ho.symm
 refine Ps (Iq [4,9,10]) Tryz.func111 rfl (Nz rfl) ?_;refine Yi (fun h=>?_) (fun h=>?_)
 ·have h:(64:Int)<((p.size:Nat):Int):=h;exact .of_eq (Ab QE (show(none:Option Int)=Bi p by rw[em,At (by omega:64<p.data.toList.length)];cases o<;>rfl))
 have h:¬(64:Int)<((p.size:Nat):Int):=h;have d1:decide (64<p.data.toList.length)=false:=Aj (by omega);refine Xi .pure (Xi _ (Yi (hc) ?_));refine Xi ⟨[(4,sl EL A)],[],Aa⟩ (Yi ⟨Z1,Tv,Fh,Tv⟩ ?_)
 refine Xi {i:Nat // i≤A.length∧∀j (hj:j<A.length),j<i→Hh (A[j]).data.toList=true} (Xi (fun i=>⟨[(4,sl EL A),(5,vi i.1)],[],Aa⟩) (Xi (fun i=>A.length-i.1) (Yi (Xi ⟨0,AG _,fun j _ h=>by omega⟩ ?_) ?_)))
 ·exact⟨Z2,Tv,Fh,Tv⟩
 intro⟨i,i1,i2⟩;refine Yi (fun h2=>?_) (fun h2=>?_)
 ·have h2:(i:Int)<((A.map EL).length:Int):=h2;have h2:i<A.length:=by simpa using h2
  have hg:A[i]?=some A[i]:=Ge h2;refine Xi (EL A[i]) (Yi (Yi (Nn i) (by simp[hg])) (Yi rfl ?_));have hn:=vT A[i] (sx _ (Ak h2));refine Bq (Bt (Hh A[i].data.toList)).symm (fun e1=>?_) (fun e1=>?_)
  ·rw[e1]at hn;refine Xi .pure (Xi _ (Yi (hn) ?_));have e2:(A.all fun x=>Hh x.data.toList)=false:=by
    rw[AF];intro hh
    have:=AR.1 hh _ (Ak h2)
    rw[e1]at this;cases this
   exact .of_eq (Ab QE (show(none:Option Int)=Bi p by
    rw[em,e2];cases o with
    |none=>rfl
    |some n=>cases (decide (64<p.data.toList.length)||decide (A.length<2))<;>rfl))
  rw[e1]at hn;refine Xi .pure (Xi _ (Yi (hn) ?_));refine Yi (Ii i (by omega)) ?_;refine Xi ⟨i+1,by omega,fun j hj GA=>?_⟩ ?_
  ·rcases Ch j i with z | z
   ·exact i2 j hj z
   ·have:j=i:=by omega
    subst this;exact e1
  ·exact⟨Dl A.length i (by omega),Z2,Tv,Fh,Tv⟩
 have h2:¬(i:Int)<((A.map EL).length:Int):=h2;have h2:¬i<A.length:=by simpa using h2
 have e2:(A.all fun x=>Hh x.data.toList)=true:=AR.2 fun x hx=>by
  obtain⟨j,hj,rfl⟩:=Cc hx;exact i2 j hj (by omega)
 have em:Bi p=match(generalizing:=false) o with
  |none=>none
  |some n=>if decide (A.length<2)=true then none else some n:=by
  rw[em,e2,d1];cases o<;>rfl
 refine Xi ⟨[(4,sl EL A)],[],Aa⟩ (Yi ⟨Z1,Tv,Fh,Tv⟩ ?_)
 have Zn:(((A.map EL).length:Int)-1).toNat=A.length-1:=by rw[Lm];omega
 refine Yi (by show Bu (((A.map EL).length:Int)-1);rw[Lm];unfold Bu;omega) ?_;refine Xi (EL A[A.length-1]) (Yi (Yi (by show(0:Int)≤((A.map EL).length:Int)-1;rw[Lm];omega) (by rw[Zn];exact B4 hg)) (Yi rfl ?_));refine Xi .pure (Xi _ (Yi (hv) ?_));refine BN (show ∃z:Int,U9 o=vi z∧(z<0↔o=none)∧∀n,o=some n→z=n by
  cases o with
  |none=>exact⟨-1,rfl,⟨fun _=>rfl,fun _=>by decide⟩,fun n h=>by cases h⟩
  |some n=>exact⟨n,rfl,⟨fun h=>absurd (hz n rfl) (by omega),fun h=>by cases h⟩,fun m h=>by cases h;rfl⟩) (fun z uz=>?_)
 refine Xi ⟨[(4,sl EL A),(6,vi z)],[],Aa⟩ (Yi ⟨⟨Zr,⟨uz.1,rfl⟩,Tv⟩,Tv,Fh,Tv⟩ ?_)
 refine Yi (fun h3=>?_) (fun h3=>?_)
 ·have h3:((A.map EL).length:Int)<2:=h3;rw[Lm]at h3;exact .of_eq (Ab QE (show(none:Option Int)=Bi p by rw[em,At (by omega:A.length<2)];cases o<;>rfl))
 have h3:¬((A.map EL).length:Int)<2:=h3;rw[Lm]at h3;refine Yi (fun h4=>?_) (fun h4=>?_)
 ·have h4:z<0:=h4;exact .of_eq (Ab QE (show(none:Option Int)=Bi p by rw[em,uz.2.1.1 h4]))
 have h4:¬z<0:=h4;refine BN (show ∃n,o=some n by
  cases o with
  |none=>exact absurd (uz.2.1.2 rfl) h4
  |some n=>exact⟨n,rfl⟩) (fun n hn=>?_)
 exact .of_eq (show AV.tup [vi z,vi 0]=QE (Bi p) by rw[em,hn,uz.2.2 n hn,Aj (by omega:¬A.length<2)];rfl)
theorem vN(p:ByteArray)(hp:E9 p):PC 110 [vs p] (vb (Bi p).isSome):=by
 have hc:=rk p hp;cases h:Bi p with
 |none =>
  rw[h]at hc;refine Ps E8 Tryz.func110 rfl (Nz rfl) ?_;refine Xi .pure (Xi _ (Yi (hc) ?_));refine Yi ?_ ?_
  ·intro h;exact absurd (show(4:Int)=0 from h) (by decide)
  ·intro _;exact .refl _
 |some n =>
  rw[h]at hc;refine Ps E8 Tryz.func110 rfl (Nz rfl) ?_;refine Xi .pure (Xi _ (Yi (hc) ?_));refine Yi ?_ ?_
  ·intro _;exact .refl _
  ·intro h;exact absurd rfl h
theorem zd(s:List Sl)(hs:Co s):PC 57 [sl Ae s] (vb (Es s)):=by
 unfold Co at hs;refine Ps E8 Tryz.func57 rfl (Nz rfl) ?_;refine Xi {i:Nat // 1≤i∧(s=[]∨i≤s.length)∧Es s=(match s[i-1]? with | none=>true | some y=>Io (some y.path) (s.drop i))} (Xi (fun i=>⟨[(0,sl Ae s),(3,vi i.1)],[],Aa⟩) (Xi (fun i=>s.length-i.1) (Yi (Xi ⟨1,Al _,by cases s with | nil=>exact .inl rfl | cons _ _=>exact .inr (by simp),by cases s<;>rfl⟩ ?_) ?_)))
 ·exact⟨Z2,Tv,Fh,Tv⟩
 intro⟨i,h1,h2,h3⟩;refine Yi ?_ ?_
 ·intro h;have h:(i:Int)<(s.map Ae).length:=h;have h:i<s.length:=by simpa using h
  have hg:s[i]?=some s[i]:=Ge h;have h' : i-1<s.length:=by omega
  have ib : s[i-1]?=some s[i-1]:=Ge h';have e1:((i:Int)-1).toNat=i-1:=by omega
  have nA:Es s=(EM s[i-1].path s[i].path&&Io (some s[i].path) (s.drop (i+1))):=by
   rw[h3,ib]
   have:=iE s (i-1) (by omega)
   simp only[show i-1+1=i by omega,show i-1+2=i+1 by omega]at this;exact this
  refine Xi (Ae s[i]) (Yi (Yi (Nn i) (by simp[hg])) (Yi rfl ?_));refine Yi (by show Bu ((i:Int)-1);unfold Bu;omega) ?_;refine Xi (Ae s[i-1]) (Yi (Yi (by show(0:Int)≤(i:Int)-1;omega) (by show(s.map Ae)[((i:Int)-1).toNat]?=_;rw[e1];simp[ib])) (Yi rfl ?_));refine Yi ?_ ?_
  ·intro h4;have h4:Op.bytesLess s[i-1].path.toList s[i].path.toList=false:=h4;rw[←E0]at h4;refine Yi (by kernel_rfl) ?_;exact .of_eq (Ab vb (show false=Es s by rw[nA,h4];rfl))
  ·intro h4;have h4:¬Op.bytesLess s[i-1].path.toList s[i].path.toList=false:=h4;rw[←E0,Bool.not_eq_false]at h4;refine Yi (by kernel_rfl) ?_;refine Yi (Ii i (by omega)) ?_;refine Xi ⟨i+1,by omega,.inr (by omega),by rw[nA,h4,show i+1-1=i by omega,hg];rfl⟩ ?_;exact⟨Dl s.length i (by omega),Z2,Tv,Fh,Tv⟩
 ·intro h;have h:¬(i:Int)<(s.map Ae).length:=h;have h:¬i<s.length:=by simpa using h
  have wZ:Es s=true:=by
   rcases h2 with h2 | h2
   ·rw[h2];rfl
   ·have e:i=s.length:=by omega
    rw[h3,e,List.drop_length];cases s[s.length-1]?<;>rfl
  exact .of_eq (Ab vb wZ.symm)
abbrev QD(p:ByteArray):Int:=match Bi p with | none=>-1 | some m=>m
abbrev qM:Prop:=∀p:ByteArray,E9 p→PC 105 [vs p] (vi (QD p))
abbrev qN:Prop:=∀s:Bg,Co s→PC 133 [sl Ag s] (sl Ag (canon s))
theorem me{r:List UInt8}(h:r.all CI=true):0≤D1 r:=by
 have:∀(l:List UInt8) (n:Int),0≤n→(∀c∈l,CI c=true)→0≤l.foldl (fun n c=>10*n+((c.toNat:Int)-48)) n:=by
  intro l
  induction l with
  |nil=>intro n hn _;exact hn
  |cons c l ih =>
   intro n hn hc
   have:=Ju (hc c (Ac ..))
   exact ih _ (show 0≤10*n+((c.toNat:Int)-48) by omega) fun d hd=>hc d (Af _ hd)
 exact this r 0 (AZ _) (fun c hc=>AR.1 h c hc)
theorem mS{s:List UInt8}{n:Int}(h:Gu s=some n):0≤n:=by
 unfold Gu at h;split at h
 ·split at h
  ·split at h
   ·cases h
   ·rename_i r _ hc;cases h;refine me ?_;cases hd:r.all CI with
    |true=>rfl
    |false=>rw[hd]at hc;simp at hc
  ·cases h
 ·cases h
theorem iP{p:ByteArray}{m:Int}(h:Bi p=some m):0≤m:=by
 unfold Bi QF at h;split at h
 ·cases h
 ·rename_i n e;split at h
  ·cases h
  ·split at h
   ·cases h;exact mS e
   ·cases h
theorem Px(p:ByteArray):QD p<0↔(Bi p).isNone=true:=by
 unfold QD;cases h:Bi p with
 |none=>simp
 |some m=>have:=iP h;simp;omega
theorem c68(lh:qM)(oT:qN)(l:List Rq)(hs:∀q∈l,NU q):PC 106 [sl AN l] (vi (By l)):=by
 refine Ps (Iq [8,10]) Tryz.func106 rfl (Nz rfl) ?_;refine Yi ?_ ?_
 ·intro h;have h:(16:Int)<(l.map AN).length:=h;exact .of_eq (Ab vi (show(7:Int)=By l by unfold By;rw[Ax (by rw[Lm]at h;omega)]))
 intro h;have h:¬(16:Int)<(l.map AN).length:=h;have hl:l.length≤16:=by rw[Lm]at h;omega
 have OD:By l=Ec none l:=by unfold By;rw[Ao (by omega)]
 refine Xi {i:Nat // i≤l.length∧Ec none l=Ec (Hb l i) (l.drop i)} (Xi (fun i=>⟨[(0,sl AN l),(3,vi i.1)],[],Aa⟩) (Xi (fun i=>l.length-i.1) (Yi (Xi ⟨0,AG _,rfl⟩ ?_) ?_)))
 ·exact⟨Z2,Tv,Fh,Tv⟩
 intro⟨i,h1,h2⟩;refine Yi ?_ ?_
 ·intro h;have h:(i:Int)<(l.map AN).length:=h;have h:i<l.length:=by simpa using h
  have hg:l[i]?=some l[i]:=Ge h;have hd:l.drop i=l[i]::l.drop (i+1):=Be h;have hq:=hs l[i] (Ak h);have HM:Ec none l=if Gi (Hb l i) l[i]=0 then Ec (some l[i].path) (l.drop (i+1))else Gi (Hb l i) l[i]:=by rw[h2,hd];rfl
  have fail:∀e:Int,Gi (Hb l i) l[i]=e→e≠0→e=By l:=fun e he hz=>by rw[OD,HM,he,Ao hz]
  have bB:Hb l (i+1)=some l[i].path:=Mc h;refine Xi (AN l[i]) (Yi (Yi (Nn i) (by simp[hg])) (Yi rfl ?_));refine Xi .pure (Xi _ (Yi (lh l[i].path hq.2) ?_));refine Yi ?_ ?_
  ·intro h3;have h3:QD l[i].path<0:=h3;exact .of_eq (Ab vi (fail 4 (by unfold Gi;rw[Ax ((Px _).1 h3)]) (by decide)))
  intro h3;have h3:¬QD l[i].path<0:=h3;have hmj:(Bi l[i].path).isNone=false:=by
   rw[AF];exact fun e=>h3 ((Px _).2 e)
  have er:Gi (Hb l i) l[i]=if(l[i].set.isEmpty||!decide (l[i].set=canon l[i].set)||(match Hb l i with | some b=>!EM b l[i].path | none=>false))=true then 1 else 0:=by unfold Gi;rw[hmj];rfl
  refine Xi ⟨[(0,sl AN l),(3,vi i)],[],Aa⟩ (Yi ⟨Z2,Tv,Fh,Tv⟩ ?_)
  refine Xi (AN l[i]) (Yi (Yi (Nn i) (by simp[hg])) (Yi rfl ?_));refine Yi ?_ ?_
  ·intro h4;have h4:((l[i].set.map Ag).length:Int)=0:=h4;have h5:l[i].set.isEmpty=true:=by
    rw[Lm]at h4;rw[Gc];exact Az (by omega)
   refine Yi (by kernel_rfl) ?_;exact .of_eq (Ab vi (fail 1 (by rw[er,h5];rfl) (by decide)))
  intro h4;have h4:¬((l[i].set.map Ag).length:Int)=0:=h4;have h5:l[i].set.isEmpty=false:=by
   cases hqs:l[i].set with
   |nil=>rw[hqs]at h4;exact absurd rfl h4
   |cons a b=>rfl
  have he:=wk l[i].set (canon l[i].set) hq.1;refine Xi (AN l[i]) (Yi (Yi (Nn i) (by simp[hg])) (Yi rfl ?_));refine Xi (AN l[i]) (Yi (Yi (Nn i) (by simp[hg])) (Yi rfl ?_));refine Xi _ (Yi (oT l[i].set hq.1) ?_);refine Bq (Bt (decide (l[i].set=canon l[i].set))) (fun e=>?_) (fun e=>?_)
  rotate_left
  ·rw[e]at he;refine Xi _ (Yi (he) ?_);refine Yi (by kernel_rfl) ?_;exact .of_eq (Ab vi (fail 1 (by rw[er,h5,e];rfl) (by decide)))
  rw[e]at he;refine Xi _ (Yi (he) ?_);refine Yi (by kernel_rfl) ?_;refine Xi ⟨[(0,sl AN l),(3,vi i)],[],Aa⟩ (Yi ⟨Z2,Tv,Fh,Tv⟩ ?_)
  refine Yi ?_ ?_
  ·intro h6;have h6:(0:Int)<i:=h6;have h7:i-1<l.length:=by omega
   have hb:Hb l i=some l[i-1].path:=by
    obtain⟨k,rfl⟩:∃k,i=k+1:=⟨i-1,by omega⟩;exact Mc h7
   refine Xi (AN l[i]) (Yi (Yi (Nn i) (by simp[hg])) (Yi rfl ?_));refine Yi (by show Bu ((i:Int)-1);unfold Bu;omega) ?_;refine Xi (AN l[i-1]) (Yi (Yi (by show(0:Int)≤(i:Int)-1;omega) (by rw[show((i:Int)-1).toNat=i-1 by omega];exact B4 (Ge h7))) (Yi rfl ?_));refine Yi ?_ ?_
   ·intro h8;have h8:Op.bytesLess l[i-1].path.toList l[i].path.toList=false:=h8;refine Yi (by kernel_rfl) ?_;exact .of_eq (Ab vi (fail 1 (by rw[er,h5,e,hb];show(if(!EM l[i-1].path l[i].path)=true then(1:Int)else 0)=1;rw[E0,h8];rfl) (by decide)))
   ·intro h8;have h8:¬Op.bytesLess l[i-1].path.toList l[i].path.toList=false:=h8;have h8:Op.bytesLess l[i-1].path.toList l[i].path.toList=true:=by simpa using h8
    refine Yi (by kernel_rfl) ?_;refine Yi (Ii i (by omega)) ?_;refine Xi ⟨i+1,by omega,by rw[HM,bB,Ax (by rw[er,h5,e,hb];show(if(!EM l[i-1].path l[i].path)=true then(1:Int)else 0)=0;rw[E0,h8];rfl)]⟩ ?_;exact⟨Dl l.length i (by omega),Z2,Tv,Fh,Tv⟩
  ·intro h6;have h6:¬(0:Int)<i:=h6;have h7:i=0:=by omega
   refine Yi (by kernel_rfl) ?_;refine Yi (Ii i (by omega)) ?_;refine Xi ⟨i+1,by omega,by rw[HM,bB,Ax (by rw[er,h5,e];subst h7;rfl)]⟩ ?_;exact⟨Dl l.length i (by omega),Z2,Tv,Fh,Tv⟩
 ·intro h;have h:¬(i:Int)<(l.map AN).length:=h;have h:¬i<l.length:=by simpa using h
  have e:(0:Int)=By l:=by rw[OD,h2,HH (by omega)];rfl
  exact .of_eq (Ab vi e)
theorem ap(p:ByteArray)(k:Nat)(hk:k<p.data.toList.length)(h1:p.data.toList[k]=47)(h2:∀j (hj:j<p.data.toList.length),k<j→p.data.toList[j]≠47):Go.Lib.lastIndex p.data.toList [47]=k:=by
 have qx:∀i (hi:i<p.data.toList.length),Go.Lib.occAt p.data.toList [47] i=true↔p.data.toList[i]=47:=fun i hi=>by
  unfold Go.Lib.occAt;rw[Be hi];simp;exact eq_comm
 unfold Go.Lib.lastIndex;rw[Ax (by simp only[Am];omega)];rcases Go.Lib.lastOcc_spec p.data.toList [47] (p.data.toList.length - [(47:UInt8)].length+1)with ⟨_,h3⟩ | ⟨j,h3,h4,h5,h6⟩
 ·have:=h3 k (by simp only[Am];omega)
  rw[(qx k hk).2 h1]at this;cases this
 ·rw[h4];simp only[Am]at h3;have e:j=k:=by
   rcases Nat.lt_trichotomy j k with z | z | z
   ·have:=h6 k z (by simp only[Am];omega)
    rw[(qx k hk).2 h1]at this;cases this
   ·exact z
   ·exact absurd ((qx j (by omega)).1 h5) (h2 j (by omega) z)
  rw[e]
theorem eS{p:ByteArray}{m:Int}(h:Bi p=some m):(47:UInt8)∈p.data.toList:=by
 refine Oy 47 _ ?_;unfold Bi QF at h;split at h
 ·cases h
 ·split at h
  ·cases h
  ·rename_i hn;simp only[CF,AB]at hn;omega
theorem rg(p:ByteArray)(hp:E9 p):PC 85 [vs p] (Mz QB p):=by
 have hc:=rk p hp;have hi:=vN p hp;have Ek:p.size=p.data.toList.length:=by simp
 unfold Mz;cases h:Bi p with
 |none =>
  rw[h]at hi;refine Ps E8 Tryz.func85 rfl (Nz rfl) ?_;refine Xi .pure (Xi _ (Yi (hi) ?_));exact .refl _
 |some n =>
  have fy:=eS h;rw[h]at hc hi;unfold E9 at hp;refine BN (show ∃q,∃hq:q<p.data.toList.length,p.data.toList[q]=47 from Cc fy) (fun q hq=>?_);refine BN hq (fun hq eq=>?_);refine Ps E8 Tryz.func85 rfl (Nz rfl) ?_;refine Xi .pure (Xi _ (Yi (hi) ?_));refine Xi .pure (Xi _ (Yi (hc) ?_));refine Yi (fun h=>absurd rfl h) (fun _=>?_);refine Yi (show Bu (((p.size:Nat):Int)-1) by unfold Bu;omega) ?_;refine Xi {k:Nat // k<p.data.toList.length∧∀j (hj:j<p.data.toList.length),k<j→p.data.toList[j]≠47} (Xi (fun k=>⟨[(0,vs p),(5,vi n),(7,vi k.1)],[],Aa⟩) (Xi (fun k=>k.1) (Yi (Xi ⟨p.data.toList.length-1,by omega,fun j hj GA=>by omega⟩ ?_) ?_)))
  ·have e1:vi (((p.size:Nat):Int)-1)=vi ((p.data.toList.length-1:Nat):Int):=Ab vi (by omega);exact⟨⟨Zr,Zr,⟨e1,rfl⟩,Tv⟩,Tv,Fh,Tv⟩
  intro⟨k,k1,k2⟩;have RZ:(0:Int)≤k∧p.data[((k:Nat):Int).toNat]?=some p.data.toList[k]:=⟨by omega,by rw[Ba];exact MV p k k1⟩;refine Xi p.data.toList[k] (Yi RZ ?_);refine Yi (fun h2=>?_) (fun h2=>?_)
  ·have h2:¬(p.data.toList[k].toNat:Int)=47:=h2;have h2:p.data.toList[k]≠47:=fun e=>h2 (by rw[e];rfl);have hqk:q≤k:=by
    rcases Ch k q with z | z
    ·exact absurd eq (k2 q hq z)
    ·exact z
   have Xv:q≠k:=fun e=>by subst e;exact h2 eq
   refine Yi (show Bu ((k:Int)-1) by unfold Bu;omega) ?_;have e1:vi ((k:Int)-1)=vi ((k-1:Nat):Int):=Ab vi (by omega);refine Xi ⟨k-1,by omega,fun j hj GA=>?_⟩ ?_
   ·rcases Ch k j with z | z
    ·exact k2 j hj z
    ·have:j=k:=by omega
     subst this;exact h2
   ·exact⟨by show k-1<k;omega,⟨Zr,Zr,⟨e1,rfl⟩,Tv⟩,Tv,Fh,Tv⟩
  ·have h2:¬¬(p.data.toList[k].toNat:Int)=47:=h2;have h2:p.data.toList[k]=47:=GB.1 (by have:=B2.1 h2;show p.data.toList[k].toNat=47;omega);have el:=ap p k k1 h2 k2;refine Yi ⟨AZ _,by show(0:Int)≤k;omega,by show(k:Int)≤p.size;omega⟩ ?_;have e3:p.extract 0 ((k:Nat):Int).toNat=QB p:=by unfold QB;rw[el]
   exact .of_eq (show AV.tup [vs (p.extract 0 ((k:Nat):Int).toNat),vi n,vi 0]=_ by rw[e3])
theorem vr(p:ByteArray)(hp:E9 p):PC 105 [vs p] (vi (QD p)):=by
 have hc:=rg p hp;unfold Mz at hc;unfold QD;cases h:Bi p with
 |none =>
  rw[h]at hc;refine Ps E8 Tryz.func105 rfl (Nz rfl) ?_;refine Xi .pure (Xi _ (Yi (hc) ?_));refine Yi (fun _=>?_) (fun h=>absurd (show(4:Int)≠0 by decide) h);exact .refl _
 |some m =>
  rw[h]at hc;refine Ps E8 Tryz.func105 rfl (Nz rfl) ?_;refine Xi .pure (Xi _ (Yi (hc) ?_));refine Yi (fun h=>absurd rfl h) (fun _=>?_);exact .refl _
theorem lh:qM:=vr
abbrev tj:Sj:=⟨[],[(3,0)],[(63,2)],[],[],[],[],[],[],[(112,7)],[4,6,10,11,14,16,17,18]⟩
theorem Lc(s:Bg):∀cs∈s.map Ag,cs.length=2:=fun cs h=>by
 obtain⟨x,_,rfl⟩:=Ar.1 h;rfl
theorem Jt{n:Nat}:∀{l:List (List AV)},(∀c∈l,c.length=n)→CT n l
 | [],_=>trivial
 |c::_,h=>⟨h c (Ac ..),Jt fun d hd=>h d (Af _ hd)⟩
abbrev ML(s:Bg)(k:Nat):List (List AV):=((s.map Ag).take (((s.map Ag).length:Nat):Int).toNat).drop ((k:Nat):Int).toNat
theorem Uu(s:Bg)(k:Nat):ML s k=(s.drop k).map Ag:=by
 unfold ML;rw[Ba,Ba,AJ (Al _),List.map_drop]
theorem mY(s:Bg)(x:Int×Int)(k:Nat)(h:s.length≤1073741824):CT 2 (ML s k)∧[Ag x].length=1∧([Ag x].length+(ML s k).length)*16≤140737488355328∧[Ag x].length+(ML s k).length≤9223372036854775807:=by
 rw[Uu];refine⟨Jt (Lc _),rfl,?_,?_⟩<;>rw[Lm,Ap,Am]<;>omega
abbrev Rz(s:Bg)(k:Nat):List (List AV):=((s.map Ag).take ((k:Nat):Int).toNat).drop ((0:Int)).toNat
theorem Yj(s:Bg)(k:Nat):Rz s k=(s.take k).map Ag:=by
 unfold Rz;rw[Ba,show(0:Int).toNat=0 from rfl,KG,JE]
theorem mZ(s:Bg)(x:Int×Int)(k:Nat)(hk:k≤s.length)(h:s.length≤1073741824):CT 2 ([Ag x]++ML s k)∧(Rz s k).length=((k:Nat):Int).toNat-((0:Int)).toNat∧((Rz s k).length+([Ag x]++ML s k).length)*16≤140737488355328∧(Rz s k).length+([Ag x]++ML s k).length≤9223372036854775807:=by
 rw[Uu,Yj];refine⟨⟨rfl,Jt (Lc _)⟩,?_,?_,?_⟩
 ·rw[Lm,AC,Ba];show min k s.length=k-0;omega
 ·rw[Ad,Lm,Lm,AC,Ap,Am];omega
 ·rw[Ad,Lm,Lm,AC,Ap,Am];omega
theorem sU(s:Bg)(x:Int×Int)(k:Nat):Rz s k++([Ag x]++ML s k)=(s.take k++([x]++s.drop k)).map Ag:=by
 rw[Uu,Yj,AH,AH];rfl
theorem dy{s A:Bg}{j:Nat}(h:j<s.length)(hA:A=(Bz (s.take j)).reverse){y:Int×Int}(hy:A[A.length-1]?=some y)(Hr:s[j].1≤y.2):A.set (A.length-1) (y.1,max y.2 s[j].2)=(Bz (s.take (j+1))).reverse:=by
 rw[FB s j h];cases hr:Bz (s.take j)with
 |nil=>rw[hA,hr]at hy;cases hy
 |cons z t =>
  have eA:A=t.reverse++[z]:=by rw[hA,hr,EU]
  have eL:A.length-1=t.reverse.length:=by rw[eA,Ad,Am];omega
  rw[eL,eA,A1 (Al _),EW]at hy;have ez:z=y:=BA hy;have e2:JY (z::t) s[j]=(z.1,max z.2 s[j].2)::t:=by show(if s[j].1≤z.2 then _ else _)=_;rw[Ax (ez▸Hr)]
  rw[e2,eL,eA,List.set_append_right _ _ (Al _),EW,EU,ez];rfl
theorem YB{s A:Bg}{j:Nat}(h:j<s.length)(hA:A=(Bz (s.take j)).reverse)(hn:∀y,A[A.length-1]?=some y→¬s[j].1≤y.2):A++[s[j]]=(Bz (s.take (j+1))).reverse:=by
 rw[FB s j h];cases hr:Bz (s.take j)with
 |nil=>rw[hA,hr];rfl
 |cons z t =>
  have eA:A=t.reverse++[z]:=by rw[hA,hr,EU]
  have eL:A.length-1=t.reverse.length:=by rw[eA,Ad,Am];omega
  have:=hn z (by rw[eL,eA,A1 (Al _),EW];rfl)
  have e2:JY (z::t) s[j]=s[j]::z::t:=by show(if s[j].1≤z.2 then _ else _)=_;rw[Ao this]
  rw[e2,eA,EU,EU]
theorem sY(A:Bg)(k:Nat)(y x:Int×Int):(A.map Ag).set k [vi y.1,vi (max y.2 x.2)]=(A.set k (y.1,max y.2 x.2)).map Ag:=by rw[HJ]
set_option maxHeartbeats 4000000 in
theorem vt(l:Bg)(hl:Co l):PC 133 [sl Ag l] (sl Ag (canon l)):=by
 have hl:l.length≤1073741824:=hl;refine Ps tj Tryz.func133 rfl (Nz rfl) ?_;refine Xi {p:Nat×Bg // p.1≤l.length∧p.2.Perm (CL (l.take p.1))∧p.2.Pairwise fun a b=>a.1≤b.1} (Xi (fun p=>⟨[(0,sl Ag l),(3,sl Ag p.1.2),(4,vi p.1.1)],[],Aa⟩) (Xi (fun p=>l.length-p.1.1) (Yi (Xi ⟨(0,[]),AG _,.refl _,.nil⟩ ?_) ?_)))
 ·exact⟨Z3,Tv,Fh,Tv⟩
 intro⟨⟨i,s⟩,i1,i2,i3⟩;have i1:i≤l.length:=i1;have i2:s.Perm (CL (l.take i)):=i2;have i3:s.Pairwise fun a b=>a.1≤b.1:=i3;have VH:s.length≤i:=by rw[i2.length_eq];exact Tb l i
 refine Yi (fun h=>?_) (fun h=>?_)
 ·skip
  have h:(i:Int)<(l.map Ag).length:=h;have h:i<l.length:=by simpa using h
  have hg:l[i]?=some l[i]:=Ge h;refine Xi (Ag l[i]) (Yi (Yi (Nn i) (by simp[hg])) (Yi rfl ?_));refine Xi (Ag l[i]) (Yi (Yi (Nn i) (by simp[hg])) (Yi rfl ?_));refine Yi (Nz rfl) ?_;refine Yi (by kernel_rfl) ?_;refine Xi ⟨[(0,sl Ag l),(3,sl Ag s),(4,vi i),(5,.ref 5 0)],[(5,.cells (Ag (Ee l[i])))],Aa⟩ (Yi ?_ ?_)
  ·have e0:HO.cells [vi (max 0 l[i].1),vi (min 1000000 l[i].2)]=.cells (Ag (Ee l[i])):=by
    rw[Int.max_comm,Int.min_comm];rfl
   exact⟨Z4,⟨⟨e0,rfl⟩,Tv⟩,Fh,Tv⟩
  refine Yi (fun h3=>?_) (fun h3=>?_)
  ·have h3:(Ee l[i]).2≤(Ee l[i]).1:=h3;refine Xi ⟨[(0,sl Ag l),(3,sl Ag s),(4,vi i)],[],Aa⟩ (Yi ⟨Z3,Tv,Fh,Tv⟩ ?_)
   refine Yi (Ii i (by omega)) ?_;have e:=Ta h (show ¬(Ee l[i]).1<(Ee l[i]).2 by omega);refine Xi ⟨(i+1,s),by omega,by show s.Perm (CL (l.take (i+1)));rw[e];exact i2,i3⟩ ?_;exact⟨Dl l.length i (by omega),Z3,Tv,Fh,Tv⟩
  have h3:¬(Ee l[i]).2≤(Ee l[i]).1:=h3;have e:=Qm h (show(Ee l[i]).1<(Ee l[i]).2 by omega);refine Xi {k:Nat // k≤s.length∧∀j (hj:j<s.length),k≤j→(Ee l[i]).1<s[j].1} (Xi (fun k=>⟨[(0,sl Ag l),(3,sl Ag s),(4,vi i),(5,.ref 5 0),(6,vi k.1)],[(5,.cells (Ag (Ee l[i])))],Aa⟩) (Xi (fun k=>k.1) (Yi (Xi ⟨s.length,Al _,fun j hj GA=>by omega⟩ ?_) ?_)))
  ·have e1:vi ((s.map Ag).length:Int)=vi (s.length:Int):=by rw[Lm]
   exact⟨⟨Zr,Zr,Zr,Zr,⟨e1,rfl⟩,Tv⟩,Z1,Fh,Tv⟩
  intro⟨k,k1,k2⟩;refine Yi (fun h4=>?_) (fun h4=>?_)
  ·have h4:(0:Int)<k:=h4;refine Yi (show Bu ((k:Int)-1) by unfold Bu;omega) ?_;have hk:k-1<s.length:=by omega
   have hg:s[k-1]?=some s[k-1]:=Ge hk;have hn:((k:Int)-1).toNat=k-1:=by omega
   refine Xi (Ag s[k-1]) (Yi (Yi (by show(0:Int)≤(k:Int)-1;omega) (by rw[hn];exact B4 hg)) (Yi rfl ?_));refine Yi (fun h5=>?_) (fun h5=>?_)
   ·have h5:(Ee l[i]).1<s[k-1].1:=h5;refine Yi (by kernel_rfl) ?_;refine Yi (show Bu ((k:Int)-1) by unfold Bu;omega) ?_;have e1:vi ((k:Int)-1)=vi ((k-1:Nat):Int):=Ab vi (by omega);refine Xi ⟨k-1,by omega,fun j hj GA=>?_⟩ ?_
    ·rcases Ch j k with z | z
     ·have:j=k-1:=by omega
      subst this;exact h5
     ·exact k2 j hj z
    ·exact⟨by show k-1<k;omega,⟨Zr,Zr,Zr,Zr,⟨e1,rfl⟩,Tv⟩,Z1,Fh,Tv⟩
   have h5:¬(Ee l[i]).1<s[k-1].1:=h5;have HL:k=0∨∃h:k-1<s.length,s[k-1].1≤(Ee l[i]).1:=.inr ⟨hk,by omega⟩;refine Yi (by kernel_rfl) ?_;refine Xi ⟨[(0,sl Ag l),(3,sl Ag s),(4,vi i),(5,.ref 5 0),(6,vi k)],[(5,.cells (Ag (Ee l[i])))],Aa⟩ (Yi ⟨Z5,Z1,Fh,Tv⟩ ?_)
   refine Yi (show(0:Int)≤0∧(0:Int)≤k∧(k:Int)=k∧(k:Int)≤((s.map Ag).length:Nat) by rw[Lm];omega) (Yi (Lc s) ?_);refine Yi (Nz rfl) ?_;refine Yi (show(0:Int)≤k∧(k:Int)≤((s.map Ag).length:Nat)∧(((s.map Ag).length:Nat):Int)≤((s.map Ag).length:Nat) by rw[Lm];omega) (Yi (Lc s) ?_);refine Yi (mY s (Ee l[i]) k (by omega)) ?_;refine Yi (mZ s (Ee l[i]) k k1 (by omega)) ?_;refine Yi (by kernel_rfl) ?_;refine BN (show ∃t,t=s.take k++([Ee l[i]]++s.drop k)from⟨_,rfl⟩) (fun t ht=>?_);refine Xi ⟨[(0,sl Ag l),(3,sl Ag t),(4,vi i)],[],Aa⟩ (Yi ?_ ?_)
   ·have e3:AV.slice .none (Rz s k++([Ag (Ee l[i])]++ML s k))=sl Ag t:=by rw[ht];exact Ab (AV.slice .none) (sU s (Ee l[i]) k)
    exact⟨⟨Zr,⟨e3,rfl⟩,Zr,Tv⟩,Tv,Fh,Tv⟩
   refine Yi (Ii i (by omega)) ?_;refine Xi ⟨(i+1,t),by omega,by show t.Perm (CL (l.take (i+1)));rw[e,ht];exact YA s _ k i2,by show t.Pairwise _;rw[ht];exact TU s _ k i3 k2 HL⟩ ?_;exact⟨Dl l.length i (by omega),Z3,Tv,Fh,Tv⟩
  ·have h4:¬(0:Int)<k:=h4;have HL:k=0∨∃h:k-1<s.length,s[k-1].1≤(Ee l[i]).1:=.inl (by omega);refine Yi (by kernel_rfl) ?_;refine Xi ⟨[(0,sl Ag l),(3,sl Ag s),(4,vi i),(5,.ref 5 0),(6,vi k)],[(5,.cells (Ag (Ee l[i])))],Aa⟩ (Yi ⟨Z5,Z1,Fh,Tv⟩ ?_)
   refine Yi (show(0:Int)≤0∧(0:Int)≤k∧(k:Int)=k∧(k:Int)≤((s.map Ag).length:Nat) by rw[Lm];omega) (Yi (Lc s) ?_);refine Yi (Nz rfl) ?_;refine Yi (show(0:Int)≤k∧(k:Int)≤((s.map Ag).length:Nat)∧(((s.map Ag).length:Nat):Int)≤((s.map Ag).length:Nat) by rw[Lm];omega) (Yi (Lc s) ?_);refine Yi (mY s (Ee l[i]) k (by omega)) ?_;refine Yi (mZ s (Ee l[i]) k k1 (by omega)) ?_;refine Yi (by kernel_rfl) ?_;refine BN (show ∃t,t=s.take k++([Ee l[i]]++s.drop k)from⟨_,rfl⟩) (fun t ht=>?_);refine Xi ⟨[(0,sl Ag l),(3,sl Ag t),(4,vi i)],[],Aa⟩ (Yi ?_ ?_)
   ·have e3:AV.slice .none (Rz s k++([Ag (Ee l[i])]++ML s k))=sl Ag t:=by rw[ht];exact Ab (AV.slice .none) (sU s (Ee l[i]) k)
    exact⟨⟨Zr,⟨e3,rfl⟩,Zr,Tv⟩,Tv,Fh,Tv⟩
   refine Yi (Ii i (by omega)) ?_;refine Xi ⟨(i+1,t),by omega,by show t.Perm (CL (l.take (i+1)));rw[e,ht];exact YA s _ k i2,by show t.Pairwise _;rw[ht];exact TU s _ k i3 k2 HL⟩ ?_;exact⟨Dl l.length i (by omega),Z3,Tv,Fh,Tv⟩
 ·skip
  have h:¬(i:Int)<(l.map Ag).length:=h;have h:¬i<l.length:=by simpa using h
  have fin:(Bz s).reverse=canon l:=LP (by rw[AJ (by omega)]at i2;exact i2) i3;refine Xi ⟨[(3,sl Ag s)],[],Aa⟩ (Yi ⟨Z1,Tv,Fh,Tv⟩ ?_)
  refine Xi {p:Nat×Bg // p.1≤s.length∧p.2=(Bz (s.take p.1)).reverse} (Xi (fun p=>⟨[(3,sl Ag s),(7,.msl 63 p.1.2.length),(8,vi p.1.1)],[(63,FX p.1.2)],Aa⟩) (Xi (fun p=>s.length-p.1.1) (Yi (Xi ⟨(0,[]),AG _,rfl⟩ ?_) ?_)))
  ·exact⟨Z3,Z1,Fh,Tv⟩
  intro⟨⟨j,A⟩,j1,hA⟩;have j1:j≤s.length:=j1;have hA:A=(Bz (s.take j)).reverse:=hA;have wv:A.length≤j:=by rw[hA,Di];exact(Ok s j j1).1
  refine Yi (fun h2=>?_) (fun h2=>?_)
  ·have h2:(j:Int)<((s.map Ag).length:Int):=h2;have h2:j<s.length:=by simpa using h2
   have qt:s[j]?=some s[j]:=Ge h2;refine Xi ⟨[(3,sl Ag s),(7,.msl 63 A.length),(8,vi j),(9,vi A.length)],[(63,FX A)],Aa⟩ (Yi ⟨Z4,Z1,Fh,Tv⟩ ?_)
   refine Yi (fun h3=>?_) (fun h3=>?_)
   ·have h3:(0:Int)<A.length:=h3;have np:Bu ((A.length:Int)-1):=by unfold Bu;omega
    have hn:((A.length:Int)-1).toNat=A.length-1:=by omega
    have Zn:(0:Int)≤(A.length:Int)-1∧(A.length:Int)-1<(A.length:Int):=by omega
    have DF:A.length-1<A.length:=by omega
    have hg:A[A.length-1]?=some A[A.length-1]:=Ge DF;have qu:(A.map Ag)[((A.length:Int)-1).toNat]?=some (Ag A[A.length-1]):=by rw[hn];exact B4 hg
    have w8:A.length=(A.map Ag).length:=by rw[Lm]
    have sO:(0:Int)≤j∧(s.map Ag)[((j:Nat):Int).toNat]?=some (Ag s[j]):=⟨by omega,by rw[Ba];exact B4 qt⟩;refine Xi (Ag s[j]) (Yi sO (Yi rfl ?_));refine Yi np (Yi Zn (Yi w8 (Xi (Ag A[A.length-1]) (Yi qu ?_))));refine Yi (fun h4=>?_) (fun h4=>?_)
    ·have h4:s[j].1≤A[A.length-1].2:=h4;refine Yi (by kernel_rfl) ?_;refine Xi ⟨[(3,sl Ag s),(7,.msl 63 A.length),(8,vi j),(9,vi A.length)],[(63,FX A)],Aa⟩ (Yi ⟨Z4,Z1,Fh,Tv⟩ ?_)
     refine Yi np (Yi np (Yi Zn (Yi w8 (Xi (Ag A[A.length-1]) (Yi qu ?_)))));refine Xi (Ag s[j]) (Yi sO (Yi rfl ?_));refine Yi Zn (Yi w8 (Xi (Ag A[A.length-1]) (Yi qu (Yi (Nz rfl) ?_))));refine Yi (by kernel_rfl) ?_;refine BN (show ∃B,B=A.set (A.length-1) (A[A.length-1].1,max A[A.length-1].2 s[j].2)from⟨_,rfl⟩) (fun B hB=>?_);have e2:HO.arr 2 ((A.map Ag).set ((A.length:Int)-1).toNat [vi A[A.length-1].1,vi (max A[A.length-1].2 s[j].2)])=FX B:=by rw[hn,hB];exact Ab (HO.arr 2) (sY A _ _ _)
     have e1:AV.msl 63 A.length=.msl 63 B.length:=by rw[hB,CG]
     refine Xi ⟨[(3,sl Ag s),(7,.msl 63 B.length),(8,vi j)],[(63,FX B)],Aa⟩ (Yi ⟨⟨Zr,⟨e1,rfl⟩,Zr,Tv⟩,⟨⟨e2,rfl⟩,Tv⟩,Fh,Tv⟩ ?_)
     refine Yi (Ii j (by omega)) ?_;refine Xi ⟨(j+1,B),by omega,by rw[hB];exact dy h2 hA hg h4⟩ ?_;exact⟨Dl s.length j (by omega),Z3,Z1,Fh,Tv⟩
    have h4:¬s[j].1≤A[A.length-1].2:=h4;have w6:A++[s[j]]=(Bz (s.take (j+1))).reverse:=YB h2 hA fun y hy=>by
     rw[hg]at hy;rw[←BA hy];exact h4
    refine Yi (by kernel_rfl) ?_;refine Xi ⟨[(3,sl Ag s),(7,.msl 63 A.length),(8,vi j),(9,vi A.length)],[(63,FX A)],Aa⟩ (Yi ⟨Z4,Z1,Fh,Tv⟩ ?_)
    refine Xi (Ag s[j]) (Yi sO (Yi rfl ?_));refine Yi (Nz rfl) ?_;have F8:CT 2 [Ag s[j]]∧(A.map Ag).length=A.length∧((A.map Ag).length+[Ag s[j]].length)*16≤140737488355328∧(A.map Ag).length+[Ag s[j]].length≤9223372036854775807 :=
     ⟨⟨rfl,trivial⟩,by rw[Lm],by rw[Lm,Am];omega,by rw[Lm,Am];omega⟩
    refine Yi F8 ?_;refine BN (show ∃B,B=A++[s[j]]from⟨_,rfl⟩) (fun B hB=>?_);have e1:AV.msl 63 ((A.map Ag).length+[Ag s[j]].length)=.msl 63 B.length:=by rw[hB];simp
    have e2:HO.arr 2 (A.map Ag++[Ag s[j]])=FX B:=by rw[hB];simp
    refine Xi ⟨[(3,sl Ag s),(7,.msl 63 B.length),(8,vi j)],[(63,FX B)],Aa⟩ (Yi ⟨⟨Zr,⟨e1,rfl⟩,Zr,Tv⟩,⟨⟨e2,rfl⟩,Tv⟩,Fh,Tv⟩ ?_)
    refine Yi (Ii j (by omega)) ?_;refine Xi ⟨(j+1,B),by omega,by rw[hB];exact w6⟩ ?_;exact⟨Dl s.length j (by omega),Z3,Z1,Fh,Tv⟩
   ·have h3:¬(0:Int)<A.length:=h3;have sO:(0:Int)≤j∧(s.map Ag)[((j:Nat):Int).toNat]?=some (Ag s[j]):=⟨by omega,by rw[Ba];exact B4 qt⟩;have w6:A++[s[j]]=(Bz (s.take (j+1))).reverse:=YB h2 hA fun y hy=>by
     rw[Az (by omega:A.length=0)]at hy;cases hy
    refine Yi (by kernel_rfl) ?_;refine Xi ⟨[(3,sl Ag s),(7,.msl 63 A.length),(8,vi j),(9,vi A.length)],[(63,FX A)],Aa⟩ (Yi ⟨Z4,Z1,Fh,Tv⟩ ?_)
    refine Xi (Ag s[j]) (Yi sO (Yi rfl ?_));refine Yi (Nz rfl) ?_;have F8:CT 2 [Ag s[j]]∧(A.map Ag).length=A.length∧((A.map Ag).length+[Ag s[j]].length)*16≤140737488355328∧(A.map Ag).length+[Ag s[j]].length≤9223372036854775807 :=
     ⟨⟨rfl,trivial⟩,by rw[Lm],by rw[Lm,Am];omega,by rw[Lm,Am];omega⟩
    refine Yi F8 ?_;refine BN (show ∃B,B=A++[s[j]]from⟨_,rfl⟩) (fun B hB=>?_);have e1:AV.msl 63 ((A.map Ag).length+[Ag s[j]].length)=.msl 63 B.length:=by rw[hB];simp
    have e2:HO.arr 2 (A.map Ag++[Ag s[j]])=FX B:=by rw[hB];simp
    refine Xi ⟨[(3,sl Ag s),(7,.msl 63 B.length),(8,vi j)],[(63,FX B)],Aa⟩ (Yi ⟨⟨Zr,⟨e1,rfl⟩,Zr,Tv⟩,⟨⟨e2,rfl⟩,Tv⟩,Fh,Tv⟩ ?_)
    refine Yi (Ii j (by omega)) ?_;refine Xi ⟨(j+1,B),by omega,by rw[hB];exact w6⟩ ?_;exact⟨Dl s.length j (by omega),Z3,Z1,Fh,Tv⟩
  ·have h2:¬(j:Int)<((s.map Ag).length:Int):=h2;have h2:¬j<s.length:=by simpa using h2
   refine Yi (by rw[Lm]) ?_;exact .of_eq (Ab (sl Ag) (show A=canon l by rw[hA,AJ (by omega)];exact fin))
theorem oT:qN:=vt
end Go.Eng
