/- Lemmas for the claims of this seat, without a condition: part 24 (R11, O3, R12, R13, O4, O5, O6, O7, O8, O9, O10, R14, R15, R16, R17, R18, R19, R20, R21, R22, R23, O11, O12, O13, O14, O16, O17, S15). -/
import Derived.Test.YtddfphmpfnmknaaGreatDoorDA23
import Derived.Test.YtddfphmpfnmknaaGreatDoorDA03
set_option maxHeartbeats 4000000
namespace Go.Eng
open Go.Proofs
theorem nE(s:ByteArray):PC 103 [vs s] (vb (DQ s)):=by
 refine Ps E4 Tryz.func103 rfl (Nz rfl) ?_;refine Yi (fun h=>?_) (fun h=>?_)
 ·have h:((s.size:Nat):Int)=0:=h;exact .of_eq (Ac vb (show true=DQ s by unfold DQ;rw[Ar (by omega:s.size=0)];rfl))
 have h:¬((s.size:Nat):Int)=0:=h;refine Yi (fun h2=>?_) (fun h2=>?_)
 ·have h2:((s.size:Nat):Int)=32:=h2;exact .of_eq (Ac vb (show true=DQ s by unfold DQ;rw[Ar (by omega:s.size=32),Uv]))
 have h2:¬((s.size:Nat):Int)=32:=h2;exact .of_eq (Ac vb (show false=DQ s by unfold DQ;rw[Ao (by omega:¬s.size=0),Ao (by omega:¬s.size=32)];rfl))
def IV(v:Ver):Nat→Int
 |0=>v.a
 |1=>v.b
 |_=>v.c
abbrev Oi(v:Ver):List (List AV):=[[vi v.a],[vi v.b],[vi v.c]]
theorem PE(v:Ver)(i:Nat)(h:i<3):(Oi v)[((i:Nat):Int).toNat]?=some [vi (IV v i)]:=by
 rw[Bj]
 match i,h with
 |0,_=>rfl
 |1,_=>rfl
 |2,_=>rfl
theorem fy(a b:Ver)(i:Nat)(hi:i<3)(h:∀j,j<i→IV a j=IV b j)(hl:IV a i<IV b i):Im a b=-1:=by
 match i,hi,h,hl with
 |0,_,h,hl =>
  have hl:a.a<b.a:=hl;unfold Im E9;simp[hl]
 |1,_,h,hl =>
  have hl:a.b<b.b:=hl;have h0:a.a=b.a:=h 0 (by omega);unfold Im E9;simp[hl,h0]
 |2,_,h,hl =>
  have hl:a.c<b.c:=hl;have h0:a.a=b.a:=h 0 (by omega);have h1:a.b=b.b:=h 1 (by omega);unfold Im E9;simp[hl,h0,h1]
theorem fu(a b:Ver)(i:Nat)(hi:i<3)(h:∀j,j<i→IV a j=IV b j)(hl:IV b i<IV a i):Im a b=1:=by
 match i,hi,h,hl with
 |0,_,h,hl =>
  have hl:b.a<a.a:=hl;have hn:¬a.a<b.a:=by omega
  unfold Im E9;simp[hl,hn]
 |1,_,h,hl =>
  have hl:b.b<a.b:=hl;have hn:¬a.b<b.b:=by omega
  have h0:a.a=b.a:=h 0 (by omega);unfold Im E9;simp[hl,hn,h0]
 |2,_,h,hl =>
  have hl:b.c<a.c:=hl;have hn:¬a.c<b.c:=by omega
  have h0:a.a=b.a:=h 0 (by omega);have h1:a.b=b.b:=h 1 (by omega);unfold Im E9;simp[hl,hn,h0,h1]
theorem ft(a b:Ver)(h:∀j,j<3→IV a j=IV b j):Im a b=0:=by
 have h0:a.a=b.a:=h 0 (by omega);have h1:a.b=b.b:=h 1 (by omega);have h2:a.c=b.c:=h 2 (by omega);unfold Im E9;simp[h0,h1,h2]
theorem vl(a b:Ver):PC 104 [.agg (Ea a),.agg (Ea b)] (vi (Im a b)):=by
 refine Ps (Hv [3,5]) Tryz.func104 rfl (Nz rfl) ?_;refine Xi ⟨[(5,.slice (.id 14 1) (Oi a)),(6,.slice (.id 21 1) (Oi b))],[(14,.tok 1 3),(21,.tok 1 3)],Aa⟩ (Yi ⟨Z2,Z2,Fh,Tv⟩ ?_)
 refine Xi {i:Nat // i≤3∧∀j,j<i→IV a j=IV b j} (Xi (fun i=>⟨[(5,.slice (.id 14 1) (Oi a)),(6,.slice (.id 21 1) (Oi b)),(7,vi i.1)],[(14,.tok 1 3),(21,.tok 1 3)],Aa⟩) (Xi (fun i=>3-i.1) (Yi (Xi ⟨0,AD _,fun j h=>by omega⟩ ?_) ?_)))
 ·exact⟨Z3,Z2,Fh,Tv⟩
 intro⟨i,i1,i2⟩;refine Yi (fun h=>?_) (fun h=>?_)
 ·have h:(i:Int)<3:=h;have h:i<3:=by omega
  refine Xi [vi (IV a i)] (Yi (Yi (Nn i) (PE a i h)) (Yi rfl ?_));refine Xi [vi (IV b i)] (Yi (Yi (Nn i) (PE b i h)) (Yi rfl ?_));refine Yi (fun h2=>?_) (fun h2=>?_)
  ·have h2:IV a i<IV b i:=h2;refine Yi (by kernel_rfl) ?_;exact .of_eq (Ac vi (fy a b i h i2 h2).symm)
  have h2:¬IV a i<IV b i:=h2;refine Yi (by kernel_rfl) ?_;refine Xi [vi (IV a i)] (Yi (Yi (Nn i) (PE a i h)) (Yi rfl ?_));refine Xi [vi (IV b i)] (Yi (Yi (Nn i) (PE b i h)) (Yi rfl ?_));refine Yi (fun h3=>?_) (fun h3=>?_)
  ·have h3:IV b i<IV a i:=h3;refine Yi (by kernel_rfl) ?_;exact .of_eq (Ac vi (fu a b i h i2 h3).symm)
  have h3:¬IV b i<IV a i:=h3;refine Yi (by kernel_rfl) ?_;refine Xi ⟨[(5,.slice (.id 14 1) (Oi a)),(6,.slice (.id 21 1) (Oi b)),(7,vi i)],[(14,.tok 1 3),(21,.tok 1 3)],Aa⟩ (Yi ⟨Z3,Z2,Fh,Tv⟩ ?_)
  refine Yi (Ii i (by omega)) ?_;refine Xi ⟨i+1,by omega,fun j hj=>?_⟩ ?_
  ·rcases B7 j i with z | z
   ·exact i2 j z
   ·have:j=i:=by omega
    subst this;omega
  exact⟨Dl 3 i (by omega),Z3,Z2,Fh,Tv⟩
 ·have h:¬(i:Int)<3:=h;exact .of_eq (Ac vi (ft a b fun j hj=>i2 j (by omega)).symm)
theorem uU(a b:Rl):PC 71 [.agg (Ag a),.agg (Ag b)] (vi (Dh a b)):=by
 have hc:=vl a.ver b.ver;refine Ps E4 Tryz.func71 rfl (Nz rfl) ?_;refine Yi (fun h=>?_) (fun h=>?_)
 ·have h:Op.bytesLess a.path.toList b.path.toList=true:=h;exact .of_eq (Ac vi (show(-1:Int)=Dh a b by unfold Dh IS;rw[Ap (show Eg a.path b.path=true by rw[EX];exact h)];rfl))
 have h:¬Op.bytesLess a.path.toList b.path.toList=true:=h;refine Yi (fun h2=>?_) (fun h2=>?_)
 ·have h2:Op.bytesLess b.path.toList a.path.toList=true:=h2;exact .of_eq (Ac vi (show(1:Int)=Dh a b by unfold Dh IS;rw[Aj (show ¬Eg a.path b.path=true by rw[EX];exact h),Ap (show Eg b.path a.path=true by rw[EX];exact h2)];rfl))
 have h2:¬Op.bytesLess b.path.toList a.path.toList=true:=h2;refine Yi (Nz rfl) (Yi (Nz rfl) ?_);refine Xi .pure (Xi _ (Yi (hc) ?_));exact .of_eq (Ac vi (show Im a.ver b.ver=Dh a b by unfold Dh IS;rw[Aj (show ¬Eg a.path b.path=true by rw[EX];exact h),Aj (show ¬Eg b.path a.path=true by rw[EX];exact h2)];rfl))
def kk(a b:Sl):Int:=if IS a.path b.path≠0 then IS a.path b.path else Im a.ver b.ver
def kY(l:List Sl)(s:Sl):Int:=Ks (fun y=>decide (s=y)) l 0
theorem YV{a b:Sl}(h:a.path=b.path∧a.ver.a=b.ver.a∧a.ver.b=b.ver.b∧a.ver.c=b.ver.c∧True):a=b:=by
 obtain⟨p,⟨x,y,z⟩⟩:=a;obtain⟨p',⟨x',y',z'⟩⟩:=b;obtain⟨h1,h2,h3,h4,_⟩:=h;cases h1;cases h2;cases h3;cases h4;rfl
theorem mS{a b:Sl}(h:¬(a.path=b.path∧a.ver.a=b.ver.a∧a.ver.b=b.ver.b∧a.ver.c=b.ver.c∧True)):a≠b:=fun e=>h (by subst e;exact⟨rfl,rfl,rfl,rfl,trivial⟩)
theorem aU(l:List Sl)(s:Sl):(0≤kY l s)↔s∈l:=by
 have:=MN (p:=fun y=>decide (s=y)) l 0 (BJ 0)
 unfold kY;have h2:(0≤Ks (fun y=>decide (s=y)) l 0)↔(l.any fun y=>decide (s=y))=true:=by rw[←this,Au]
 rw[h2,Bc];constructor
 ·rintro⟨y,hy,e⟩;simp only[Au]at e;subst e;exact hy
 ·intro h;exact⟨s,h,by simp⟩
def tR:Sl:=⟨mt,⟨0,0,0⟩⟩
theorem o71(l:List Sl)(s:Sl)(hl:Cp l):PC 44 [sl Ad l,.agg (Ad s)] (vi (kY l s)):=by
 refine Ps ⟨[3],[],[],[],[],[],[],[],[],[],[5,6]⟩ Tryz.func44 rfl (Nz rfl) ?_;refine Xi {q:Nat // q≤l.length∧∀j (hj:j<l.length),j<q→s≠l[j]} (Xi (fun q=>⟨[(0,sl Ad l),(3,.ref 3 0),(7,vi (l.map Ad).length),(8,vi q.1)],[(3,.ro (Ad s))],Aa⟩) (Xi (fun q=>l.length-q.1) (Yi (Xi ⟨0,AD _,fun _ _ h=>absurd h (Gx _)⟩ ?_) ?_)))
 ·exact⟨Z4,Z1,Fh,Tv⟩
 intro⟨i,i1,i2⟩;have i1:i≤l.length:=i1;have i2:∀j (hj:j<l.length),j<i→s≠l[j]:=i2;refine Yi (fun h1=>?_) (fun h1=>?_)
 ·have h1:(i:Int)<((l.map Ad).length:Int):=h1;have n1:=JT h1;refine Yi (Nz rfl) ?_;refine Xi (Ad l[i]) (Yi (Ns n1) (Yi rfl ?_));refine Yi (Nz rfl) ?_;refine Yi (fun h2=>?_) (fun h2=>?_)
  ·have h2:(s.path:ByteArray)=l[i].path∧(s.ver.a:Int)=l[i].ver.a∧(s.ver.b:Int)=l[i].ver.b∧(s.ver.c:Int)=l[i].ver.c∧True:=h2;refine Yi (by kernel_rfl) ?_;refine Xi ⟨[(5,vi i)],[],Aa⟩ (Yi ⟨Z1,Tv,Fh,Tv⟩ ?_)
   exact .of_eq (show vi i=vi (kY l s) by unfold kY;rw[NV n1 (fun j hj Je=>Ao (i2 j hj Je)) (Ar (YV h2)),IQ])
  have h2:¬((s.path:ByteArray)=l[i].path∧(s.ver.a:Int)=l[i].ver.a∧(s.ver.b:Int)=l[i].ver.b∧(s.ver.c:Int)=l[i].ver.c∧True):=h2;refine Yi (by kernel_rfl) ?_;refine Xi ⟨[(0,sl Ad l),(3,.ref 3 0),(7,vi (l.map Ad).length),(8,vi i)],[(3,.ro (Ad s))],Aa⟩ (Yi ⟨Z4,Z1,Fh,Tv⟩ ?_)
  refine Yi (Ii i (by omega)) ?_;refine Xi ⟨i+1,n1,fun j hj Je=>if e:j<i then i2 j hj e else by
    have e:j=i:=by omega
    subst e;exact mS h2⟩ ?_
  exact⟨Dl l.length i (by omega),Z4,Z1,Fh,Tv⟩
 have h1:¬((i:Int)<((l.map Ad).length:Int)):=h1;have n1:=JS h1;exact .of_eq (show vi (-1)=vi (kY l s) by unfold kY;rw[Jz (p:=fun y=>decide (s=y)) fun j hj=>Ao (i2 j hj (by have q:=h1;rw[Lm]at q;omega))])
theorem o27(l:List Sl)(s:Sl)(hl:Cp l):PC 18 [sl Ad l,.agg (Ad s)] (vb (decide (s∈l))):=by
 refine Ps ⟨[3],[],[],[],[],[],[],[],[],[],[]⟩ Tryz.func18 rfl (Nz rfl) ?_;refine Yi (Nz rfl) ?_;refine Xi .pure (Xi _ (Yi (o71 l s hl) ?_));refine Yi (fun h1=>?_) (fun h1=>?_)
 ·have h1:(0:Int)≤((kY l s):Int):=h1;exact .of_eq (show vb true=vb (decide (s∈l)) by rw[Ar ((aU l s).1 h1)])
 have h1:¬((0:Int)≤((kY l s):Int)):=h1;exact .of_eq (show vb false=vb (decide (s∈l)) by rw[Ao (fun h=>h1 ((aU l s).2 h))])
theorem uT(r:Rl)(hr:JM r):PC 70 [.agg (Ag r)] (vi (CW r)):=by
 have h1:=kr r.path hr.1;have h2:=vh r.ver;have h3:=c68 kr nW r.reqs hr.2;have h4:=nE r.arch;have h5:=nE r.ifc;have h6:=nE r.cert;obtain⟨N,hN⟩:∃N,N=CW r:=⟨_,rfl⟩;rw[←hN];refine Ps E4 Tryz.func70 rfl (Nz rfl) ?_;refine Xi .pure (Xi _ (Yi (h1) ?_));refine Yi (fun h=>?_) (fun h=>?_)
 ·have h:Qi r.path<0:=h;exact .of_eq (Ac vi (show(4:Int)=N by
   have e:=(Pf r.path).1 h;rw[hN];unfold CW;cases hp:Bu r.path with
   |none=>rfl
   |some m=>rw[hp]at e;cases e))
 have h:¬Qi r.path<0:=h;refine Br (show ∃m,Bu r.path=some m by
  cases hp:Bu r.path with
  |none=>exact absurd ((Pf r.path).2 (by rw[hp];rfl)) h
  |some m=>exact⟨m,rfl⟩) (fun m hp=>?_)
 have em:Qi r.path=m:=by unfold Qi;rw[hp]
 have hN:N=if !Cr r.ver||!decide (r.ver.a=m)then 2 else if Bp r.reqs≠0 then Bp r.reqs else if DQ r.arch&&DQ r.ifc&&DQ r.cert then 0 else 1:=by
  rw[hN];unfold CW;rw[hp]
 refine Yi (Nz rfl) ?_;refine BT (Bt (Cr r.ver)).symm (fun e=>?_) (fun e=>?_)
 ·rw[e]at h2;refine Xi .pure (Xi _ (Yi (h2) ?_));exact .of_eq (Ac vi (show(2:Int)=N by rw[hN,e];rfl))
 rw[e]at h2;refine Xi .pure (Xi _ (Yi (h2) ?_));refine Yi (fun h7=>?_) (fun h7=>?_)
 ·have h7:r.ver.a≠Qi r.path:=h7;exact .of_eq (Ac vi (show(2:Int)=N by rw[hN,e,Ao (by rw[←em];exact h7)];rfl))
 have h7:¬r.ver.a≠Qi r.path:=h7;have hN:N=if Bp r.reqs≠0 then Bp r.reqs else if DQ r.arch&&DQ r.ifc&&DQ r.cert then 0 else 1:=by
  rw[hN,e,Ar (by rw[←em];exact BV.1 h7)];rfl
 refine Xi .pure (Xi _ (Yi (h3) ?_));refine Yi (fun h8=>?_) (fun h8=>?_)
 ·have h8:Bp r.reqs≠0:=h8;exact .of_eq (Ac vi (show Bp r.reqs=N by rw[hN,Ap h8]))
 have h8:¬Bp r.reqs≠0:=h8;have hN:N=if DQ r.arch&&DQ r.ifc&&DQ r.cert then 0 else 1:=by rw[hN,Aj h8]
 refine BT (Bt (DQ r.arch)).symm (fun e1=>?_) (fun e1=>?_)
 ·rw[e1]at h4;refine Xi .pure (Xi _ (Yi (h4) ?_));exact .of_eq (Ac vi (show(1:Int)=N by rw[hN,e1];rfl))
 rw[e1]at h4;refine Xi .pure (Xi _ (Yi (h4) ?_));refine BT (Bt (DQ r.ifc)).symm (fun e2=>?_) (fun e2=>?_)
 ·rw[e2]at h5;refine Xi .pure (Xi _ (Yi (h5) ?_));exact .of_eq (Ac vi (show(1:Int)=N by rw[hN,e1,e2];rfl))
 rw[e2]at h5;refine Xi .pure (Xi _ (Yi (h5) ?_));refine BT (Bt (DQ r.cert)).symm (fun e3=>?_) (fun e3=>?_)
 ·rw[e3]at h6;refine Xi .pure (Xi _ (Yi (h6) ?_));exact .of_eq (Ac vi (show(1:Int)=N by rw[hN,e1,e2,e3];rfl))
 rw[e3]at h6;refine Xi .pure (Xi _ (Yi (h6) ?_));exact .of_eq (Ac vi (show(0:Int)=N by rw[hN,e1,e2,e3];rfl))
theorem XD{a b:Rl}(h:EY a=EY b):Dh a b=0:=by
 obtain⟨h1,h2,h3,h4⟩:=Vv h;unfold Dh IS Im E9;rw[h1,h2,h3,h4,Dd];simp
theorem zd(x:List Rl)(ifs:List (List AV))(hs:∀r∈x,JM r):PC 47 [EV x ifs] (vi (AQ x)):=by
 refine Ps (Hv [4,6,8,10,12]) Tryz.func47 rfl (Nz rfl) ?_;refine Br (show ∃N,N=AQ x from⟨_,rfl⟩) (fun N hN=>?_);refine Yi (fun h=>?_) (fun h=>?_)
 ·have h:(256:Int)<(x.map Ag).length:=h;exact .of_eq (Ac vi (show(7:Int)=AQ x by unfold AQ;rw[Ap (by rw[Lm]at h;omega)]))
 have h:¬(256:Int)<(x.map Ag).length:=h;have hl:x.length≤256:=by rw[Lm]at h;omega
 have Mb:AQ x=CV none x:=by unfold AQ;rw[Aj (by omega)]
 refine Xi ⟨[(3,sl Ag x)],[],Aa⟩ (Yi ⟨Z1,Tv,Fh,Tv⟩ ?_)
 refine Xi {i:Nat // i≤x.length∧CV none x=CV (Wr x i) (x.drop i)} (Xi (fun i=>⟨[(3,sl Ag x),(4,vi i.1)],[],Aa⟩) (Xi (fun i=>x.length-i.1) (Yi (Xi ⟨0,AD _,rfl⟩ ?_) ?_)))
 ·exact⟨Z2,Tv,Fh,Tv⟩
 intro⟨i,h1,h2⟩;refine Yi (fun h=>?_) (fun h=>?_)
 ·skip
  have h:(i:Int)<(x.map Ag).length:=h;have h:i<x.length:=by simpa using h
  have hg:x[i]?=some x[i]:=Ge h;have hd:x.drop i=x[i]::x.drop (i+1):=A7 h;have hc:=uT x[i] (hs x[i] (At h));have HC:CV none x=if CW x[i]≠0 then CW x[i]else match Wr x i with
   |none=>CV (some x[i]) (x.drop (i+1))
   |some b=>if EY b=EY x[i]then 5 else if 0<Dh b x[i]then 1 else CV (some x[i]) (x.drop (i+1)):=by rw[h2,hd];rfl
  have Ya:Wr x (i+1)=some x[i]:=Ge h;refine Xi (Ag x[i]) (Yi (Yi (Nn i) (by simp[hg])) (Yi rfl ?_));refine Yi (Nz rfl) ?_;refine Xi .pure (Xi _ (Yi (hc) ?_));refine Xi ⟨[(3,sl Ag x),(4,vi i),(5,vi (CW x[i]))],[],Aa⟩ (Yi ⟨Z3,Tv,Fh,Tv⟩ ?_)
  refine Yi (fun h3=>?_) (fun h3=>?_)
  ·have h3:CW x[i]≠0:=h3;exact .of_eq (Ac vi (show CW x[i]=AQ x by rw[Mb,HC,Ap h3]))
  have h3:¬CW x[i]≠0:=h3;rw[Aj h3]at HC;refine Xi ⟨[(3,sl Ag x),(4,vi i)],[],Aa⟩ (Yi ⟨Z2,Tv,Fh,Tv⟩ ?_)
  refine Yi (fun h4=>?_) (fun h4=>?_)
  ·have h4:(0:Int)<i:=h4;have hk:i-1<x.length:=by omega
   have RY:x[i-1]?=some x[i-1]:=Ge hk;have hn:((i:Int)-1).toNat=i-1:=by omega
   have hb:Wr x i=some x[i-1]:=by
    cases i with
    |zero=>omega
    |succ k=>exact RY
   rw[hb]at HC;have HC:CV none x=if EY x[i-1]=EY x[i]then 5 else if 0<Dh x[i-1] x[i]then 1 else CV (some x[i]) (x.drop (i+1)):=HC
   have rA:=uU x[i-1] x[i];have RI:(0:Int)≤(i:Int)-1∧(x.map Ag)[((i:Int)-1).toNat]?=some (Ag x[i-1]):=⟨by omega,by rw[hn];exact CC RY⟩;refine Yi (show Bi ((i:Int)-1) by unfold Bi;omega) ?_;refine Xi (Ag x[i-1]) (Yi RI (Yi rfl ?_));refine Yi (Nz rfl) ?_;refine Xi (Ag x[i]) (Yi (Yi (Nn i) (by simp[hg])) (Yi rfl ?_));refine Yi (Nz rfl) ?_;refine Xi _ (Yi (rA) ?_);refine Yi (fun h5=>?_) (fun h5=>?_)
   ·have h5:Dh x[i-1] x[i]=0:=h5;refine Yi (by kernel_rfl) ?_;exact .of_eq (Ac vi (show(5:Int)=AQ x by rw[Mb,HC,Ap (Vc h5)]))
   have h5:¬Dh x[i-1] x[i]=0:=h5;refine Yi (by kernel_rfl) ?_;refine Xi ⟨[(3,sl Ag x),(4,vi i)],[],Aa⟩ (Yi ⟨Z2,Tv,Fh,Tv⟩ ?_)
   refine Yi (fun _=>?_) (fun h9=>absurd h4 h9);refine Yi (show Bi ((i:Int)-1) by unfold Bi;omega) ?_;refine Xi (Ag x[i-1]) (Yi RI (Yi rfl ?_));refine Yi (Nz rfl) ?_;refine Xi (Ag x[i]) (Yi (Yi (Nn i) (by simp[hg])) (Yi rfl ?_));refine Yi (Nz rfl) ?_;refine Xi _ (Yi (rA) ?_);refine Yi (fun h6=>?_) (fun h6=>?_)
   ·have h6:0<Dh x[i-1] x[i]:=h6;refine Yi (by kernel_rfl) ?_;exact .of_eq (Ac vi (show(1:Int)=AQ x by rw[Mb,HC,Aj (fun e=>h5 (XD e)),Ap h6]))
   have h6:¬0<Dh x[i-1] x[i]:=h6;refine Yi (by kernel_rfl) ?_;refine Xi ⟨[(3,sl Ag x),(4,vi i)],[],Aa⟩ (Yi ⟨Z2,Tv,Fh,Tv⟩ ?_)
   refine Yi (Ii i (by omega)) ?_;refine Xi ⟨i+1,by omega,by rw[HC,Aj (fun e=>h5 (XD e)),Aj h6,Ya]⟩ ?_;exact⟨Dl x.length i (by omega),Z2,Tv,Fh,Tv⟩
  have h4:¬(0:Int)<i:=h4;have hb:Wr x i=none:=by
   rw[show i=0 by omega]
  rw[hb]at HC;have HC:CV none x=CV (some x[i]) (x.drop (i+1)):=HC;refine Yi (by kernel_rfl) ?_;refine Xi ⟨[(3,sl Ag x),(4,vi i)],[],Aa⟩ (Yi ⟨Z2,Tv,Fh,Tv⟩ ?_)
  refine Yi (fun h9=>absurd h9 h4) (fun _=>?_);refine Yi (by kernel_rfl) ?_;refine Xi ⟨[(3,sl Ag x),(4,vi i)],[],Aa⟩ (Yi ⟨Z2,Tv,Fh,Tv⟩ ?_)
  refine Yi (Ii i (by omega)) ?_;refine Xi ⟨i+1,by omega,by rw[HC,Ya]⟩ ?_;exact⟨Dl x.length i (by omega),Z2,Tv,Fh,Tv⟩
 ·skip
  have h:¬(i:Int)<(x.map Ag).length:=h;have h:¬i<x.length:=by simpa using h
  have e:(0:Int)=AQ x:=by rw[Mb,h2,Hy (by omega)];rfl
  exact .of_eq (Ac vi e)
abbrev wa:Sl→Sl→Int:=fun a b=>IS a.path b.path
theorem XC{a b:ByteArray}:IS a b<0↔Eg a b=true:=by
 unfold IS
 by_cases h:Eg a b=true
 ·rw[Ap h];simp[h]
 ·rw[Aj h];split<;>simp[h]
theorem NL{a b:ByteArray}:IS a b=0↔a=b:=by
 unfold IS;constructor
 ·intro h;split at h
  ·cases h
  ·rename_i h1;split at h
   ·cases h
   ·rename_i h2;exact HH (by simpa using h1) (by simpa using h2)
 ·rintro rfl
  rw[Aj (by rw[Dd];decide),Aj (by rw[Dd];decide)]
abbrev kept{α:Type}(p:α→Bool)(l:List α):List α:=l.filter fun x=>!p x
abbrev DL(r:Rl):Sl:=⟨r.path,r.ver⟩
theorem uw(ifs:List (List AV))(hl:Cp ifs)(hs:∀c∈ifs,c.length=5):PC 73 [.slice .none ifs] (.slice .none ifs):=by
 refine Ps E4 Tryz.func73 rfl (Nz rfl) ?_;have Gv:CQ 5 ifs∧([]:List (List AV)).length=0∧(([]:List (List AV)).length+ifs.length)*112≤140737488355328∧([]:List (List AV)).length+ifs.length≤9223372036854775807:=by
  refine⟨KB hs,rfl,?_,?_⟩<;>simp only[AJ]<;>unfold Cp at hl<;>omega
 refine Yi ?_ ?_
 ·intro _;exact Yi Gv (.refl _)
 ·intro h;have h:ifs=[]:=h;refine Yi ?_ ?_
  ·show G1 (.v (.slice none 0 0)) (.slice .none ifs);rw[h];exact .nil
  ·exact Yi Gv (.refl _)
end Go.Eng
namespace Go.Eng
structure OC{α β:Type}(c:α→α→Int)(R:α→α→Prop)(key:α→β):Prop where
 lt:∀a b,c a b<0↔R a b
 eq:∀a b,c a b=0↔key a=key b
 tr:∀a b d,R a b→R b d→R a d
 irr:∀a b,key a=key b→¬R a b
 tri:∀a b,¬R a b→key a≠key b→R b a
 cl:∀a b d,key a=key b→R a d→R b d
section
variable {α β:Type}{c:α→α→Int}{R:α→α→Prop}{key:α→β}
theorem cS(h:OC c R key){a:List α}(ha:a.Pairwise R):(a.map key).Nodup:=by
 unfold List.Nodup;rw[List.pairwise_map];exact ha.imp fun q e=>h.irr _ _ e q
end
/-! The three comparisons. -/
def ltS(a b:Sl):Prop:=Eg a.path b.path=true∨(a.path=b.path∧li a.ver b.ver)
abbrev o0(a b:Sl):Prop:=Eg a.path b.path=true
theorem SO{a b:Int}:E9 a b<0↔a<b:=by
 unfold E9;split
 ·rename_i h;simp[h]
 ·rename_i h;split<;>simp[h]
theorem Jt{a b:Int}:E9 a b=0↔a=b:=by
 unfold E9;split
 ·rename_i h;simp;omega
 ·rename_i h;split
  ·rename_i h2;simp;omega
  ·rename_i h2;simp;omega
theorem fB{a b:Ver}:Im a b<0↔li a b:=by
 refine⟨aE,fun h=>?_⟩;unfold Im;rcases h with h | ⟨h1,h | ⟨h2,h⟩⟩
 ·rw[Ap (fun c=>by have:=Jt.1 c;omega)];exact SO.2 h
 ·rw[Aj (fun c=>c (Jt.2 h1)),Ap (fun c=>by have:=Jt.1 c;omega)];exact SO.2 h
 ·rw[Aj (fun c=>c (Jt.2 h1)),Aj (fun c=>c (Jt.2 h2))];exact SO.2 h
theorem SP{a b:Sl}:kk a b<0↔ltS a b:=by
 unfold kk ltS
 by_cases h:a.path=b.path
 ·rw[Aj (fun c=>c (NL.2 h)),fB];exact⟨fun q=>.inr ⟨h,q⟩,fun q=>q.elim (fun q=>by rw[h,Dd]at q;cases q) (·.2)⟩
 ·rw[Ap (fun c=>h (NL.1 c)),XC];exact⟨.inl,fun q=>q.elim id fun q=>absurd q.1 h⟩
theorem ocP:OC wa o0 (fun s:Sl=>s.path) where
 lt _ _:=XC
 eq _ _:=NL
 tr _ _ _:=DX
 irr a b e h:=by rw[o0,e,Dd]at h;cases h
 tri a b h e:=by
  cases q:Eg b.path a.path with
  |true=>exact q
  |false =>
   cases p:Eg a.path b.path with
   |true=>exact absurd p h
   |false=>exact absurd (HH p q) e
 cl a b d e h:=by rw[o0,←e];exact h
/-! Pins. -/
/-! What the reference makes of a list. -/
theorem DA{α:Type}{l:List α}{i:Nat}(h:i<l.length):l.take (i+1)=l.take i++[l[i]]:=Kv h
end Go.Eng
namespace Go.Eng
open Go.Proofs
def aL(p:ByteArray)(r:Rl):Bool:=decide (r.path=p)&&!r.yanked
def ti(r:Rl):Int×Int:=(plc r.ver,plc r.ver+1)
theorem bU{x:List Rl}{p:ByteArray}(h:AQ x=0):B8 x p=canon ((x.filter (aL p)).map ti):=by
 unfold B8 Kn;rw[Aj (not_not_intro h),List.filter_filter]
 congr 3
 funext r
 unfold aL;rw[Bool.and_comm]
theorem MZ{α:Type}(o:Option α):(∃x,o=some x)∨o=none:=by
 cases o with
 |none=>exact .inr rfl
 |some x=>exact .inl ⟨x,rfl⟩
instance:DecidableEq Rq:=fun x y=>decidable_of_iff (x.path=y.path∧x.set=y.set) ⟨fun⟨h1,h2⟩=>by cases x;cases y;simp_all,fun h=>by subst h;exact Zr⟩
instance:DecidableEq Rl:=fun x y=>decidable_of_iff (x.path=y.path∧x.ver=y.ver∧x.reqs=y.reqs∧x.arch=y.arch∧x.ifc=y.ifc∧x.cert=y.cert∧x.yanked=y.yanked) ⟨fun⟨h1,h2,h3,h4,h5,h6,h7⟩=>by cases x;cases y;simp_all,fun h=>by subst h;exact⟨rfl,rfl,rfl,rfl,rfl,rfl,rfl⟩⟩
theorem tc{a b:Rq}(h1:a.path=b.path)(h2:a.set=b.set):a=b:=by cases a;cases b;simp_all
theorem mR{a b:Rl}(h1:a.path=b.path)(h2:a.ver=b.ver)(h3:a.arch=b.arch)(h4:a.ifc=b.ifc)(h5:a.cert=b.cert)(h6:a.yanked=b.yanked)(h7:a.reqs=b.reqs):a=b:=by cases a;cases b;simp_all
theorem jy{a b:Ver}(h:a.a=b.a∧a.b=b.b∧a.c=b.c∧True):a=b:=by cases a;cases b;simp_all
theorem pz{a b:Ver}(h:¬(a.a=b.a∧a.b=b.b∧a.c=b.c∧True)):a≠b:=fun e=>h (by subst e;exact⟨rfl,rfl,rfl,trivial⟩)
theorem Se{α:Type}{a b:List α}(hl:a.length=b.length)(h:∀j (hj:j<a.length),a[j]=b[j]'(hl▸hj)):a=b:=List.ext_getElem hl fun j h1 _=>h j h1
theorem Xw{α:Type}{a b:List α}{i:Nat}{ha:i<a.length}{hb:i<b.length}(h:a[i]≠b[i]):a≠b:=fun e=>by subst e;exact h rfl
theorem ux(a b:List Rq)(ha:Cp a)(hs:∀q∈a,Cp q.set):PC 57 [sl AF a,sl AF b] (vb (decide (a=b))):=by
 have rl:a.length≤1073741824:=ha;refine Ps ⟨[],[],[],[],[],[],[],[],[],[],[5,7]⟩ Tryz.func57 rfl (Nz rfl) ?_;refine Yi (fun h1=>?_) (fun h1=>?_)
 ·have h1:((a.map AF).length:Int)≠((b.map AF).length:Int):=h1;exact .of_eq (show vb false=vb (decide (a=b)) by rw[Ao (fun e=>absurd (Ac (fun z=>((z.map AF).length:Int)) e) h1)])
 have h1:((a.map AF).length:Int)=((b.map AF).length:Int):=AN h1;have hl:a.length=b.length:=by have q:=h1;rw[Lm,Lm]at q;omega
 refine Xi {q:Nat // q≤a.length∧∀j (hj:j<a.length),j<q→a[j]=b[j]'(hl▸hj)} (Xi (fun q=>⟨[(0,sl AF a),(1,sl AF b),(5,vi q.1)],[],Aa⟩) (Xi (fun q=>a.length-q.1) (Yi (Xi ⟨0,AD _,fun _ _ h=>absurd h (Gx _)⟩ ?_) ?_)))
 ·exact⟨Z3,Tv,Fh,Tv⟩
 intro⟨i,i1,i2⟩;have i1:i≤a.length:=i1;have i2:∀j (hj:j<a.length),j<i→a[j]=b[j]'(hl▸hj):=i2;refine Yi (fun h3=>?_) (fun h3=>?_)
 ·have h3:(i:Int)<((a.map AF).length:Int):=h3;have n3:=JT h3;have cD:i<b.length:=by have q:=h3;rw[Lm]at q;omega
  refine Xi (AF a[i]) (Yi (Ns n3) (Yi rfl ?_));refine Xi (AF b[i]) (Yi (Ns cD) (Yi rfl ?_));refine Yi (fun h5=>?_) (fun h5=>?_)
  ·have h5:(a[i].path:ByteArray)≠b[i].path:=h5;refine Yi (by kernel_rfl) ?_;refine Xi ⟨[],[],Aa⟩ (Yi ⟨Tv,Tv,Fh,Tv⟩ ?_)
   exact .of_eq (show vb false=vb (decide (a=b)) by rw[Ao (Xw (i:=i) (ha:=n3) (hb:=cD) (fun e=>h5 (Ac Rq.path e)))])
  have h5:(a[i].path:ByteArray)=b[i].path:=AN h5;refine Xi (AF a[i]) (Yi (Ns n3) (Yi rfl ?_));refine Xi (AF b[i]) (Yi (Ns cD) (Yi rfl ?_));refine BT (Bt (decide (a[i].set=b[i].set))) (fun h7=>?_) (fun h7=>?_)
  ·have h7:(decide (a[i].set=b[i].set))=true:=h7;refine Xi _ (Yi (cb h7 (vY a[i].set b[i].set (hs _ (At n3)))) ?_);refine Yi (by kernel_rfl) ?_;refine Xi ⟨[(0,sl AF a),(1,sl AF b),(5,vi i)],[],Aa⟩ (Yi ⟨Z3,Tv,Fh,Tv⟩ ?_)
   refine Yi (Ii i (by omega)) ?_;refine Xi ⟨i+1,n3,fun j hj Je=>if e:j<i then i2 j hj e else by
     have e:j=i:=by omega
     subst e;exact tc h5 (A5 h7)⟩ ?_
   exact⟨Dl a.length i (by omega),Z3,Tv,Fh,Tv⟩
  have h7:(decide (a[i].set=b[i].set))=false:=h7;refine Xi _ (Yi (cb h7 (vY a[i].set b[i].set (hs _ (At n3)))) ?_);refine Yi (by kernel_rfl) ?_;refine Xi ⟨[],[],Aa⟩ (Yi ⟨Tv,Tv,Fh,Tv⟩ ?_)
  exact .of_eq (show vb false=vb (decide (a=b)) by rw[Ao (Xw (i:=i) (ha:=n3) (hb:=cD) (fun e=>Gb h7 (Ac Rq.set e)))])
 have h3:¬((i:Int)<((a.map AF).length:Int)):=h3;have n3:=JS h3;exact .of_eq (show vb true=vb (decide (a=b)) by rw[Ar (Se hl fun j hj=>i2 j hj (by have q:=h3;rw[Lm]at q;omega))])
theorem o23(r s:Rl)(hr:Cp r.reqs)(hs:∀q∈r.reqs,Cp q.set):PC 36 [.agg (Ag r),.agg (Ag s)] (vb (decide (r=s))):=by
 refine Ps ⟨[2,3],[],[],[],[],[],[],[],[],[],[]⟩ Tryz.func36 rfl (Nz rfl) ?_;refine Yi (fun h1=>?_) (fun h1=>?_)
 ·have h1:(r.path:ByteArray)=s.path:=h1;refine Yi (Nz rfl) ?_;refine Yi (Nz rfl) ?_;refine Yi (fun h2=>?_) (fun h2=>?_)
  ·have h2:(r.ver.a:Int)=s.ver.a∧(r.ver.b:Int)=s.ver.b∧(r.ver.c:Int)=s.ver.c∧True:=h2;refine Yi (fun h3=>?_) (fun h3=>?_)
   ·have h3:(r.arch:ByteArray)=s.arch:=h3;refine Yi (fun h4=>?_) (fun h4=>?_)
    ·have h4:(r.ifc:ByteArray)=s.ifc:=h4;refine Yi (fun h5=>?_) (fun h5=>?_)
     ·have h5:(r.cert:ByteArray)=s.cert:=h5;refine Yi (fun h6=>?_) (fun h6=>?_)
      ·have h6:r.yanked=true:=h6;refine Yi (fun h7=>?_) (fun h7=>?_)
       ·have h7:s.yanked=true:=h7;refine BT (Bt (decide (r.reqs=s.reqs))) (fun h8=>?_) (fun h8=>?_)
        ·have h8:(decide (r.reqs=s.reqs))=true:=h8;refine Xi .pure (Xi _ (Yi (cb h8 (ux r.reqs s.reqs hr hs)) ?_));exact .of_eq (show vb true=vb (decide (r=s)) by rw[Ar (mR h1 (jy h2) h3 h4 h5 (by rw[h6,h7]) (A5 h8))])
        have h8:(decide (r.reqs=s.reqs))=false:=h8;refine Xi .pure (Xi _ (Yi (cb h8 (ux r.reqs s.reqs hr hs)) ?_));exact .of_eq (show vb false=vb (decide (r=s)) by rw[Ao (fun e=>Gb h8 (Ac Rl.reqs e))])
       have h7:s.yanked=false:=h7;exact .of_eq (show vb false=vb (decide (r=s)) by rw[Ao (fun e=>by have q:=Ac Rl.yanked e;rw[h6,h7]at q;cases q)])
      have h6:r.yanked=false:=h6;refine Yi (fun Xj=>?_) (fun Xj=>?_)
      ·have Xj:s.yanked=true:=Xj;exact .of_eq (show vb false=vb (decide (r=s)) by rw[Ao (fun e=>by have q:=Ac Rl.yanked e;rw[h6,Xj]at q;cases q)])
      have Xj:s.yanked=false:=Xj;refine BT (Bt (decide (r.reqs=s.reqs))) (fun d4=>?_) (fun d4=>?_)
      ·have d4:(decide (r.reqs=s.reqs))=true:=d4;refine Xi .pure (Xi _ (Yi (cb d4 (ux r.reqs s.reqs hr hs)) ?_));exact .of_eq (show vb true=vb (decide (r=s)) by rw[Ar (mR h1 (jy h2) h3 h4 h5 (by rw[h6,Xj]) (A5 d4))])
      have d4:(decide (r.reqs=s.reqs))=false:=d4;refine Xi .pure (Xi _ (Yi (cb d4 (ux r.reqs s.reqs hr hs)) ?_));exact .of_eq (show vb false=vb (decide (r=s)) by rw[Ao (fun e=>Gb d4 (Ac Rl.reqs e))])
     have h5:¬(r.cert:ByteArray)=s.cert:=h5;exact .of_eq (show vb false=vb (decide (r=s)) by rw[Ao (fun e=>h5 (Ac Rl.cert e))])
    have h4:¬(r.ifc:ByteArray)=s.ifc:=h4;exact .of_eq (show vb false=vb (decide (r=s)) by rw[Ao (fun e=>h4 (Ac Rl.ifc e))])
   have h3:¬(r.arch:ByteArray)=s.arch:=h3;exact .of_eq (show vb false=vb (decide (r=s)) by rw[Ao (fun e=>h3 (Ac Rl.arch e))])
  have h2:¬((r.ver.a:Int)=s.ver.a∧(r.ver.b:Int)=s.ver.b∧(r.ver.c:Int)=s.ver.c∧True):=h2;exact .of_eq (show vb false=vb (decide (r=s)) by rw[Ao (fun e=>pz h2 (Ac Rl.ver e))])
 have h1:¬(r.path:ByteArray)=s.path:=h1;exact .of_eq (show vb false=vb (decide (r=s)) by rw[Ao (fun e=>h1 (Ac Rl.path e))])
theorem o15(a b:List Rl)(ha:Cp a)(hr:∀r∈a,Cp r.reqs∧∀q∈r.reqs,Cp q.set):PC 13 [sl Ag a,sl Ag b] (vb (decide (a=b))):=by
 have rl:a.length≤1073741824:=ha;refine Ps ⟨[],[],[],[],[],[],[],[],[],[],[5,7]⟩ Tryz.func13 rfl (Nz rfl) ?_;refine Yi (fun h1=>?_) (fun h1=>?_)
 ·have h1:((a.map Ag).length:Int)≠((b.map Ag).length:Int):=h1;exact .of_eq (show vb false=vb (decide (a=b)) by rw[Ao (fun e=>absurd (Ac (fun z=>((z.map Ag).length:Int)) e) h1)])
 have h1:((a.map Ag).length:Int)=((b.map Ag).length:Int):=AN h1;have hl:a.length=b.length:=by have q:=h1;rw[Lm,Lm]at q;omega
 refine Xi {q:Nat // q≤a.length∧∀j (hj:j<a.length),j<q→a[j]=b[j]'(hl▸hj)} (Xi (fun q=>⟨[(0,sl Ag a),(1,sl Ag b),(5,vi q.1)],[],Aa⟩) (Xi (fun q=>a.length-q.1) (Yi (Xi ⟨0,AD _,fun _ _ h=>absurd h (Gx _)⟩ ?_) ?_)))
 ·exact⟨Z3,Tv,Fh,Tv⟩
 intro⟨i,i1,i2⟩;have i1:i≤a.length:=i1;have i2:∀j (hj:j<a.length),j<i→a[j]=b[j]'(hl▸hj):=i2;refine Yi (fun h3=>?_) (fun h3=>?_)
 ·have h3:(i:Int)<((a.map Ag).length:Int):=h3;have n3:=JT h3;have cD:i<b.length:=by have q:=h3;rw[Lm]at q;omega
  refine Xi (Ag a[i]) (Yi (Ns n3) (Yi rfl ?_));refine Yi (Nz rfl) ?_;refine Xi (Ag b[i]) (Yi (Ns cD) (Yi rfl ?_));refine Yi (Nz rfl) ?_;refine BT (Bt (decide (a[i]=b[i]))) (fun h4=>?_) (fun h4=>?_)
  ·have h4:(decide (a[i]=b[i]))=true:=h4;refine Xi _ (Yi (cb h4 (o23 a[i] b[i] (hr _ (At n3)).1 (hr _ (At n3)).2)) ?_);refine Yi (by kernel_rfl) ?_;refine Xi ⟨[(0,sl Ag a),(1,sl Ag b),(5,vi i)],[],Aa⟩ (Yi ⟨Z3,Tv,Fh,Tv⟩ ?_)
   refine Yi (Ii i (by omega)) ?_;refine Xi ⟨i+1,n3,fun j hj Je=>if e:j<i then i2 j hj e else by
     have e:j=i:=by omega
     subst e;exact A5 h4⟩ ?_
   exact⟨Dl a.length i (by omega),Z3,Tv,Fh,Tv⟩
  have h4:(decide (a[i]=b[i]))=false:=h4;refine Xi _ (Yi (cb h4 (o23 a[i] b[i] (hr _ (At n3)).1 (hr _ (At n3)).2)) ?_);refine Yi (by kernel_rfl) ?_;refine Xi ⟨[],[],Aa⟩ (Yi ⟨Tv,Tv,Fh,Tv⟩ ?_)
  exact .of_eq (show vb false=vb (decide (a=b)) by rw[Ao (Xw (i:=i) (ha:=n3) (hb:=cD) (Gb h4))])
 have h3:¬((i:Int)<((a.map Ag).length:Int)):=h3;have n3:=JS h3;exact .of_eq (show vb true=vb (decide (a=b)) by rw[Ar (Se hl fun j hj=>i2 j hj (by have q:=h3;rw[Lm]at q;omega))])
structure Mv where
 path:ByteArray
 a:Int
 b:Int
abbrev D2(m:Mv):List AV:=[vs m.path,vi m.a,vi m.b]
abbrev plP(s:Sl):Value×AV:=(.string s.path,vi (place s.ver))
abbrev JF(l:List Sl):List (Value×AV):=l.map plP
def KV(l:List Sl)(p:ByteArray):Int:=match B4 l p with | some s=>place s.ver | none=>-1
def Kl(l m:List Sl)(p:ByteArray):Option Mv:=if KV l p≠KV m p then some ⟨p,KV l p,KV m p⟩else none
abbrev HU(l m:List Sl)(ps:List ByteArray):List Mv:=ps.filterMap (Kl l m)
structure LV(l:List Sl):Prop where
 few:Cp l
 val:∀s∈l,Cr s.ver=true
 inc:l.Pairwise o0
theorem LV.step{l:List Sl}(h:LV l){i:Nat}(hi:i<l.length)(h0:0<i):Eg (l[i-1]'(by omega)).path l[i].path=true:=(AZ.1 h.inc) (i-1) i (by omega) hi (by omega)
theorem iR{l:List Sl}(h:LV l){i:Nat}(hi:i<l.length):∀b,(Value.string l[i].path,b)∉JF (l.take i):=fun b hb=>by
 obtain⟨s,hs,e⟩:=Am.1 hb;obtain⟨j,hj,rfl⟩:=Dm.1 hs;rw[GA]at e;rw[AC]at hj;have q:=(AZ.1 h.inc) j i (by omega) hi (by omega);have e2:l[j].path=l[i].path:=by injection e with e1;injection e1
 rw[o0,e2,Dd]at q;cases q
theorem pd{l:List Sl}(h:LV l){p:ByteArray}{a:AV}(ha:(Value.string p,a)∈JF l):a=vi (KV l p):=by
 obtain⟨s,hs,e⟩:=Am.1 ha;have e1:s.path=p:=by injection e with e1;injection e1
 have e2:vi (place s.ver)=a:=by injection e
 rw[←e2];unfold KV;rw[←e1,NN (cS ocP h.inc) hs]
theorem pe{l:List Sl}{p:ByteArray}(h:∀a,(Value.string p,a)∉JF l):KV l p=-1:=by
 unfold KV;rw[show B4 l p=none from DC.2 fun s hs e=>h _ (Am.2 ⟨s,hs,by rw[←A5 e]⟩)]
theorem bh{l m:List Sl}{ps:List ByteArray}{k:Nat}(h:k<ps.length):HU l m (ps.take (k+1))=HU l m (ps.take k)++(Kl l m ps[k]).toList:=by
 unfold HU;rw[DA h,List.filterMap_append]
 congr 1
theorem sK(l:List Sl)(hl:LV l):A6 Tryz.prog 75 [sl Ad l] (Ak [] Aa) fun r h'=>r=.tup [.mref 2000,vb true]∧h'=Ak [(2000,.map CZ (JF l))] Aa:=by
 have hfl:l.length≤1073741824:=hl.few;refine BW (Lg ⟨[],[],[],[],[],[],[],[],[],[],[6,7,8]⟩) [(9,2000)] rfl Cw hm rfl Tryz.func75 (by kernel_rfl) rfl (Nz rfl) (by kernel_rfl) rfl ?_;refine Xi {q:Nat // q≤l.length} (Xi (fun q=>⟨[(0,sl Ad l),(4,.mref 9),(10,sl Ad l),(11,vi (l.map Ad).length),(12,vi q.1)],[(9,.map CZ (JF (l.take q.1)))],Aa⟩) (Xi (fun q=>l.length-q.1) (Yi (Xi ⟨0,AD _⟩ ?_) ?_)))
 ·exact⟨Z5,Z1,Fh,AB (by kernel_rfl)⟩
 intro⟨i,i1⟩;have i1:i≤l.length:=i1;refine Yi (fun h1=>?_) (fun h1=>?_)
 ·have h1:(i:Int)<((l.map Ad).length:Int):=h1;have n1:=JT h1;refine Xi (Ad l[i]) (Yi (Ns n1) (Yi rfl ?_));refine Yi (Nz rfl) ?_;refine Yi (Nz rfl) ?_;refine Yi (Nz rfl) ?_;refine Xi .pure (Xi _ (Yi (by have q:=qM l[i].ver;rw[Ap (hl.val _ (At n1)),Ap (hl.val _ (At n1))]at q;exact q) ?_));refine Xi ⟨[(0,sl Ad l),(4,.mref 9),(5,vi i),(6,.ref 6 0),(7,vi (place l[i].ver)),(8,vi 0),(10,sl Ad l),(11,vi (l.map Ad).length),(12,vi i)],[(6,.cells (Ad l[i])),(9,.map CZ (JF (l.take i)))],Aa⟩ (Yi ⟨Z9,Z2,Fh,AB (by kernel_rfl)⟩ ?_)
  refine Yi (fun h=>absurd h (by decide)) (fun _=>?_);refine Yi (fun h2=>?_) (fun h2=>?_)
  ·have h2:(0:Int)<(i:Int):=h2;refine Yi (by show Bi ((i:Int)-(1:Int));unfold Bi;omega) ?_;have wU:0<i:=by omega
   refine Xi (Ad (l[i-1])) (Yi (Yi (show(0:Int)≤(i:Int)-1 by omega) (by rw[show((i:Int)-1).toNat=i-1 by omega];exact CC (Ge (by omega)))) (Yi rfl ?_));refine Yi (fun h3=>?_) (fun h3=>?_)
   ·have h3:Eg (l[i-1]).path l[i].path=false:=(EX _ _).trans h3;exact absurd (hl.step n1 wU) (by rw[h3];decide)
   have h3:Eg (l[i-1]).path l[i].path=true:=(EX _ _).trans (by simpa using h3);refine Yi (by kernel_rfl) ?_;refine Xi ⟨[(0,sl Ad l),(4,.mref 9),(6,.ref 6 0),(7,vi (place l[i].ver)),(10,sl Ad l),(11,vi (l.map Ad).length),(12,vi i)],[(6,.cells (Ad l[i])),(9,.map CZ (JF (l.take i)))],Aa⟩ (Yi ⟨Z7,Z2,Fh,AB (by kernel_rfl)⟩ ?_)
   refine Yi (Ii i (by omega)) ?_;refine Xi ⟨i+1,n1⟩ ?_;exact⟨Dl l.length i (by omega),Z5,⟨⟨(show HO.map CZ (E7 (JF (l.take i)) (.string l[i].path) (vi (place l[i].ver)))=.map CZ (JF (l.take (i+1))) by rw[KM (iR hl n1),DA n1];unfold JF;rw[Ay];rfl),rfl⟩,Tv⟩,Fh,AB (by kernel_rfl)⟩
  have h2:¬((0:Int)<(i:Int)):=h2;refine Yi (by kernel_rfl) ?_;refine Xi ⟨[(0,sl Ad l),(4,.mref 9),(6,.ref 6 0),(7,vi (place l[i].ver)),(10,sl Ad l),(11,vi (l.map Ad).length),(12,vi i)],[(6,.cells (Ad l[i])),(9,.map CZ (JF (l.take i)))],Aa⟩ (Yi ⟨Z7,Z2,Fh,AB (by kernel_rfl)⟩ ?_)
  refine Yi (Ii i (by omega)) ?_;refine Xi ⟨i+1,n1⟩ ?_;exact⟨Dl l.length i (by omega),Z5,⟨⟨(show HO.map CZ (E7 (JF (l.take i)) (.string l[i].path) (vi (place l[i].ver)))=.map CZ (JF (l.take (i+1))) by rw[KM (iR hl n1),DA n1];unfold JF;rw[Ay];rfl),rfl⟩,Tv⟩,Fh,AB (by kernel_rfl)⟩
 have h1:¬((i:Int)<((l.map Ad).length:Int)):=h1;have n1:=JS h1;have ei:l.take i=l:=Aw (by have q:=h1;rw[Lm]at q;omega);exact Xi _ (Yi (.refl _) ⟨rfl,show Ak [(2000,HO.map CZ (JF (l.take i)))] Aa=Ak [(2000,.map CZ (JF l))] Aa by rw[ei]⟩)
theorem sL(l:List Sl)(p:ByteArray)(hl:LV l):PC 77 [.cmap CZ (JF l),vs p] (vi (KV l p)):=by
 refine Ps ⟨[],[],[],[],[],[],[],[],[],[],[4]⟩ Tryz.func77 rfl (Nz rfl) ?_;refine Yi (fun a ha=>?_) (fun RL=>?_)
 ·have ea:=pd hl ha;subst ea;exact .refl _
 refine Xi ⟨[],[],Aa⟩ (Yi ⟨Tv,Tv,Fh,Tv⟩ ?_)
 exact .of_eq (show vi (-1)=vi (KV l p) by rw[pe RL])
theorem o75(l m:List Sl)(t:List ByteArray)(hl:LV l)(zO:LV m)(hfs:l.length+m.length≤1073741824)(DF:l++m≠[])(hp:t.Perm ((l++m).map (·.path)))(ht:(t.map QX).Pairwise fun a b=>a≤b):PC 54 [sl Ad l,sl Ad m] (.tup [sl D2 (HU l m (B1 t)),vi 0]):=by
 obtain⟨LM,n9⟩:∃LM,LM=l++m:=⟨_,rfl⟩;have hm:=zO;rw[←n9]at hp;have zq:LM.length=l.length+m.length:=by rw[n9,Ae]
 have uh:l.length≤1073741824:=hl.few;have mD:m.length≤1073741824:=zO.few;refine Gi (dY ⟨[],[(14,3)],[(10,1)],[(34,[12000,12500])],[],[],[],[],[],[],[3,6,7,8,9,11,13,14,15,16,17,18,19,21]⟩) rfl Cw Go.Eng.hm rfl Tryz.func54 (by kernel_rfl) rfl (Nz rfl) (by kernel_rfl) ?_;refine Xi (.gen [] 1) (Yi rfl (A6.to2 (sK l hl) ?_));refine Xi (.gen [] 1) (Yi rfl (A6.to2 (sK m hm) ?_));refine Xi ⟨[(0,sl Ad l),(1,sl Ad m),(6,.mref 12000),(7,vb true),(8,.mref 12500),(9,vb true)],[(12000,.map CZ (JF l)),(12500,.map CZ (JF m))],Aa⟩ (Yi ⟨Z6,Z2,Fh,Tv⟩ ?_)
 refine Xi ⟨[(0,sl Ad l),(1,sl Ad m),(6,.mref 12000),(8,.mref 12500),(10,.msl 10 0)],[(10,.arr 1 []),(12000,.map CZ (JF l)),(12500,.map CZ (JF m))],Aa⟩ (Yi ⟨Z5,Z3,Fh,Tv⟩ ?_)
 refine Xi (.gen [] 1) (Yi rfl (A6.to2 (qL l hl.few) ?_));have b4:CQ 4 (m.map Ad)∧(l.map Ad).length=(l.map Ad).length∧((l.map Ad).length+(m.map Ad).length)*40≤140737488355328∧(l.map Ad).length+(m.map Ad).length≤9223372036854775807:=⟨(Fz (enc:=Ad) (n:=4) (fun _=>rfl) m),rfl,(by simp only[Lm];omega),(by simp only[Lm];omega)⟩;refine Yi b4 ?_;refine Xi {q:Nat×List ByteArray // q.1≤LM.length∧q.2=(LM.take q.1).map (·.path)} (Xi (fun q=>⟨[(6,.mref 12000),(8,.mref 12500),(10,.msl 10 q.1.2.length),(37,.slice (.id 13500 4) (LM.map Ad)),(38,vi (LM.length:Nat)),(39,vi q.1.1)],[(10,.arr 1 (q.1.2.map Dr)),(12000,.rom CZ (JF l)),(12500,.rom CZ (JF m)),(13500,.tok 4 LM.length)],Aa⟩) (Xi (fun q=>LM.length-q.1.1) (Yi (Xi ⟨(0,[]),AD _,rfl⟩ ?_) ?_)))
 ·exact⟨⟨Zr,Zr,Zr,⟨(show AV.slice (.id 13500 4) (l.map Ad++m.map Ad)=.slice (.id 13500 4) (LM.map Ad) by rw[n9,Ay]),rfl⟩,⟨(show vi ((l.map Ad++m.map Ad:List (List AV)).length:Int)=vi ((LM.length:Nat):Int) by rw[n9,Ae,Ae,Lm,Lm]),rfl⟩,Zr,Tv⟩,⟨Zr,Zr,Zr,⟨(show HO.tok 4 ((l.map Ad).length+(m.map Ad).length)=.tok 4 LM.length by rw[n9,Ae,Lm,Lm]),rfl⟩,Tv⟩,Fh,Tv⟩
 intro⟨⟨i,P⟩,i1,i2⟩;have i1:i≤LM.length:=i1;have i2:P=(LM.take i).map (·.path):=i2;have i3:P.length≤i:=by rw[i2,Lm,AC];omega
 refine Xi ⟨[(6,.mref 12000),(8,.mref 12500),(10,.msl 10 P.length),(37,.slice (.id 13500 4) (LM.map Ad)),(38,vi (LM.length:Nat)),(39,vi i)],[(10,.arr 1 (P.map Dr)),(12000,.rom CZ (JF l)),(12500,.rom CZ (JF m)),(13500,.tok 4 LM.length)],Aa⟩ (Yi ⟨Z6,Z4,Fh,Tv⟩ ?_)
 refine Yi (fun h5=>?_) (fun h5=>?_)
 ·have h5:(i:Int)<((LM.length:Nat):Int):=h5;have n5:i<LM.length:=by omega
  refine Xi ⟨[(6,.mref 12000),(8,.mref 12500),(10,.msl 10 P.length),(37,.slice (.id 13500 4) (LM.map Ad)),(38,vi (LM.length:Nat)),(39,vi i)],[(10,.arr 1 (P.map Dr)),(12000,.rom CZ (JF l)),(12500,.rom CZ (JF m)),(13500,.tok 4 LM.length)],Aa⟩ (Yi ⟨Z6,Z4,Fh,Tv⟩ ?_)
  refine Xi (Ad LM[i]) (Yi (Ns n5) (Yi rfl ?_));refine Yi (Nz rfl) ?_;refine Yi (Nz rfl) ?_;refine Xi ⟨[(6,.mref 12000),(8,.mref 12500),(10,.msl 10 P.length),(12,.ref 12 0),(37,.slice (.id 13500 4) (LM.map Ad)),(38,vi (LM.length:Nat)),(39,vi i)],[(10,.arr 1 (P.map Dr)),(12,.cells (Ad LM[i])),(12000,.rom CZ (JF l)),(12500,.rom CZ (JF m)),(13500,.tok 4 LM.length)],Aa⟩ (Yi ⟨Z7,Z5,Fh,Tv⟩ ?_)
  have b6:CQ 1 [[vs LM[i].path]]∧(P.map Dr).length=P.length∧((P.map Dr).length+([[vs LM[i].path]]:List (List AV)).length)*16≤140737488355328∧(P.map Dr).length+([[vs LM[i].path]]:List (List AV)).length≤9223372036854775807:=⟨⟨rfl,trivial⟩,(by rw[Lm]),(by simp only[Lm,Az,AJ];omega),(by simp only[Lm,Az,AJ];omega)⟩;refine Yi b6 ?_;refine Yi (Ii i (by omega)) ?_;refine Xi ⟨(i+1,P++[LM[i].path]),n5,by show P++[LM[i].path]=_;rw[DA n5,Ay,i2];rfl⟩ ?_;exact⟨Dl LM.length i (by omega),⟨Zr,Zr,⟨(show AV.msl 10 ((P.map Dr).length+([[vs LM[i].path]]:List (List AV)).length)=.msl 10 (P++[LM[i].path]).length by rw[Ae,Lm];rfl),rfl⟩,Zr,Zr,Zr,Tv⟩,⟨⟨(show HO.arr 1 (P.map Dr++[[vs LM[i].path]])=.arr 1 ((P++[LM[i].path]).map Dr) by rw[Ay];rfl),rfl⟩,Zr,Zr,Zr,Tv⟩,Fh,Tv⟩
 have h5:¬((i:Int)<((LM.length:Nat):Int)):=h5;have ua:P=LM.map (·.path):=by rw[i2,Aw (by have q:=h5;omega)]
 have zr:Cp P:=by unfold Cp;rw[ua,Lm,n9,Ae];exact hfs
 have zt:P≠[]:=fun e=>by rw[ua]at e;exact DF (by rw[←n9];exact Ed.1 e)
 have ww:t.length=P.length:=by rw[ua];exact hp.length_eq
 have oM:t.length≤1073741824:=by rw[ww];exact zr
 have xr:t≠[]:=fun e=>zt (AL (by rw[←ww,e];rfl));have hcl:(B1 t).length≤t.length:=by unfold B1;rw[Lm];exact Bx (QZ _) (by rw[Lm];exact Al _)
 refine Xi ⟨[(6,.mref 12000),(8,.mref 12500),(10,.msl 10 P.length)],[(10,.arr 1 (P.map Dr)),(12000,.rom CZ (JF l)),(12500,.rom CZ (JF m))],Aa⟩ (Yi ⟨Z3,Z3,Fh,Tv⟩ ?_)
 refine Xi (.gen [(10,1000)] 0) (Yi rfl (A6.to2 (xG P t zr zt (by rw[ua];exact hp) ht) ?_));refine Xi ⟨[(6,.mref 12000),(8,.mref 12500),(10,.msl 10 P.length),(13,.v (.func (.func 77) #[] #[]))],[(10,.arr 1 (t.map Dr)),(12000,.rom CZ (JF l)),(12500,.rom CZ (JF m))],Aa⟩ (Yi ⟨Z4,Z3,Fh,Tv⟩ ?_)
 refine Xi ⟨[(6,.mref 12000),(8,.mref 12500),(10,.msl 10 t.length),(13,.v (.func (.func 77) #[] #[])),(14,.slice (.id 14 3) [])],[(10,.arr 1 (t.map Dr)),(14,.tok 3 0),(12000,.rom CZ (JF l)),(12500,.rom CZ (JF m))],Aa⟩ (Yi ⟨⟨Zr,Zr,⟨(Ac (AV.msl 10) ww.symm),rfl⟩,Zr,Zr,Tv⟩,Z4,Fh,Tv⟩ ?_)
 refine Xi (.gen [(10,1000)] 1) (Yi rfl (A6.to2 (xH t (by unfold Cp;omega) xr) ?_));refine Xi {q:Nat×List Mv // q.1≤(B1 t).length∧q.2=HU l m ((B1 t).take q.1)} (Xi (fun q=>⟨[(6,.mref 12000),(8,.mref 12500),(13,.v (.func (.func 77) #[] #[])),(14,.slice (.id 14 3) (q.1.2.map D2)),(52,.msl 15200 (B1 t).length),(53,vi (B1 t).length),(54,vi q.1.1)],[(14,.tok 3 q.1.2.length),(12000,.rom CZ (JF l)),(12500,.rom CZ (JF m)),(15200,.arr 1 ((B1 t).map Dr))],Aa⟩) (Xi (fun q=>(B1 t).length-q.1.1) (Yi (Xi ⟨(0,[]),AD _,rfl⟩ ?_) ?_)))
 ·exact⟨Z7,Z4,Fh,Tv⟩
 intro⟨⟨k,O⟩,k1,k2⟩;have k1:k≤(B1 t).length:=k1;have k2:O=HU l m ((B1 t).take k):=k2;have k3:O.length≤k:=by rw[k2];exact Bx (List.length_filterMap_le ..) (by rw[AC];omega)
 refine Xi ⟨[(6,.mref 12000),(8,.mref 12500),(13,.v (.func (.func 77) #[] #[])),(14,.slice (.id 14 3) (O.map D2)),(52,.msl 15200 (B1 t).length),(53,vi (B1 t).length),(54,vi k)],[(14,.tok 3 O.length),(12000,.rom CZ (JF l)),(12500,.rom CZ (JF m)),(15200,.arr 1 ((B1 t).map Dr))],Aa⟩ (Yi ⟨Z7,Z4,Fh,Tv⟩ ?_)
 refine Yi (fun NR=>?_) (fun NR=>?_)
 ·have NR:(k:Int)<((B1 t).length:Int):=NR;have nb:k<(B1 t).length:=by omega
  have n10:=nb;have gb:(B1 t)[k]?=some (B1 t)[k]:=Ge nb;refine Xi ⟨[(6,.mref 12000),(8,.mref 12500),(13,.v (.func (.func 77) #[] #[])),(14,.slice (.id 14 3) (O.map D2)),(52,.msl 15200 (B1 t).length),(53,vi (B1 t).length),(54,vi k)],[(14,.tok 3 O.length),(12000,.rom CZ (JF l)),(12500,.rom CZ (JF m)),(15200,.arr 1 ((B1 t).map Dr))],Aa⟩ (Yi ⟨Z7,Z4,Fh,Tv⟩ ?_)
  refine Yi (by show(0:Int)≤k∧(k:Int)<((B1 t).length:Nat);omega) ?_;refine Yi (show(B1 t).length=((B1 t).map Dr).length by rw[Lm]) (Xi (Dr ((B1 t)[k])) (Yi (CC gb) ?_));refine Xi ⟨[(6,.mref 12000),(8,.mref 12500),(13,.v (.func (.func 77) #[] #[])),(14,.slice (.id 14 3) (O.map D2)),(16,vs ((B1 t)[k])),(52,.msl 15200 (B1 t).length),(53,vi (B1 t).length),(54,vi k)],[(14,.tok 3 O.length),(12000,.rom CZ (JF l)),(12500,.rom CZ (JF m)),(15200,.arr 1 ((B1 t).map Dr))],Aa⟩ (Yi ⟨Z8,Z4,Fh,Tv⟩ ?_)
  refine Xi .pure (Xi _ (Yi (sL l (B1 t)[k] hl) ?_));refine Xi .pure (Xi _ (Yi (sL m (B1 t)[k] hm) ?_));refine Yi (Nz rfl) ?_;refine Xi ⟨[(6,.mref 12000),(8,.mref 12500),(13,.v (.func (.func 77) #[] #[])),(14,.slice (.id 14 3) (O.map D2)),(17,.ref 17 0),(52,.msl 15200 (B1 t).length),(53,vi (B1 t).length),(54,vi k)],[(14,.tok 3 O.length),(17,.cells [vs ((B1 t)[k]),vi (KV l (B1 t)[k]),vi (KV m (B1 t)[k])]),(12000,.rom CZ (JF l)),(12500,.rom CZ (JF m)),(15200,.arr 1 ((B1 t).map Dr))],Aa⟩ (Yi ⟨Z8,Z5,Fh,Tv⟩ ?_)
  refine Yi (fun M8=>?_) (fun M8=>?_)
  ·have M8:((KV l (B1 t)[k]):Int)≠((KV m (B1 t)[k]):Int):=M8;refine Xi ⟨[(6,.mref 12000),(8,.mref 12500),(13,.v (.func (.func 77) #[] #[])),(14,.slice (.id 14 3) (O.map D2)),(17,.ref 17 0),(52,.msl 15200 (B1 t).length),(53,vi (B1 t).length),(54,vi k)],[(14,.tok 3 O.length),(17,.cells [vs ((B1 t)[k]),vi (KV l (B1 t)[k]),vi (KV m (B1 t)[k])]),(12000,.rom CZ (JF l)),(12500,.rom CZ (JF m)),(15200,.arr 1 ((B1 t).map Dr))],Aa⟩ (Yi ⟨Z8,Z5,Fh,Tv⟩ ?_)
   refine Yi (Nz rfl) ?_;refine Yi (Zi rfl (by omega) (by decide)) ?_;refine Yi (Ii k (by omega)) ?_;have eO:=bh (l:=l) (m:=m) n10;have eM:Kl l m (B1 t)[k]=some ⟨(B1 t)[k],(KV l (B1 t)[k]),(KV m (B1 t)[k])⟩:=Ap M8;rw[eM]at eO;refine Xi ⟨(k+1,(O++[(⟨(B1 t)[k],(KV l (B1 t)[k]),(KV m (B1 t)[k])⟩:Mv)])),n10,by show(O++[(⟨(B1 t)[k],(KV l (B1 t)[k]),(KV m (B1 t)[k])⟩:Mv)])=_;rw[eO,k2];rfl⟩ ?_;exact⟨by show(B1 t).length-(k+1)<(B1 t).length-k;omega,⟨Zr,Zr,Zr,⟨(show AV.slice (.id 14 3) (O.map D2++[[vs (B1 t)[k],vi (KV l (B1 t)[k]),vi (KV m (B1 t)[k])]])=.slice (.id 14 3) ((O++[(⟨(B1 t)[k],(KV l (B1 t)[k]),(KV m (B1 t)[k])⟩:Mv)]).map D2) by rw[Ay];rfl),rfl⟩,Zr,Zr,Zr,Tv⟩,⟨⟨hkA,rfl⟩,Zr,Zr,Zr,Tv⟩,Fh,Tv⟩
  have M8:((KV l (B1 t)[k]):Int)=((KV m (B1 t)[k]):Int):=AN M8;refine Yi (Ii k (by omega)) ?_;have eO:=bh (l:=l) (m:=m) n10;have eM:Kl l m (B1 t)[k]=none:=Aj (fun c=>c M8);rw[eM]at eO;rw[show(none:Option Mv).toList=[]from rfl,BN]at eO;refine Xi ⟨(k+1,O),n10,by show O=_;rw[eO,k2]⟩ ?_;exact⟨by show(B1 t).length-(k+1)<(B1 t).length-k;omega,Z7,Z4,Fh,Tv⟩
 have NR:¬((k:Int)<((B1 t).length:Int)):=NR;refine Xi ⟨[(14,.slice (.id 14 3) (O.map D2))],[(14,.tok 3 O.length)],Aa⟩ (Yi ⟨Z1,Z1,Fh,Tv⟩ ?_)
 have ek:(B1 t).take k=B1 t:=Aw (by omega);have eO:O=HU l m (B1 t):=by rw[k2,ek]
 exact .of_eq (Ac (fun z=>AV.tup [sl D2 z,vi 0]) eO)
end Go.Eng
namespace Go.Proofs
open Go.Shelf Go.RowKit Go.Lib Go.Sort
abbrev OneC:Type:={v:Value // v.oneCell'=true}
def SlA:Type:=ByteArray×OneC×OneC×OneC
instance:Inhabited SlA:=⟨⟨ByteArray.empty,⟨.bool false,rfl⟩,⟨.bool false,rfl⟩,⟨.bool false,rfl⟩⟩⟩
def encSlA(x:SlA):List Value:=[.string x.1,x.2.1.1,x.2.2.1.1,x.2.2.2.1]
def cfSlA(x y:SlA):Int:=Lib.compareBytes x.1.data.toList y.1.data.toList
abbrev CmpSlA(k:Nat):Prop:=∀(x y:SlA) (W:World),Calls Tryz.prog k #[.agg #[.string x.1,x.2.1.1,x.2.2.1.1,x.2.2.2.1],.agg #[.string y.1,y.2.1.1,y.2.2.1.1,y.2.2.2.1]] W fun e w'=>e=.returned (.int .i64 (cfSlA x y))∧∃q os',w'=grow (W.drewN q) os'
theorem Tryz.closure68:CmpSlA 68:=fun x y W=>by
 have hcon:=fun W'=>Any.strings_Compare Tryz.layCompare x.1 y.1 W';obtain⟨a,⟨b,hb⟩,⟨c,hc⟩,⟨d,hd⟩⟩:=x;obtain⟨a',⟨b',od⟩,⟨c',pT⟩,⟨d',kL⟩⟩:=y;dsimp only at hcon
 change ∀W',Calls Tryz.prog 69 _ _ _ at hcon
 unfold cfSlA;dsimp only;generalize Lib.compareBytes a.data.toList a'.data.toList=r at hcon⊢
 go_enter Tryz.func68,Tryz.ntmps68
 go_wp2_with (go_at_call 69;refine(hcon _).mono ?_;rintro e w' ⟨rfl,rfl⟩)
 go_ret
 exact⟨rfl,0,_,by rw[alloc_eq_grow,alloc_eq_grow,grow_grow];rfl⟩
end Go.Proofs
namespace Go.Eng
open Go.Proofs Go.Shelf Go.RowKit Go.Lib Go.Sort
theorem aY(x y:SlA):ltOf cfSlA x y=Eg x.1 y.1:=TN _ _
theorem jm:SWO (ltOf cfSlA) where
 irrefl x:=by rw[aY];exact Dd _
 trans x y z h1 h2:=by rw[aY]at *;exact DX h1 h2
 ntrans x y z h1 h2:=by
  rw[aY]at *
  rw[AK];intro h;cases qe:Eg y.1 x.1 with
  |true=>have:=DX qe h;rw[h2]at this;cases this
  |false =>
   have e:=HH h1 qe;rw[e]at h;rw[h2]at h;cases h
theorem s92(k:Nat)(hc:CmpSlA k)(eg:∀args w,(callFunc k args).run Tryz.prog w=.ok (.enter k args) w)(l:List Sl)(hl:Cp l)(lim:Nat)(X7:lim<100) :
  A6 Tryz.prog 97 [.msl 1000 l.length,vi 0,vi l.length,vi lim,.v (UC k)] (Ak [(1000,.arr 4 (l.map Ad))] Aa) fun r h' =>
   r=.tup []∧∃l' : List Sl,l'.Perm l∧l'.Pairwise (fun x y=>Eg y.path x.path=false)∧h'=Ak [(1000,.arr 4 (l'.map Ad))] Aa:=by
 have hl:l.length≤1073741824:=hl;have hE:Gk Tryz.prog 97:=dZ 97 Tryz.func97 (by kernel_rfl) rfl;have Hq:=Jr (P:=Tryz.prog) (f:=97) (α:=SlA) (rest:=[.int .i64 0,.int .i64 l.length,.int .i64 lim,UC k]) hE Ad encSlA (k:=4) (fun _=>rfl) (fun _=>rfl) (ltOf cfSlA) (fun x a=>a.1=x.path) l (by omega) ?_ ?_ ?_
 ·refine⟨hE,fun g w vals q1 q2 q3=>(Hq.2 g w vals q1 q2 q3).mono fun _ _ ⟨v,r,h',g',e1,⟨e2,l',p1,⟨al,a1,a2,a3⟩,p2⟩,rest⟩=>⟨v,r,h',g',e1,⟨e2,l',p1,?_,p2⟩,rest⟩⟩;rw[AZ]at a3⊢;intro i j hi hj PK
  have:=a3 i j (by omega) (by omega) PK
  rw[aY]at this;have e1:=a2 i _ _ (Ge hi) (Ge (by omega));have e2:=a2 j _ _ (Ge hj) (Ge (by omega));rw[←e1,←e2];exact this
 ·intro x hx g w vs hr
  match vs,hr with
  | [a,b,c,d],hr =>
   have h1:=(hr.2.2 0 (Go.Eng.vs x.path) a rfl rfl).v_eq;subst h1;exact⟨⟨x.path,⟨b,hr.2.1 b (by simp)⟩,⟨c,hr.2.1 c (by simp)⟩,⟨d,hr.2.1 d (by simp)⟩⟩,rfl,rfl⟩
  | [],hr=>have:=hr.1;simp at this
  | [_],hr=>have:=hr.1;simp at this
  | [_,_],hr=>have:=hr.1;simp at this
  | [_,_,_],hr=>have:=hr.1;simp at this
  |_::_::_::_::_::_,hr=>have:=hr.1;simp at this
 ·intro w b cap d hH hb Eh hdl;have gy:CmpLays Tryz.prog k #[] encSlA 4 cfSlA b 0 d.size w:=fun _ _ _ _ x y=>hc x y _;have hp:=AnyQ.pdqsortCmpFunc_all Tryz.layPdqSel 4 Tryz.isAgg29 Tryz.sizeOf29 encSlA cfSlA k #[] jm b 0 cap d w eg gy ⟨fun _=>rfl,fun x v hv=>by
    simp only[encSlA,AA,LK,or_false]at hv;rcases hv with rfl | rfl | rfl | rfl
    ·rfl
    ·exact x.2.1.2
    ·exact x.2.2.1.2
    ·exact x.2.2.2.2,hH,hb⟩ (d.size+1) 0 d.size lim d w (by omega) rfl (SWK.start hH) (AD _) (Al _) Eh (by omega) (Or.inl rfl)
  rw[hdl]at hp⊢;refine hp.mono ?_
  rintro e w' ⟨rfl,n,os,rfl⟩
  have h:=pdq_sorts (ltOf cfSlA) jm d 0 d.size lim true true (AD _) (Al _) (Or.inl rfl);rw[hdl]at h;exact⟨rfl,_,n,os,h.1,h.2,rfl⟩
 ·intro e w;subst e;exact AnyF.pdqsortCmpFunc_none Tryz.layPdqSel none 0 lim (UC k) w
theorem UO{l l' : List Sl}(h1:Wf l)(h2:Wf l')(hm:∀y,y∈l↔y∈l'):l=l':=by
 induction l generalizing l' with
 |nil =>
  cases l' with
  |nil=>rfl
  |cons y l'=>have:=(hm y).2 (Ab ..);cases this
 |cons x l ih =>
  cases l' with
  |nil=>have:=(hm x).1 (Ab ..);cases this
  |cons y l' =>
   obtain⟨a1,a2⟩:=BG.1 h1;obtain⟨b1,b2⟩:=BG.1 h2;have e:x=y:=by
    rcases AA.1 ((hm x).1 (Ab ..))with e | e
    ·exact e
    ·rcases AA.1 ((hm y).2 (Ab ..))with e2 | e2
     ·exact e2.symm
     ·have c1:=b1 x e;have c2:=a1 y e2
      have:=DX c1 c2
      rw[Dd]at this;cases this
   subst e
   congr 1
   refine ih a2 b2 fun z=>⟨fun hz=>?_,fun hz=>?_⟩
   ·rcases AA.1 ((hm z).1 (Ai _ hz))with e | e
    ·subst e
     have:=a1 z hz
     rw[Dd]at this;cases this
    ·exact e
   ·rcases AA.1 ((hm z).2 (Ai _ hz))with e | e
    ·subst e
     have:=b1 z hz
     rw[Dd]at this;cases this
    ·exact e
theorem jj{l l' : List Sl}(hn:(l.map (·.path)).Nodup)(hp:l'.Perm l)(hs:l'.Pairwise fun x y=>Eg y.path x.path=false):l'=Gf l:=by
 refine UO ?_ (QE hn) fun y=>by rw[hp.mem_iff,Iu]
 have X9 : (l'.map (·.path)).Nodup:=(hp.map (·.path)).nodup_iff.2 hn;show l'.Pairwise _;rw[AZ]at hs⊢;intro i j hi hj PK;cases hb:Eg l'[i].path l'[j].path with
 |true=>rfl
 |false =>
  have e:=HH hb (hs i j hi hj PK)
  have:=(AZ.1 X9) i j (by simpa using hi) (by simpa using hj) PK
  simp at this;exact absurd e this
theorem s47(k:Nat)(hc:CmpSlA k)(eg:∀args w,(callFunc k args).run Tryz.prog w=.ok (.enter k args) w)(l:List Sl)(hl:Cp l)(hn:(l.map (·.path)).Nodup) :
  A6 Tryz.prog 67 [.msl 1000 l.length,.v (UC k)] (Ak [(1000,.arr 4 (l.map Ad))] Aa) fun r h' =>
   r=.tup []∧h'=Ak [(1000,.arr 4 ((Gf l).map Ad))] Aa:=by
 obtain⟨lim,X7,hb⟩:=nw l.length hl;refine BW (Lg E4) [(1000,1000)] rfl Cw hm rfl Tryz.func67 (by kernel_rfl) rfl (Nz rfl) (by kernel_rfl) rfl ?_;refine Xi .pure (Xi _ (Yi (hb) ?_));refine Xi (.gen [(1000,1000)] 0) (Yi rfl ((s92 k hc eg l hl lim X7).imp ?_));intro r h' hq;refine Br hq.2 (fun l' Qc=>?_);have e:=jj hn Qc.1 Qc.2.1;refine Xi (.tup []) (Yi ?_ (Yi rfl ?_))
 ·exact .refl _
 ·rw[Qc.2.2,e];rfl
end Go.Eng
