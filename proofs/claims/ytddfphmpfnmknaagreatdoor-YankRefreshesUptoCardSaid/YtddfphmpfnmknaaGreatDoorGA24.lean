/- Lemmas for the claims of this seat, without a condition: part 24 (R11, O3, R12, R13, O4, O5, O6, O7, O8, O9, O10, R14, R15, R16, R17, R18, R19, R20, R21, R22, R23, O11, O12, O13, O14, O16, O17, S15, S1). -/
import Derived.Test.YtddfphmpfnmknaaGreatDoorGA23
import Derived.Test.YtddfphmpfnmknaaGreatDoorGA03
set_option maxHeartbeats 4000000
namespace Go.Eng
open Go.Proofs
variable (a:Ver)(l:List Sl)(v:Ver)(r:Rl)(b:Ver)(s:Sl)(i:Nat)
theorem rk(s:ByteArray):PC 103 [vs s] (vb (D1 s)):=by
 refine Ps D3 Tryz.func103 rfl (Nz rfl) (Yi (fun h=>?_) (fun h=>?_))
 ·have h:((s.size:Nat):Int)=0:=h;exact .of_eq (Ab vb (show true=D1 s by unfold D1;rw[Aq (by omega:s.size=0)];rfl))
 have h:¬((s.size:Nat):Int)=0:=h;refine Yi (fun h2=>?_) (fun h2=>?_)
 ·have h2:((s.size:Nat):Int)=32:=h2;exact .of_eq (Ab vb (show true=D1 s by unfold D1;rw[Aq (by omega:s.size=32),VJ]))
 have h2:¬((s.size:Nat):Int)=32:=h2;exact .of_eq (Ab vb (show false=D1 s by unfold D1;rw[Ap (by omega:¬s.size=0),Ap (by omega:¬s.size=32)];rfl))
def JC:Nat→Int
 |0=>v.a
 |1=>v.b
 |_=>v.c
abbrev dk:List (List AV):=[[vi v.a],[vi v.b],[vi v.c]]
theorem QN(h:i<3):(dk v)[((i:Nat):Int).toNat]?=some [vi (JC v i)]:=by
 rw[A7]
 match i,h with
 |0,_=>rfl
 |1,_=>rfl
 |2,_=>rfl
theorem jL(hi:i<3)(h:∀j,j<i→JC a j=JC b j)(hl:JC a i<JC b i):IU a b=-1:=by
 match i,hi,h,hl with
 |0,_,h,hl =>
  have hl:a.a<b.a:=hl;unfold IU Fs;simp[hl]
 |1,_,h,hl =>
  have hl:a.b<b.b:=hl;have h0:a.a=b.a:=h 0 ch;unfold IU Fs;simp[hl,h0]
 |2,_,h,hl =>
  have hl:a.c<b.c:=hl;have h0:a.a=b.a:=h 0 ch;have h1:a.b=b.b:=h 1 ch;unfold IU Fs;simp[hl,h0,h1]
theorem jK(hi:i<3)(h:∀j,j<i→JC a j=JC b j)(hl:JC b i<JC a i):IU a b=1:=by
 match i,hi,h,hl with
 |0,_,h,hl =>
  have hl:b.a<a.a:=hl;have hn:¬a.a<b.a:=by omega
  unfold IU Fs;simp[hl,hn]
 |1,_,h,hl =>
  have hl:b.b<a.b:=hl;have hn:¬a.b<b.b:=by omega
  have h0:a.a=b.a:=h 0 ch;unfold IU Fs;simp[hl,hn,h0]
 |2,_,h,hl =>
  have hl:b.c<a.c:=hl;have hn:¬a.c<b.c:=by omega
  have h0:a.a=b.a:=h 0 ch;have h1:a.b=b.b:=h 1 ch;unfold IU Fs;simp[hl,hn,h0,h1]
theorem jJ(h:∀j,j<3→JC a j=JC b j):IU a b=0:=by
 have h0:a.a=b.a:=h 0 ch;have h1:a.b=b.b:=h 1 ch;have h2:a.c=b.c:=h 2 ch;unfold IU Fs;simp[h0,h1,h2]
theorem zh:PC 104 [.agg (Fu a),.agg (Fu b)] (vi (IU a b)):=by
 refine Ps (H1 []) Tryz.func104 rfl (Nz rfl) (Xi {i:Nat // i≤3∧∀j,j<i→JC a j=JC b j} (Xi (fun i=>⟨[(5,.slice (.id 14 1) (dk a)),(6,.slice (.id 21 1) (dk b)),(7,vi i.1)],[(14,.tok 1 3),(21,.tok 1 3)],Af⟩) (Xi (fun i=>3-i.1) (Yi (Xi ⟨0,AA _,fun j h=>by omega⟩ ?_) ?_))))
 ·exact⟨Z3,Z2,Fh,Tv⟩
 intro⟨i,i1,i2⟩;refine Yi (fun h=>?_) (fun h=>?_)
 ·have h:(i:Int)<3:=h;have h:i<3:=by omega
  refine Xi [vi (JC a i)] (Yi (Yi (Nn i) (QN a i h)) (Yi rfl (Xi [vi (JC b i)] (Yi (Yi (Nn i) (QN b i h)) (Yi rfl (Yi (fun h2=>?_) (fun h2=>?_)))))))
  ·have h2:JC a i<JC b i:=h2;refine Yi Wk ?_;exact .of_eq (Ab vi (jL a b i h i2 h2).symm)
  have h2:¬JC a i<JC b i:=h2;refine Yi Wk (Xi [vi (JC a i)] (Yi (Yi (Nn i) (QN a i h)) (Yi rfl (Xi [vi (JC b i)] (Yi (Yi (Nn i) (QN b i h)) (Yi rfl (Yi (fun h3=>?_) (fun h3=>?_))))))))
  ·have h3:JC b i<JC a i:=h3;refine Yi Wk ?_;exact .of_eq (Ab vi (jK a b i h i2 h3).symm)
  have h3:¬JC b i<JC a i:=h3;refine Yi Wk (Yi (Ii i ch) (Xi ⟨i+1,by omega,fun j hj=>?_⟩ ?_))
  ·rcases BY j i with z | z
   ·exact i2 j z
   ·have:j=i:=by omega
    subst this;omega
  exact⟨Dl 3 i ch,Z3,Z2,Fh,Tv⟩
 ·have h:¬(i:Int)<3:=h;exact .of_eq (Ab vi (jJ a b fun j hj=>i2 j ch).symm)
theorem yX(a b:Rl):PC 71 [.agg (At a),.agg (At b)] (vi (Dv a b)):=by
 have hc:=zh a.ver b.ver;refine Ps D3 Tryz.func71 rfl (Nz rfl) (Yi (fun h=>?_) (fun h=>?_))
 ·have h:Op.bytesLess a.path.toList b.path.toList=true:=h;exact .of_eq (Ab vi (show(-1:Int)=Dv a b by unfold Dv Jy;rw[Al (show DL a.path b.path=true by rw[Ed];exact h)];rfl))
 have h:¬Op.bytesLess a.path.toList b.path.toList=true:=h;refine Yi (fun h2=>?_) (fun h2=>?_)
 ·have h2:Op.bytesLess b.path.toList a.path.toList=true:=h2;exact .of_eq (Ab vi (show(1:Int)=Dv a b by unfold Dv Jy;rw[Ae (show ¬DL a.path b.path=true by rw[Ed];exact h),Al (show DL b.path a.path=true by rw[Ed];exact h2)];rfl))
 have h2:¬Op.bytesLess b.path.toList a.path.toList=true:=h2;refine Yi (Nz rfl) (yN (Xi .pure (Xi _ (Yi (hc) ?_))));exact .of_eq (Ab vi (show IU a.ver b.ver=Dv a b by unfold Dv Jy;rw[Ae (show ¬DL a.path b.path=true by rw[Ed];exact h),Ae (show ¬DL b.path a.path=true by rw[Ed];exact h2)];rfl))
def fR(a b:Sl):Int:=if Jy a.path b.path≠0 then Jy a.path b.path else IU a.ver b.ver
def oN:Int:=Lc (fun y=>decide (s=y)) l 0
theorem bf{a b:Sl}(h:a.path=b.path∧a.ver.a=b.ver.a∧a.ver.b=b.ver.b∧a.ver.c=b.ver.c∧True):a=b:=by
 obtain⟨p,⟨x,y,z⟩⟩:=a;obtain⟨p',⟨x',y',z'⟩⟩:=b;obtain⟨h1,h2,h3,h4,_⟩:=h;cases h1;cases h2;cases h3;cases h4;rfl
theorem qJ{a b:Sl}(h:¬(a.path=b.path∧a.ver.a=b.ver.a∧a.ver.b=b.ver.b∧a.ver.c=b.ver.c∧True)):a≠b:=fun e=>h (by subst e;exact⟨rfl,rfl,rfl,rfl,trivial⟩)
theorem dV:(0≤oN l s)↔s∈l:=by
 have:=NF (p:=fun y=>decide (s=y)) l 0 (BK 0)
 unfold oN;have h2:(0≤Lc (fun y=>decide (s=y)) l 0)↔(l.any fun y=>decide (s=y))=true:=by rw[←this,Az]
 rw[h2,A5];constructor
 ·rintro⟨y,hy,e⟩;simp only[Az]at e;subst e;exact hy
 ·intro h;exact⟨s,h,by simp⟩
def xL:Sl:=⟨mt,⟨0,0,0⟩⟩
theorem o71(hl:Cy l):PC 44 [sl Ac l,.agg (Ac s)] (vi (oN l s)):=by
 refine Ps (pC [3] []) Tryz.func44 rfl (Nz rfl) (Xi {q:Nat // q≤l.length∧∀j (hj:j<l.length),j<q→s≠l[j]} (Xi (fun q=>⟨[(0,sl Ac l),(3,.ref 3 0),(7,vi (l.map Ac).length),(8,vi q.1)],[(3,.ro (Ac s))],Af⟩) (Xi (fun q=>l.length-q.1) (Yi (Xi ⟨0,AA _,fun _ _ h=>absurd h (F2 _)⟩ ?_) ?_))))
 ·exact⟨Z4,Z1,Fh,Tv⟩
 intro⟨i,i1,i2⟩;have i1:i≤l.length:=i1;have i2:∀j (hj:j<l.length),j<i→s≠l[j]:=i2;refine Yi (fun h1=>?_) (fun h1=>?_)
 ·have h1:(i:Int)<((l.map Ac).length:Int):=h1;have n1:=GI h1;refine yN (Xi (Ac l[i]) (Yi (Hb n1) (Yi rfl (yN (Yi (fun h2=>?_) (fun h2=>?_))))))
  ·have h2:(s.path:ByteArray)=l[i].path∧(s.ver.a:Int)=l[i].ver.a∧(s.ver.b:Int)=l[i].ver.b∧(s.ver.c:Int)=l[i].ver.c∧True:=h2;refine Yi Wk ?_;exact .of_eq (show vi i=vi (oN l s) by unfold oN;rw[OQ n1 (fun j hj Iq=>Ap (i2 j hj Iq)) (Aq (bf h2)),Jv])
  have h2:¬((s.path:ByteArray)=l[i].path∧(s.ver.a:Int)=l[i].ver.a∧(s.ver.b:Int)=l[i].ver.b∧(s.ver.c:Int)=l[i].ver.c∧True):=h2;refine Yi Wk (Yi (Ii i ch) ?_);refine Xi ⟨i+1,n1,fun j hj Iq=>if e:j<i then i2 j hj e else by
    have e:j=i:=by omega
    subst e;exact qJ h2⟩ ?_
  exact⟨Dl l.length i ch,Z4,Z1,Fh,Tv⟩
 have h1:¬((i:Int)<((l.map Ac).length:Int)):=h1;have n1:=GH h1;exact .of_eq (show vi (-1)=vi (oN l s) by unfold oN;rw[Kh (p:=fun y=>decide (s=y)) fun j hj=>Ap (i2 j hj (by have q:=h1;rw[Lm]at q;omega))])
theorem o27(hl:Cy l):PC 18 [sl Ac l,.agg (Ac s)] (vb (decide (s∈l))):=by
 refine Ps (pC [3] []) Tryz.func18 rfl (Nz rfl) (yN (Xi .pure (Xi _ (Yi (o71 l s hl) (Yi (fun h1=>?_) (fun h1=>?_))))))
 ·have h1:(0:Int)≤((oN l s):Int):=h1;exact .of_eq (show vb true=vb (decide (s∈l)) by rw[Aq ((dV l s).1 h1)])
 have h1:¬((0:Int)≤((oN l s):Int)):=h1;exact .of_eq (show vb false=vb (decide (s∈l)) by rw[Ap (fun h=>h1 ((dV l s).2 h))])
theorem yW(hr:Gv r):PC 70 [.agg (At r)] (vi (CW r)):=by
 have h1:=ko r.path hr.1;have h2:=uB r.ver;have h3:=c68 ko n6 r.reqs hr.2;have h4:=rk r.arch;have h5:=rk r.ifc;have h6:=rk r.cert;obtain⟨N,hN⟩:∃N,N=CW r:=⟨_,rfl⟩;rw[←hN];refine Ps D3 Tryz.func70 rfl (Nz rfl) (Xi .pure (Xi _ (Yi (h1) (Yi (fun h=>?_) (fun h=>?_)))))
 ·have h:RA r.path<0:=h;exact .of_eq (Ab vi (show(4:Int)=N by
   have e:=(Qn r.path).1 h;rw[hN];unfold CW;cases hp:Bu r.path with
   |none=>rfl
   |some m=>rw[hp]at e;cases e))
 have h:¬RA r.path<0:=h;refine Ba (show ∃m,Bu r.path=some m by
  cases hp:Bu r.path with
  |none=>exact absurd ((Qn r.path).2 (by rw[hp];rfl)) h
  |some m=>exact⟨m,rfl⟩) (fun m hp=>?_)
 have em:RA r.path=m:=by unfold RA;rw[hp]
 have hN:N=if !Cj r.ver||!decide (r.ver.a=m)then 2 else if Bn r.reqs≠0 then Bn r.reqs else if D1 r.arch&&D1 r.ifc&&D1 r.cert then 0 else 1:=by
  rw[hN];unfold CW;rw[hp]
 refine yN (BF (Bt (Cj r.ver)).symm (fun e=>?_) (fun e=>?_))
 ·rw[e]at h2;refine Xi .pure (Xi _ (Yi (h2) ?_));exact .of_eq (Ab vi (show(2:Int)=N by rw[hN,e];rfl))
 rw[e]at h2;refine Xi .pure (Xi _ (Yi (h2) (Yi (fun h7=>?_) (fun h7=>?_))))
 ·have h7:r.ver.a≠RA r.path:=h7;exact .of_eq (Ab vi (show(2:Int)=N by rw[hN,e,Ap (by rw[←em];exact h7)];rfl))
 have h7:¬r.ver.a≠RA r.path:=h7;have hN:N=if Bn r.reqs≠0 then Bn r.reqs else if D1 r.arch&&D1 r.ifc&&D1 r.cert then 0 else 1:=by
  rw[hN,e,Aq (by rw[←em];exact BB.1 h7)];rfl
 refine Xi .pure (Xi _ (Yi (h3) (Yi (fun h8=>?_) (fun h8=>?_))))
 ·have h8:Bn r.reqs≠0:=h8;exact .of_eq (Ab vi (show Bn r.reqs=N by rw[hN,Al h8]))
 have h8:¬Bn r.reqs≠0:=h8;have hN:N=if D1 r.arch&&D1 r.ifc&&D1 r.cert then 0 else 1:=by rw[hN,Ae h8]
 refine BF (Bt (D1 r.arch)).symm (fun e1=>?_) (fun e1=>?_)
 ·rw[e1]at h4;refine Xi .pure (Xi _ (Yi (h4) ?_));exact .of_eq (Ab vi (show(1:Int)=N by rw[hN,e1];rfl))
 rw[e1]at h4;refine Xi .pure (Xi _ (Yi (h4) (BF (Bt (D1 r.ifc)).symm (fun e2=>?_) (fun e2=>?_))))
 ·rw[e2]at h5;refine Xi .pure (Xi _ (Yi (h5) ?_));exact .of_eq (Ab vi (show(1:Int)=N by rw[hN,e1,e2];rfl))
 rw[e2]at h5;refine Xi .pure (Xi _ (Yi (h5) (BF (Bt (D1 r.cert)).symm (fun e3=>?_) (fun e3=>?_))))
 ·rw[e3]at h6;refine Xi .pure (Xi _ (Yi (h6) ?_));exact .of_eq (Ab vi (show(1:Int)=N by rw[hN,e1,e2,e3];rfl))
 rw[e3]at h6;refine Xi .pure (Xi _ (Yi (h6) ?_));exact .of_eq (Ab vi (show(0:Int)=N by rw[hN,e1,e2,e3];rfl))
theorem Zb{a b:Rl}(h:Fa a=Fa b):Dv a b=0:=by
 obtain⟨h1,h2,h3,h4⟩:=W0 h;unfold Dv Jy IU Fs;rw[h1,h2,h3,h4,CO];simp
theorem zP(x:List Rl)(ifs:List (List AV))(hs:∀r∈x,Gv r):PC 47 [EZ x ifs] (vi (AN x)):=by
 refine Ps (H1 []) Tryz.func47 rfl (Nz rfl) (Ba (show ∃N,N=AN x from⟨_,rfl⟩) (fun N hN=>?_));refine Yi (fun h=>?_) (fun h=>?_)
 ·have h:(256:Int)<(x.map At).length:=h;exact .of_eq (Ab vi (show(7:Int)=AN x by unfold AN;rw[Al (by rw[Lm]at h;omega)]))
 have h:¬(256:Int)<(x.map At).length:=h;have hl:x.length≤256:=by rw[Lm]at h;omega
 have NY:AN x=Cp none x:=by unfold AN;rw[Ae ch]
 refine Xi {i:Nat // i≤x.length∧Cp none x=Cp (XU x i) (x.drop i)} (Xi (fun i=>⟨[(3,sl At x),(4,vi i.1)],[],Af⟩) (Xi (fun i=>x.length-i.1) (Yi (Xi ⟨0,AA _,rfl⟩ ?_) ?_)))
 ·exact⟨Z2,Tv,Fh,Tv⟩
 intro⟨i,h1,h2⟩;refine Yi (fun h=>?_) (fun h=>?_)
 ·skip
  have h:(i:Int)<(x.map At).length:=h;have h:i<x.length:=by simpa using h
  have hg:x[i]?=some x[i]:=Ge h;have hd:x.drop i=x[i]::x.drop (i+1):=AP h;have hc:=yW x[i] (hs x[i] (Aj h));have H8:Cp none x=if CW x[i]≠0 then CW x[i]else match XU x i with
   |none=>Cp (some x[i]) (x.drop (i+1))
   |some b=>if Fa b=Fa x[i]then 5 else if 0<Dv b x[i]then 1 else Cp (some x[i]) (x.drop (i+1)):=by rw[h2,hd];rfl
  have ZQ:XU x (i+1)=some x[i]:=Ge h;refine Xi (At x[i]) (Yi (Yi (Nn i) (by simp[hg])) (Yi rfl ?_));refine yN (Xi .pure (Xi _ (Yi (hc) (Yi (fun h3=>?_) (fun h3=>?_)))))
  ·have h3:CW x[i]≠0:=h3;exact .of_eq (Ab vi (show CW x[i]=AN x by rw[NY,H8,Al h3]))
  have h3:¬CW x[i]≠0:=h3;rw[Ae h3]at H8;refine Yi (fun h4=>?_) (fun h4=>?_)
  ·have h4:(0:Int)<i:=h4;have hk:i-1<x.length:=by omega
   have Ts:x[i-1]?=some x[i-1]:=Ge hk;have hn:((i:Int)-1).toNat=i-1:=by omega
   have hb:XU x i=some x[i-1]:=by
    cases i with
    |zero=>omega
    |succ k=>exact Ts
   rw[hb]at H8;have H8:Cp none x=if Fa x[i-1]=Fa x[i]then 5 else if 0<Dv x[i-1] x[i]then 1 else Cp (some x[i]) (x.drop (i+1)):=H8
   have ZD:=yX x[i-1] x[i];have S8:(0:Int)≤(i:Int)-1∧(x.map At)[((i:Int)-1).toNat]?=some (At x[i-1]):=⟨by omega,by rw[hn];exact CR Ts⟩;refine Yi (show Bc ((i:Int)-1) by unfold Bc;omega) (Xi (At x[i-1]) (Yi S8 (Yi rfl (yN (Xi (At x[i]) (Yi (Yi (Nn i) (by simp[hg])) (Yi rfl ?_)))))));refine yN (Xi _ (Yi (ZD) (Yi (fun h5=>?_) (fun h5=>?_))))
   ·have h5:Dv x[i-1] x[i]=0:=h5;refine Yi Wk ?_;exact .of_eq (Ab vi (show(5:Int)=AN x by rw[NY,H8,Al (WE h5)]))
   have h5:¬Dv x[i-1] x[i]=0:=h5;refine Yi Wk (Yi (fun _=>?_) (fun h9=>absurd h4 h9));refine Yi (show Bc ((i:Int)-1) by unfold Bc;omega) (Xi (At x[i-1]) (Yi S8 (Yi rfl (yN (Xi (At x[i]) (Yi (Yi (Nn i) (by simp[hg])) (Yi rfl ?_)))))));refine yN (Xi _ (Yi (ZD) (Yi (fun h6=>?_) (fun h6=>?_))))
   ·have h6:0<Dv x[i-1] x[i]:=h6;refine Yi Wk ?_;exact .of_eq (Ab vi (show(1:Int)=AN x by rw[NY,H8,Ae (fun e=>h5 (Zb e)),Al h6]))
   have h6:¬0<Dv x[i-1] x[i]:=h6;refine Yi Wk (Yi (Ii i ch) (Xi ⟨i+1,by omega,by rw[H8,Ae (fun e=>h5 (Zb e)),Ae h6,ZQ]⟩ ?_));exact⟨Dl x.length i ch,Z2,Tv,Fh,Tv⟩
  have h4:¬(0:Int)<i:=h4;have hb:XU x i=none:=by
   rw[show i=0 by omega]
  rw[hb]at H8;have H8:Cp none x=Cp (some x[i]) (x.drop (i+1)):=H8;refine Yi Wk (Yi (fun h9=>absurd h9 h4) (fun _=>?_));refine Yi Wk (Yi (Ii i ch) (Xi ⟨i+1,by omega,by rw[H8,ZQ]⟩ ?_));exact⟨Dl x.length i ch,Z2,Tv,Fh,Tv⟩
 ·skip
  have h:¬(i:Int)<(x.map At).length:=h;have h:¬i<x.length:=by simpa using h
  have e:(0:Int)=AN x:=by rw[NY,h2,H3 ch];rfl
  exact .of_eq (Ab vi e)
abbrev zU:Sl→Sl→Int:=fun a b=>Jy a.path b.path
theorem Za{a b:ByteArray}:Jy a b<0↔DL a b=true:=by
 unfold Jy
 by_cases h:DL a b=true
 ·rw[Al h];simp[h]
 ·rw[Ae h];split<;>simp[h]
theorem OF{a b:ByteArray}:Jy a b=0↔a=b:=by
 unfold Jy;constructor
 ·intro h;split at h
  ·cases h
  ·rename_i h1;split at h
   ·cases h
   ·rename_i h2;exact G6 (by simpa using h1) (by simpa using h2)
 ·rintro rfl
  rw[Ae (by rw[CO];decide),Ae (by rw[CO];decide)]
abbrev kept{α:Type}(p:α→Bool)(l:List α):List α:=l.filter fun x=>!p x
abbrev D2:Sl:=⟨r.path,r.ver⟩
theorem yu(ifs:List (List AV))(hl:Cy ifs)(hs:∀c∈ifs,c.length=5):PC 73 [.slice .none ifs] (.slice .none ifs):=by
 refine Ps D3 Tryz.func73 rfl (Nz rfl) ?_;have GQ:Cf 5 ifs∧([]:List (List AV)).length=0∧(([]:List (List AV)).length+ifs.length)*112≤140737488355328∧([]:List (List AV)).length+ifs.length≤9223372036854775807:=by
  refine⟨IR hs,rfl,?_,?_⟩<;>simp only[Ax]<;>unfold Cy at hl<;>omega
 refine Yi ?_ ?_
 ·intro _;exact Yi GQ (.refl _)
 ·intro h;have h:ifs=[]:=h;refine Yi ?_ ?_
  ·show GF Ce (.slice .none ifs);rw[h];exact .nil
  ·exact Yi GQ (.refl _)
end Go.Eng
namespace Go.Eng
variable {α:Type}{l:List α}{a b:Int}
structure OC{α β:Type}(c:α→α→Int)(R:α→α→Prop)(key:α→β):Prop where
 lt:∀a b,c a b<0↔R a b
 eq:∀a b,c a b=0↔key a=key b
 tr:∀a b d,R a b→R b d→R a d
 irr:∀a b,key a=key b→¬R a b
 tri:∀a b,¬R a b→key a≠key b→R b a
 cl:∀a b d,key a=key b→R a d→R b d
section
variable {α β:Type}{c:α→α→Int}{R:α→α→Prop}{key:α→β}
theorem gQ(h:OC c R key){a:List α}(ha:a.Pairwise R):(a.map key).Nodup:=by
 unfold List.Nodup;rw[Sj];exact ha.imp fun q e=>h.irr _ _ e q
end
/-! The three comparisons. -/
def ltS(a b:Sl):Prop:=DL a.path b.path=true∨(a.path=b.path∧oX a.ver b.ver)
abbrev sK(a b:Sl):Prop:=DL a.path b.path=true
theorem Ua:Fs a b<0↔a<b:=by
 unfold Fs;split
 ·rename_i h;simp[h]
 ·rename_i h;split<;>simp[h]
theorem Kc:Fs a b=0↔a=b:=by
 unfold Fs;split
 ·rename_i h;simp;omega
 ·rename_i h;split
  ·rename_i h2;simp;omega
  ·rename_i h2;simp;omega
theorem jN{a b:Ver}:IU a b<0↔oX a b:=by
 refine⟨dz,fun h=>?_⟩;unfold IU;rcases h with h | ⟨h1,h | ⟨h2,h⟩⟩
 ·rw[Al (fun c=>by have:=Kc.1 c;omega)];exact Ua.2 h
 ·rw[Ae (fun c=>c (Kc.2 h1)),Al (fun c=>by have:=Kc.1 c;omega)];exact Ua.2 h
 ·rw[Ae (fun c=>c (Kc.2 h1)),Ae (fun c=>c (Kc.2 h2))];exact Ua.2 h
theorem PI{a b:Sl}:fR a b<0↔ltS a b:=by
 unfold fR ltS
 by_cases h:a.path=b.path
 ·rw[Ae (fun c=>c (OF.2 h)),jN];exact⟨fun q=>.inr ⟨h,q⟩,fun q=>q.elim (fun q=>by rw[h,CO]at q;cases q) (·.2)⟩
 ·rw[Al (fun c=>h (OF.1 c)),Za];exact⟨.inl,fun q=>q.elim id fun q=>absurd q.1 h⟩
theorem ocP:OC zU sK (fun s:Sl=>s.path) where
 lt _ _:=Za
 eq _ _:=OF
 tr _ _ _:=DQ
 irr a b e h:=by rw[sK,e,CO]at h;cases h
 tri a b h e:=by
  cases q:DL b.path a.path with
  |true=>exact q
  |false =>
   cases p:DL a.path b.path with
   |true=>exact absurd p h
   |false=>exact absurd (G6 p q) e
 cl a b d e h:=by rw[sK,←e];exact h
/-! Pins. -/
theorem cM{β:Type}{f:α→β}(h:(l.map f).Nodup):l.Nodup:=by
 unfold List.Nodup at *
 rw[Sj]at h;exact h.imp fun q e=>q (Ab f e)
/-! What the reference makes of a list. -/
theorem Ep{i:Nat}(h:i<l.length):l.take (i+1)=l.take i++[l[i]]:=D6 h
end Go.Eng
namespace Go.Eng
open Go.Proofs
variable {α:Type}{i:Nat}(l m:List Sl)(p:ByteArray)
def dH(r:Rl):Bool:=decide (r.path=p)&&!r.yanked
def xj(r:Rl):Int×Int:=(plc r.ver,plc r.ver+1)
theorem fI{x:List Rl}{p:ByteArray}(h:AN x=0):Ca x p=canon ((x.filter (dH p)).map xj):=by
 unfold Ca K6;rw[Ae (not_not_intro h),List.filter_filter]
 congr 3
 funext r
 unfold dH;rw[Bool.and_comm]
theorem RJ(o:Option α):(∃x,o=some x)∨o=none:=by
 cases o with
 |none=>exact .inr rfl
 |some x=>exact .inl ⟨x,rfl⟩
instance:DecidableEq Rq:=fun x y=>decidable_of_iff (x.path=y.path∧x.set=y.set) ⟨fun⟨h1,h2⟩=>by cases x;cases y;simp_all,fun h=>by subst h;exact Zr⟩
instance:DecidableEq Rl:=fun x y=>decidable_of_iff (x.path=y.path∧x.ver=y.ver∧x.reqs=y.reqs∧x.arch=y.arch∧x.ifc=y.ifc∧x.cert=y.cert∧x.yanked=y.yanked) ⟨fun⟨h1,h2,h3,h4,h5,h6,h7⟩=>by cases x;cases y;simp_all,fun h=>by subst h;exact⟨rfl,rfl,rfl,rfl,rfl,rfl,rfl⟩⟩
theorem Yr{a b:List α}(hl:a.length=b.length)(h:∀j (hj:j<a.length),a[j]=b[j]'(hl▸hj)):a=b:=List.ext_getElem hl fun j h1 _=>h j h1
theorem jv{a b:List α}{ha:i<a.length}{hb:i<b.length}(h:a[i]≠b[i]):a≠b:=fun e=>by subst e;exact h rfl
structure Mv where
 path:ByteArray
 a:Int
 b:Int
abbrev B1(m:Mv):List AV:=[vs m.path,vi m.a,vi m.b]
abbrev plP(s:Sl):Value×AV:=(.string s.path,vi (place s.ver))
abbrev H7:List (Value×AV):=l.map plP
def LG:Int:=match Bv l p with | some s=>place s.ver | none=>-1
def K4:Option Mv:=if LG l p≠LG m p then some ⟨p,LG l p,LG m p⟩else none
abbrev Iv(ps:List ByteArray):List Mv:=ps.filterMap (K4 l m)
structure Hf(l:List Sl):Prop where
 few:Cy l
 val:∀s∈l,Cj s.ver=true
 inc:l.Pairwise sK
theorem Hf.step{l:List Sl}(h:Hf l)(hi:i<l.length)(h0:0<i):DL (l[i-1]' ch).path l[i].path=true:=(AS.1 h.inc) (i-1) i ch hi ch
theorem l7{l:List Sl}(h:Hf l)(hi:i<l.length):∀b,(Value.string l[i].path,b)∉H7 (l.take i):=fun b hb=>by
 obtain⟨s,hs,e⟩:=Am.1 hb;obtain⟨j,hj,rfl⟩:=BR.1 hs;rw[E4]at e;rw[AB]at hj;have q:=(AS.1 h.inc) j i ch hi ch;have e2:l[j].path=l[i].path:=by injection e with e1;injection e1
 rw[sK,e2,CO]at q;cases q
theorem sQ{l:List Sl}(h:Hf l){p:ByteArray}{a:AV}(ha:(Value.string p,a)∈H7 l):a=vi (LG l p):=by
 obtain⟨s,hs,e⟩:=Am.1 ha;have e1:s.path=p:=by injection e with e1;injection e1
 have e2:vi (place s.ver)=a:=by injection e
 rw[←e2];unfold LG;rw[←e1,OH (gQ ocP h.inc) hs]
theorem sR{l:List Sl}{p:ByteArray}(h:∀a,(Value.string p,a)∉H7 l):LG l p=-1:=by
 unfold LG;rw[show Bv l p=none from DC.2 fun s hs e=>h _ (Am.2 ⟨s,hs,by rw[←A4 e]⟩)]
theorem d7{l m:List Sl}{ps:List ByteArray}{k:Nat}(h:k<ps.length):Iv l m (ps.take (k+1))=Iv l m (ps.take k)++(K4 l m ps[k]).toList:=by
 unfold Iv;rw[Ep h,List.filterMap_append]
 congr 1
theorem pj(hl:Hf l):A1 Tryz.prog 75 [sl Ac l] (Ak [] Af) fun r h'=>r=.tup [.mref 2000,vb true]∧h'=Ak [(2000,.map Du (H7 l))] Af:=by
 have hfl:l.length≤1073741824:=hl.few;refine BW (KV D3) [(9,2000)] rfl Co hm rfl Tryz.func75 Wk rfl (Nz rfl) Wk rfl (Xi {q:Nat // q≤l.length} (Xi (fun q=>⟨[(0,sl Ac l),(4,.mref 9),(10,sl Ac l),(11,vi (l.map Ac).length),(12,vi q.1)],[(9,.map Du (H7 (l.take q.1)))],Af⟩) (Xi (fun q=>l.length-q.1) (Yi (Xi ⟨0,AA _⟩ ?_) ?_))))
 ·exact⟨Z5,Z1,Fh,Bo Wk⟩
 intro⟨i,i1⟩;have i1:i≤l.length:=i1;refine Yi (fun h1=>?_) (fun h1=>?_)
 ·have h1:(i:Int)<((l.map Ac).length:Int):=h1;have n1:=GI h1;refine Xi (Ac l[i]) (Yi (Hb n1) (Yi rfl (yN (yN (yN (Xi .pure (Xi _ (Yi (by have q:=uK l[i].ver;rw[Al (hl.val _ (Aj n1)),Al (hl.val _ (Aj n1))]at q;exact q) ?_))))))));refine Yi (fun h=>absurd h Cl) (fun _=>?_);refine Yi (fun h2=>?_) (fun h2=>?_)
  ·have h2:(0:Int)<(i:Int):=h2;refine Yi (by show Bc ((i:Int)-(1:Int));unfold Bc;omega) ?_;have hi0:0<i:=by omega
   refine Xi (Ac (l[i-1])) (Yi (Yi (show(0:Int)≤(i:Int)-1 by omega) (by rw[show((i:Int)-1).toNat=i-1 by omega];exact CR (Ge ch))) (Yi rfl ?_));refine Yi (fun h3=>?_) (fun h3=>?_)
   ·have h3:DL (l[i-1]).path l[i].path=false:=(Ed _ _).trans h3;exact absurd (hl.step n1 hi0) (by rw[h3];decide)
   have h3:DL (l[i-1]).path l[i].path=true:=(Ed _ _).trans (by simpa using h3);refine Yi Wk (Yi (Ii i ch) (Xi ⟨i+1,n1⟩ ?_));exact⟨Dl l.length i ch,Z5,⟨⟨(show HO.map Du (FD (H7 (l.take i)) (.string l[i].path) (vi (place l[i].ver)))=.map Du (H7 (l.take (i+1))) by rw[Lx (l7 hl n1),Ep n1];unfold H7;rw[As];rfl),rfl⟩,Tv⟩,Fh,Bo Wk⟩
  have h2:¬((0:Int)<(i:Int)):=h2;refine Yi Wk (Yi (Ii i ch) (Xi ⟨i+1,n1⟩ ?_));exact⟨Dl l.length i ch,Z5,⟨⟨(show HO.map Du (FD (H7 (l.take i)) (.string l[i].path) (vi (place l[i].ver)))=.map Du (H7 (l.take (i+1))) by rw[Lx (l7 hl n1),Ep n1];unfold H7;rw[As];rfl),rfl⟩,Tv⟩,Fh,Bo Wk⟩
 have h1:¬((i:Int)<((l.map Ac).length:Int)):=h1;have n1:=GH h1;have ei:l.take i=l:=Au (by have q:=h1;rw[Lm]at q;omega);exact Xi _ (Yi (.refl _) ⟨rfl,show Ak [(2000,HO.map Du (H7 (l.take i)))] Af=Ak [(2000,.map Du (H7 l))] Af by rw[ei]⟩)
theorem wI(hl:Hf l):PC 77 [.cmap Du (H7 l),vs p] (vi (LG l p)):=by
 refine Ps D3 Tryz.func77 rfl (Nz rfl) (Yi (fun a ha=>?_) (fun Tb=>?_))
 ·have ea:=sQ hl ha;subst ea;exact .refl _
 exact .of_eq (show vi (-1)=vi (LG l p) by rw[sR Tb])
theorem o75(t:List ByteArray)(hl:Hf l)(ja:Hf m)(hfs:l.length+m.length≤1073741824)(DM:l++m≠[])(hp:t.Perm ((l++m).map (·.path)))(ht:(t.map MN).Pairwise fun a b=>a≤b):PC 54 [sl Ac l,sl Ac m] (.tup [sl B1 (Iv l m (B5 t)),vi 0]):=by
 obtain⟨LM,rQ⟩:∃LM,LM=l++m:=⟨_,rfl⟩;have hm:=ja;rw[←rQ]at hp;have hLl:LM.length=l.length+m.length:=by rw[rQ,Ad]
 have x9:l.length≤1073741824:=hl.few;have Rt:m.length≤1073741824:=ja.few;refine GB (iW ⟨[],[(14,3)],[(10,1)],[(34,[12000,12500])],[],[],[],[],[],[],[6,7,8,9,11,13,14,15,16,17,18,19,21]⟩) rfl Co Go.Eng.hm rfl Tryz.func54 Wk rfl (Nz rfl) Wk (Xi (.gen [] 1) (Yi rfl (A1.to2 (pj l hl) ?_)));refine Xi (.gen [] 1) (Yi rfl (A1.to2 (pj m hm) ?_));refine cU [(0,sl Ac l),(1,sl Ac m),(6,.mref 12000),(8,.mref 12500),(10,.msl 10 0)] [(10,.arr 1 []),(12000,.map Du (H7 l)),(12500,.map Du (H7 m))] Z5 Z3 (Xi (.gen [] 1) (Yi rfl (A1.to2 (rA l hl.few) ?_)));have b4:Cf 4 (m.map Ac)∧(l.map Ac).length=(l.map Ac).length∧((l.map Ac).length+(m.map Ac).length)*40≤140737488355328∧(l.map Ac).length+(m.map Ac).length≤9223372036854775807:=⟨(DW (enc:=Ac) (n:=4) (fun _=>rfl) m),rfl,(by simp only[Lm];omega),(by simp only[Lm];omega)⟩;refine Yi b4 (Xi {q:Nat×List ByteArray // q.1≤LM.length∧q.2=(LM.take q.1).map (·.path)} (Xi (fun q=>⟨[(6,.mref 12000),(8,.mref 12500),(10,.msl 10 q.1.2.length),(37,.slice (.id 13500 4) (LM.map Ac)),(38,vi (LM.length:Nat)),(39,vi q.1.1)],[(10,.arr 1 (q.1.2.map Dx)),(12000,.rom Du (H7 l)),(12500,.rom Du (H7 m)),(13500,.tok 4 LM.length)],Af⟩) (Xi (fun q=>LM.length-q.1.1) (Yi (Xi ⟨(0,[]),AA _,rfl⟩ ?_) ?_))))
 ·exact⟨⟨Zr,Zr,Zr,⟨(show AV.slice (.id 13500 4) (l.map Ac++m.map Ac)=.slice (.id 13500 4) (LM.map Ac) by rw[rQ,As]),rfl⟩,⟨(show vi ((l.map Ac++m.map Ac:List (List AV)).length:Int)=vi ((LM.length:Nat):Int) by rw[rQ,Ad,Ad,Lm,Lm]),rfl⟩,Zr,Tv⟩,⟨Zr,Zr,Zr,⟨(show HO.tok 4 ((l.map Ac).length+(m.map Ac).length)=.tok 4 LM.length by rw[rQ,Ad,Lm,Lm]),rfl⟩,Tv⟩,Fh,Tv⟩
 intro⟨⟨i,P⟩,i1,i2⟩;have i1:i≤LM.length:=i1;have i2:P=(LM.take i).map (·.path):=i2;have i3:P.length≤i:=by rw[i2,Lm,AB];omega
 refine cU [(6,.mref 12000),(8,.mref 12500),(10,.msl 10 P.length),(37,.slice (.id 13500 4) (LM.map Ac)),(38,vi (LM.length:Nat)),(39,vi i)] [(10,.arr 1 (P.map Dx)),(12000,.rom Du (H7 l)),(12500,.rom Du (H7 m)),(13500,.tok 4 LM.length)] Z6 Z4 (Yi (fun h5=>?_) (fun h5=>?_))
 ·have h5:(i:Int)<((LM.length:Nat):Int):=h5;have n5:i<LM.length:=by omega
  refine cU [(6,.mref 12000),(8,.mref 12500),(10,.msl 10 P.length),(37,.slice (.id 13500 4) (LM.map Ac)),(38,vi (LM.length:Nat)),(39,vi i)] [(10,.arr 1 (P.map Dx)),(12000,.rom Du (H7 l)),(12500,.rom Du (H7 m)),(13500,.tok 4 LM.length)] Z6 Z4 (Xi (Ac LM[i]) (Yi (Hb n5) (Yi rfl (yN (yN (cU [(6,.mref 12000),(8,.mref 12500),(10,.msl 10 P.length),(12,.ref 12 0),(37,.slice (.id 13500 4) (LM.map Ac)),(38,vi (LM.length:Nat)),(39,vi i)] [(10,.arr 1 (P.map Dx)),(12,.cells (Ac LM[i])),(12000,.rom Du (H7 l)),(12500,.rom Du (H7 m)),(13500,.tok 4 LM.length)] Z7 Z5 ?_))))))
  have b6:Cf 1 [[vs LM[i].path]]∧(P.map Dx).length=P.length∧((P.map Dx).length+([[vs LM[i].path]]:List (List AV)).length)*16≤140737488355328∧(P.map Dx).length+([[vs LM[i].path]]:List (List AV)).length≤9223372036854775807:=⟨⟨rfl,trivial⟩,(by rw[Lm]),(by simp only[Lm,Av,Ax];omega),(by simp only[Lm,Av,Ax];omega)⟩;refine Yi b6 (Yi (Ii i ch) (Xi ⟨(i+1,P++[LM[i].path]),n5,by show P++[LM[i].path]=_;rw[Ep n5,As,i2];rfl⟩ ?_));exact⟨Dl LM.length i ch,⟨Zr,Zr,⟨(show AV.msl 10 ((P.map Dx).length+([[vs LM[i].path]]:List (List AV)).length)=.msl 10 (P++[LM[i].path]).length by rw[Ad,Lm];rfl),rfl⟩,Zr,Zr,Zr,Tv⟩,⟨⟨(show HO.arr 1 (P.map Dx++[[vs LM[i].path]])=.arr 1 ((P++[LM[i].path]).map Dx) by rw[As];rfl),rfl⟩,Zr,Zr,Zr,Tv⟩,Fh,Tv⟩
 have h5:¬((i:Int)<((LM.length:Nat):Int)):=h5;have xV:P=LM.map (·.path):=by rw[i2,Au (by have q:=h5;omega)]
 have hPf:Cy P:=by unfold Cy;rw[xV,Lm,rQ,Ad];exact hfs
 have hPn:P≠[]:=fun e=>by rw[xV]at e;exact DM (by rw[←rQ];exact Er.1 e)
 have hPt:t.length=P.length:=by rw[xV];exact hp.length_eq
 have sr:t.length≤1073741824:=by rw[hPt];exact hPf
 have htn:t≠[]:=fun e=>hPn (AK (by rw[←hPt,e];rfl));have hcl:(B5 t).length≤t.length:=by unfold B5;rw[Lm];exact Bf (MR _) (by rw[Lm];exact Ao _)
 refine cU [(6,.mref 12000),(8,.mref 12500),(10,.msl 10 P.length)] [(10,.arr 1 (P.map Dx)),(12000,.rom Du (H7 l)),(12500,.rom Du (H7 m))] Z3 Z3 (Xi (.gen [(10,1000)] 0) (Yi rfl (A1.to2 (Abc P t hPf hPn (by rw[xV];exact hp) ht) ?_)));refine cU [(6,.mref 12000),(8,.mref 12500),(10,.msl 10 P.length),(13,.v (.func (.func 77) #[] #[]))] [(10,.arr 1 (t.map Dx)),(12000,.rom Du (H7 l)),(12500,.rom Du (H7 m))] Z4 Z3 (cU [(6,.mref 12000),(8,.mref 12500),(10,.msl 10 t.length),(13,.v (.func (.func 77) #[] #[])),(14,.slice (.id 14 3) [])] [(10,.arr 1 (t.map Dx)),(14,.tok 3 0),(12000,.rom Du (H7 l)),(12500,.rom Du (H7 m))] ⟨Zr,Zr,⟨(Ab (AV.msl 10) hPt.symm),rfl⟩,Zr,Zr,Tv⟩ Z4 (Xi (.gen [(10,1000)] 1) (Yi rfl (A1.to2 (Abd t (by unfold Cy;omega) htn) ?_))));refine Xi {q:Nat×List Mv // q.1≤(B5 t).length∧q.2=Iv l m ((B5 t).take q.1)} (Xi (fun q=>⟨[(6,.mref 12000),(8,.mref 12500),(13,.v (.func (.func 77) #[] #[])),(14,.slice (.id 14 3) (q.1.2.map B1)),(52,.msl 15200 (B5 t).length),(53,vi (B5 t).length),(54,vi q.1.1)],[(14,.tok 3 q.1.2.length),(12000,.rom Du (H7 l)),(12500,.rom Du (H7 m)),(15200,.arr 1 ((B5 t).map Dx))],Af⟩) (Xi (fun q=>(B5 t).length-q.1.1) (Yi (Xi ⟨(0,[]),AA _,rfl⟩ ?_) ?_)))
 ·exact⟨Z7,Z4,Fh,Tv⟩
 intro⟨⟨k,O⟩,k1,k2⟩;have k1:k≤(B5 t).length:=k1;have k2:O=Iv l m ((B5 t).take k):=k2;have k3:O.length≤k:=by rw[k2];exact Bf (List.length_filterMap_le ..) (by rw[AB];omega)
 refine cU [(6,.mref 12000),(8,.mref 12500),(13,.v (.func (.func 77) #[] #[])),(14,.slice (.id 14 3) (O.map B1)),(52,.msl 15200 (B5 t).length),(53,vi (B5 t).length),(54,vi k)] [(14,.tok 3 O.length),(12000,.rom Du (H7 l)),(12500,.rom Du (H7 m)),(15200,.arr 1 ((B5 t).map Dx))] Z7 Z4 (Yi (fun Pl=>?_) (fun Pl=>?_))
 ·have Pl:(k:Int)<((B5 t).length:Int):=Pl;have nb:k<(B5 t).length:=by omega
  have n10:=nb;have gb:(B5 t)[k]?=some (B5 t)[k]:=Ge nb;refine cU [(6,.mref 12000),(8,.mref 12500),(13,.v (.func (.func 77) #[] #[])),(14,.slice (.id 14 3) (O.map B1)),(52,.msl 15200 (B5 t).length),(53,vi (B5 t).length),(54,vi k)] [(14,.tok 3 O.length),(12000,.rom Du (H7 l)),(12500,.rom Du (H7 m)),(15200,.arr 1 ((B5 t).map Dx))] Z7 Z4 (Yi (by show(0:Int)≤k∧(k:Int)<((B5 t).length:Nat);omega) (Yi (show(B5 t).length=((B5 t).map Dx).length by rw[Lm]) (Xi (Dx ((B5 t)[k])) (Yi (CR gb) (cU [(6,.mref 12000),(8,.mref 12500),(13,.v (.func (.func 77) #[] #[])),(14,.slice (.id 14 3) (O.map B1)),(16,vs ((B5 t)[k])),(52,.msl 15200 (B5 t).length),(53,vi (B5 t).length),(54,vi k)] [(14,.tok 3 O.length),(12000,.rom Du (H7 l)),(12500,.rom Du (H7 m)),(15200,.arr 1 ((B5 t).map Dx))] Z8 Z4 (Xi .pure (Xi _ (Yi (wI l (B5 t)[k] hl) (Xi .pure (Xi _ (Yi (wI m (B5 t)[k] hm) (yN (cU [(6,.mref 12000),(8,.mref 12500),(13,.v (.func (.func 77) #[] #[])),(14,.slice (.id 14 3) (O.map B1)),(17,.ref 17 0),(52,.msl 15200 (B5 t).length),(53,vi (B5 t).length),(54,vi k)] [(14,.tok 3 O.length),(17,.cells [vs ((B5 t)[k]),vi (LG l (B5 t)[k]),vi (LG m (B5 t)[k])]),(12000,.rom Du (H7 l)),(12500,.rom Du (H7 m)),(15200,.arr 1 ((B5 t).map Dx))] Z8 Z5 (Yi (fun IW=>?_) (fun IW=>?_)))))))))))))))
  ·have IW:((LG l (B5 t)[k]):Int)≠((LG m (B5 t)[k]):Int):=IW;refine cU [(6,.mref 12000),(8,.mref 12500),(13,.v (.func (.func 77) #[] #[])),(14,.slice (.id 14 3) (O.map B1)),(17,.ref 17 0),(52,.msl 15200 (B5 t).length),(53,vi (B5 t).length),(54,vi k)] [(14,.tok 3 O.length),(17,.cells [vs ((B5 t)[k]),vi (LG l (B5 t)[k]),vi (LG m (B5 t)[k])]),(12000,.rom Du (H7 l)),(12500,.rom Du (H7 m)),(15200,.arr 1 ((B5 t).map Dx))] Z8 Z5 (yN (Yi (Wt rfl ch Cl) (Yi (Ii k ch) ?_)));have eO:=d7 (l:=l) (m:=m) n10;have eM:K4 l m (B5 t)[k]=some ⟨(B5 t)[k],(LG l (B5 t)[k]),(LG m (B5 t)[k])⟩:=Al IW;rw[eM]at eO;refine Xi ⟨(k+1,(O++[(⟨(B5 t)[k],(LG l (B5 t)[k]),(LG m (B5 t)[k])⟩:Mv)])),n10,by show(O++[(⟨(B5 t)[k],(LG l (B5 t)[k]),(LG m (B5 t)[k])⟩:Mv)])=_;rw[eO,k2];rfl⟩ ?_;exact⟨by show(B5 t).length-(k+1)<(B5 t).length-k;omega,⟨Zr,Zr,Zr,⟨(show AV.slice (.id 14 3) (O.map B1++[[vs (B5 t)[k],vi (LG l (B5 t)[k]),vi (LG m (B5 t)[k])]])=.slice (.id 14 3) ((O++[(⟨(B5 t)[k],(LG l (B5 t)[k]),(LG m (B5 t)[k])⟩:Mv)]).map B1) by rw[As];rfl),rfl⟩,Zr,Zr,Zr,Tv⟩,⟨⟨tY,rfl⟩,Zr,Zr,Zr,Tv⟩,Fh,Tv⟩
  have IW:((LG l (B5 t)[k]):Int)=((LG m (B5 t)[k]):Int):=AC IW;refine Yi (Ii k ch) ?_;have eO:=d7 (l:=l) (m:=m) n10;have eM:K4 l m (B5 t)[k]=none:=Ae (fun c=>c IW);rw[eM]at eO;rw[show(none:Option Mv).toList=[]from rfl,BL]at eO;refine Xi ⟨(k+1,O),n10,by show O=_;rw[eO,k2]⟩ ?_;exact⟨by show(B5 t).length-(k+1)<(B5 t).length-k;omega,Z7,Z4,Fh,Tv⟩
 have Pl:¬((k:Int)<((B5 t).length:Int)):=Pl;refine cU [(14,.slice (.id 14 3) (O.map B1))] [(14,.tok 3 O.length)] Z1 Z1 ?_
 have ek:(B5 t).take k=B5 t:=Au ch;have eO:O=Iv l m (B5 t):=by rw[k2,ek]
 exact .of_eq (Ab (fun z=>AV.tup [sl B1 z,vi 0]) eO)
end Go.Eng
namespace Go.Proofs
open Go.Shelf Go.RowKit Go.Lib Go.Sort
abbrev OneC:Type:={v:Value // v.oneCell'=true}
def SlA:Type:=ByteArray×OneC×OneC×OneC
instance:Inhabited SlA:=⟨⟨ByteArray.empty,⟨.bool false,rfl⟩,⟨.bool false,rfl⟩,⟨.bool false,rfl⟩⟩⟩
def encSlA(x:SlA):List Value:=[.string x.1,x.2.1.1,x.2.2.1.1,x.2.2.2.1]
def cfSlA(x y:SlA):Int:=Lib.compareBytes x.1.data.toList y.1.data.toList
abbrev CmpSlA(k:Nat):Prop:=∀(x y:SlA) (W:World),Calls Tryz.prog k #[.agg #[.string x.1,x.2.1.1,x.2.2.1.1,x.2.2.2.1],.agg #[.string y.1,y.2.1.1,y.2.2.1.1,y.2.2.2.1]] W fun e w'=>e=.returned (.int .i64 (cfSlA x y))∧∃q os',w'=grow (W.drewN q) os'
theorem Tryz.closure68:CmpSlA 68:=fun x y W=>by
 have hcon:=fun W'=>Any.strings_Compare Tryz.layCompare x.1 y.1 W';obtain⟨a,⟨b,hb⟩,⟨c,hc⟩,⟨d,hd⟩⟩:=x;obtain⟨a',⟨b',rT⟩,⟨c',tN⟩,⟨d',ov⟩⟩:=y;dsimp only at hcon
 change ∀W',Calls Tryz.prog 69 _ _ _ at hcon
 unfold cfSlA;dsimp only;generalize Lib.compareBytes a.data.toList a'.data.toList=r at hcon⊢
 go_enter Tryz.func68,Tryz.ntmps68
 go_wp2_with (go_at_call 69;refine(hcon _).mono ?_;rintro e w' ⟨rfl,rfl⟩)
 go_ret
 exact⟨rfl,0,_,by rw[alloc_eq_grow,alloc_eq_grow,grow_grow];rfl⟩
end Go.Proofs
namespace Go.Eng
open Go.Proofs Go.Shelf Go.RowKit Go.Lib Go.Sort
theorem dZ(x y:SlA):ltOf cfSlA x y=DL x.1 y.1:=UR _ _
theorem mE:SWO (ltOf cfSlA) where
 irrefl x:=by rw[dZ];exact CO _
 trans x y z h1 h2:=by rw[dZ]at *;exact DQ h1 h2
 ntrans x y z h1 h2:=by
  rw[dZ]at *
  rw[AI];intro h;cases ub:DL y.1 x.1 with
  |true=>have:=DQ ub h;rw[h2]at this;cases this
  |false =>
   have e:=G6 h1 ub;rw[e]at h;rw[h2]at h;cases h
theorem s92(k:Nat)(hc:CmpSlA k)(eg:∀args w,(callFunc k args).run Tryz.prog w=.ok (.enter k args) w)(l:List Sl)(hl:Cy l)(lim:Nat)(ZM:lim<100) :
  A1 Tryz.prog 97 [.msl 1000 l.length,vi 0,vi l.length,vi lim,.v (YP k)] (Ak [(1000,.arr 4 (l.map Ac))] Af) fun r h' =>
   r=.tup []∧∃l' : List Sl,l'.Perm l∧l'.Pairwise (fun x y=>DL y.path x.path=false)∧h'=Ak [(1000,.arr 4 (l'.map Ac))] Af:=by
 have hl:l.length≤1073741824:=hl;have hE:GD Tryz.prog 97:=iX 97 Tryz.func97 Wk rfl;have HT:=Ka (P:=Tryz.prog) (f:=97) (α:=SlA) (rest:=[.int .i64 0,.int .i64 l.length,.int .i64 lim,YP k]) hE Ac encSlA (k:=4) (fun _=>rfl) (fun _=>rfl) (ltOf cfSlA) (fun x a=>a.1=x.path) l ch ?_ ?_ ?_
 ·refine⟨hE,fun g w vals q1 q2 q3=>(HT.2 g w vals q1 q2 q3).mono fun _ _ ⟨v,r,h',g',e1,⟨e2,l',p1,⟨al,a1,a2,a3⟩,p2⟩,rest⟩=>⟨v,r,h',g',e1,⟨e2,l',p1,?_,p2⟩,rest⟩⟩;rw[AS]at a3⊢;intro i j hi hj QV
  have:=a3 i j ch ch QV
  rw[dZ]at this;have e1:=a2 i _ _ (Ge hi) (Ge ch);have e2:=a2 j _ _ (Ge hj) (Ge ch);rw[←e1,←e2];exact this
 ·intro x hx g w vs hr
  match vs,hr with
  | [a,b,c,d],hr =>
   have h1:=(hr.2.2 0 (Go.Eng.vs x.path) a rfl rfl).v_eq;subst h1;exact⟨⟨x.path,⟨b,hr.2.1 b B0⟩,⟨c,hr.2.1 c B0⟩,⟨d,hr.2.1 d B0⟩⟩,rfl,rfl⟩
  | [],hr=>have:=hr.1;simp at this
  | [_],hr=>have:=hr.1;simp at this
  | [_,_],hr=>have:=hr.1;simp at this
  | [_,_,_],hr=>have:=hr.1;simp at this
  |_::_::_::_::_::_,hr=>have:=hr.1;simp at this
 ·intro w b cap d hH hb Ev hdl;have kE:CmpLays Tryz.prog k #[] encSlA 4 cfSlA b 0 d.size w:=fun _ _ _ _ x y=>hc x y _;have hp:=AnyQ.pdqsortCmpFunc_all Tryz.layPdqSel 4 Tryz.isAgg29 Tryz.sizeOf29 encSlA cfSlA k #[] mE b 0 cap d w eg kE ⟨fun _=>rfl,fun x v hv=>by
    simp only[encSlA,AF,MD,or_false]at hv;rcases hv with rfl | rfl | rfl | rfl
    ·rfl
    ·exact x.2.1.2
    ·exact x.2.2.1.2
    ·exact x.2.2.2.2,hH,hb⟩ (d.size+1) 0 d.size lim d w ch rfl (SWK.start hH) (AA _) (Ao _) Ev ch (Or.inl rfl)
  rw[hdl]at hp⊢;refine hp.mono ?_
  rintro e w' ⟨rfl,n,os,rfl⟩
  have h:=pdq_sorts (ltOf cfSlA) mE d 0 d.size lim true true (AA _) (Ao _) (Or.inl rfl);rw[hdl]at h;exact⟨rfl,_,n,os,h.1,h.2,rfl⟩
 ·intro e w;subst e;exact AnyF.pdqsortCmpFunc_none Tryz.layPdqSel none 0 lim (YP k) w
theorem Ox{l l' : List Sl}(h1:QY l)(h2:QY l')(hm:∀y,y∈l↔y∈l'):l=l':=by
 induction l generalizing l' with
 |nil =>
  cases l' with
  |nil=>rfl
  |cons y l'=>have:=(hm y).2 (Aa ..);cases this
 |cons x l ih =>
  cases l' with
  |nil=>have:=(hm x).1 (Aa ..);cases this
  |cons y l' =>
   obtain⟨a1,a2⟩:=Bz.1 h1;obtain⟨b1,b2⟩:=Bz.1 h2;have e:x=y:=by
    rcases AF.1 ((hm x).1 (Aa ..))with e | e
    ·exact e
    ·rcases AF.1 ((hm y).2 (Aa ..))with e2 | e2
     ·exact e2.symm
     ·have c1:=b1 x e;have c2:=a1 y e2
      have:=DQ c1 c2
      rw[CO]at this;cases this
   subst e
   congr 1
   refine ih a2 b2 fun z=>⟨fun hz=>?_,fun hz=>?_⟩
   ·rcases AF.1 ((hm z).1 (Ah _ hz))with e | e
    ·subst e
     have:=a1 z hz
     rw[CO]at this;cases this
    ·exact e
   ·rcases AF.1 ((hm z).2 (Ah _ hz))with e | e
    ·subst e
     have:=b1 z hz
     rw[CO]at this;cases this
    ·exact e
theorem mz{l l' : List Sl}(hn:(l.map (·.path)).Nodup)(hp:l'.Perm l)(hs:l'.Pairwise fun x y=>DL y.path x.path=false):l'=Ey l:=by
 refine Ox ?_ (NU hn) fun y=>by rw[hp.mem_iff,He]
 have ZP : (l'.map (·.path)).Nodup:=(hp.map (·.path)).nodup_iff.2 hn;show l'.Pairwise _;rw[AS]at hs⊢;intro i j hi hj QV;cases hb:DL l'[i].path l'[j].path with
 |true=>rfl
 |false =>
  have e:=G6 hb (hs i j hi hj QV)
  have:=(AS.1 ZP) i j (by simpa using hi) (by simpa using hj) QV
  simp at this;exact absurd e this
theorem s47(k:Nat)(hc:CmpSlA k)(eg:∀args w,(callFunc k args).run Tryz.prog w=.ok (.enter k args) w)(l:List Sl)(hl:Cy l)(hn:(l.map (·.path)).Nodup) :
  A1 Tryz.prog 67 [.msl 1000 l.length,.v (YP k)] (Ak [(1000,.arr 4 (l.map Ac))] Af) fun r h' =>
   r=.tup []∧h'=Ak [(1000,.arr 4 ((Ey l).map Ac))] Af:=by
 obtain⟨lim,ZM,hb⟩:=nJ l.length hl;refine BW (KV D3) [(1000,1000)] rfl Co hm rfl Tryz.func67 Wk rfl (Nz rfl) Wk rfl (Xi .pure (Xi _ (Yi (hb) (Xi (.gen [(1000,1000)] 0) (Yi rfl ((s92 k hc eg l hl lim ZM).imp ?_))))));intro r h' hq;refine Ba hq.2 (fun l' Rs=>?_);have e:=mz hn Rs.1 Rs.2.1;refine Xi (.tup []) (Yi ?_ (Yi rfl ?_))
 ·exact .refl _
 ·rw[Rs.2.2,e];rfl
end Go.Eng
namespace Go.Eng
open Go.Proofs
variable {caps:List AV}{fF:Nat}(roots:List Rq)(C A:List (Value×AV))(s:SS)(dec:List Cd)(n:Nat)
abbrev AU(c:Cd):List AV:=vi c.place::At c.rel
abbrev Br(n:Nd):List AV:=[vs n.rq.path,sl Ag n.rq.set,vs n.path,vi n.place,vi n.number]
abbrev Bl(l:List Sk):List AV:=[sl Cv l]
abbrev CP(i:Nat):List AV:=[vi (i:Nat)]
def FY:E7:=⟨true,[.int .i64,.str,.int .i64,.int .i64,.int .i64,.int .i64]⟩
def Mu(i:Nf):Value:=.agg [.int .i64 i.kind,.string i.path,.int .i64 i.place,.int .i64 i.number,.int .i64 i.left,.int .i64 i.right].toArray
def F3:Nat→List Nf→List (Value×AV)
 |_,[]=>[]
 |k,i::l=>(Mu i,vi (k:Nat))::F3 (k+1) l
abbrev yD:List AV :=
 [sl AH roots,.cmap Du C,.cmap Du A,.slice (.id 1001 6) (s.infs.map Dn),.slice (.id 1002 1) (s.drv.map Dg),.mref 1003,vb s.full,sl AU dec,sl Ac (AD dec),.msl 1004 n]
abbrev srM(k n:Nat):List AV :=
 [sl AH roots,.cmap Du C,.cmap Du A,.slice (.id 1001 6) (s.infs.map Dn),.slice (.id 1002 1) (s.drv.map Dg),.mref 1003,vb s.full,sl AU dec,sl Ac (AD dec),.msl k n]
abbrev JW(st:List (List Sk)):List (Nat×HO) :=
 [(1000,.cells (yD roots C A s dec st.length)),(1001,.tok 6 s.infs.length),(1002,.tok 1 s.drv.length),(1003,.map FY (F3 0 s.infs)),(1004,.arr 1 (st.map Bl))]
theorem Ac2(hs:FB caps)(l:List (Cd))(p:Cd→Bool)(hF:∀x∈l,PC fF ([.agg (AU x)]++caps) (vb (p x)))(hl:l.length<9223372036854775807) :
  PC 206 [sl AU l,.clo fF caps] (vi (Lc p l 0)):=by
 refine Ps D3 Tryz.func206 rfl (Nz rfl) (Xi {i:Nat // i≤l.length∧∀j (hj:j<l.length),j<i→p l[j]=false} (Xi (fun i=>⟨[(0,sl AU l),(1,.clo fF caps),(7,vi (l.map AU).length),(8,vi i.1)],[],Af⟩) (Xi (fun i=>l.length-i.1) (Yi (Xi ⟨0,by simp⟩ ?_) ?_))))
 ·exact⟨⟨Zr,⟨rfl,hs.ids _⟩,Zr,Zr,Tv⟩,Tv,Fh,Tv⟩
 ·intro⟨i,h1,h2⟩;refine Yi ?_ ?_
  ·intro h;have h:(i:Int)<(l.map AU).length:=h;have h:i<l.length:=by simpa using h
   have hg:l[i]?=some l[i]:=Ge h;refine Xi (AU l[i]) (Yi (Yi (Nn i) (by simp[hg])) (Yi rfl (yN ?_)));have El:∀h,PC fF ([.agg (AU l[i])]++caps.map (str0 h)) (vb (p l[i])):=fun h=>by rw[hs.map];exact hF l[i] (Aj _)
   cases hp:p l[i]with
   |true =>
    rw[hp]at El;refine Xi .pure (Xi (vb true) (Yi (El _) ?_));rw[OQ h (fun j hj Iq=>h2 j hj Iq) hp,Jv];exact .refl _
   |false =>
    rw[hp]at El;refine Xi .pure (Xi (vb false) (Yi (El _) (Yi (Ii i ch) (Xi ⟨i+1,by omega,fun j hj Iq=>?_⟩ ?_))))
    ·by_cases e:j=i
     ·subst e;exact hp
     ·exact h2 j hj ch
    ·exact⟨Dl l.length i ch,⟨Zr,⟨rfl,hs.ids _⟩,Zr,Zr,Tv⟩,Tv,Fh,Tv⟩
  ·intro h;have h:¬(i:Int)<(l.map AU).length:=h;have h:¬i<l.length:=by simpa using h
   rw[Kh fun j hj=>h2 j hj ch];exact .refl _
theorem s86(hs:FB caps)(l:List (Nd))(p:Nd→Bool)(hF:∀x∈l,PC fF ([.agg (Br x)]++caps) (vb (p x)))(hl:l.length<9223372036854775807) :
  PC 88 [sl Br l,.clo fF caps] (vi (Lc p l 0)):=by
 refine Ps D3 Tryz.func88 rfl (Nz rfl) (Xi {i:Nat // i≤l.length∧∀j (hj:j<l.length),j<i→p l[j]=false} (Xi (fun i=>⟨[(0,sl Br l),(1,.clo fF caps),(7,vi (l.map Br).length),(8,vi i.1)],[],Af⟩) (Xi (fun i=>l.length-i.1) (Yi (Xi ⟨0,by simp⟩ ?_) ?_))))
 ·exact⟨⟨Zr,⟨rfl,hs.ids _⟩,Zr,Zr,Tv⟩,Tv,Fh,Tv⟩
 ·intro⟨i,h1,h2⟩;refine Yi ?_ ?_
  ·intro h;have h:(i:Int)<(l.map Br).length:=h;have h:i<l.length:=by simpa using h
   have hg:l[i]?=some l[i]:=Ge h;refine Xi (Br l[i]) (Yi (Yi (Nn i) (by simp[hg])) (Yi rfl (yN ?_)));have El:∀h,PC fF ([.agg (Br l[i])]++caps.map (str0 h)) (vb (p l[i])):=fun h=>by rw[hs.map];exact hF l[i] (Aj _)
   cases hp:p l[i]with
   |true =>
    rw[hp]at El;refine Xi .pure (Xi (vb true) (Yi (El _) ?_));rw[OQ h (fun j hj Iq=>h2 j hj Iq) hp,Jv];exact .refl _
   |false =>
    rw[hp]at El;refine Xi .pure (Xi (vb false) (Yi (El _) (Yi (Ii i ch) (Xi ⟨i+1,by omega,fun j hj Iq=>?_⟩ ?_))))
    ·by_cases e:j=i
     ·subst e;exact hp
     ·exact h2 j hj ch
    ·exact⟨Dl l.length i ch,⟨Zr,⟨rfl,hs.ids _⟩,Zr,Zr,Tv⟩,Tv,Fh,Tv⟩
  ·intro h;have h:¬(i:Int)<(l.map Br).length:=h;have h:¬i<l.length:=by simpa using h
   rw[Kh fun j hj=>h2 j hj ch];exact .refl _
theorem xd(hs:FB caps)(l:List (Cd))(p:Cd→Bool)(hF:∀x∈l,PC fF ([.agg (AU x)]++caps) (vb (p x)))(hl:Cy l) :
  PC 171 [sl AU l,.clo fF caps] (vb (l.any p)):=by
 refine Ps D3 Tryz.func171 rfl (Nz rfl) ?_;have hi:=Ac2 hs l p hF (by unfold Cy at hl;omega);have El:∀h,PC 206 [sl AU l,.clo fF (caps.map (str0 h))] (vi (Lc p l 0)):=fun h=>by rw[hs.map];exact hi
 refine Xi .pure (Xi _ (Yi (El _) ?_));have ha:=NF (p:=p) l 0 (BK 0);refine Yi ?_ ?_
 ·intro h;have h:(0:Int)≤Lc p l 0:=h;rw[←ha,Aq h];exact .refl _
 ·intro h;have h:¬(0:Int)≤Lc p l 0:=h;rw[←ha,Ap h];exact .refl _
theorem xi(l:List Cd)(hl:Cy l):A1 Tryz.prog 94 [sl AU l] (Ak [] Af) fun r h'=>r=.slice (.id 2000 10) (l.map AU)∧h'=Ak [(2000,.tok 10 (l.map AU).length)] Af:=by
 refine BW (KV (plT 10)) [(2,2000)] rfl Co hm rfl Tryz.func94 Wk rfl (Nz rfl) Wk rfl ?_;have GQ:Cf 10 (l.map AU)∧([]:List (List AV)).length=0∧(([]:List (List AV)).length+(l.map AU).length)*128≤140737488355328∧([]:List (List AV)).length+(l.map AU).length≤9223372036854775807:=by
  refine⟨DW (enc:=AU) (n:=10) (fun _=>rfl) l,rfl,?_,?_⟩<;>simp only[Ax,Lm]<;>unfold Cy at hl<;>omega
 have e2:HO.tok 10 (([]:List (List AV)).length+(l.map AU).length)=.tok 10 (l.map AU).length:=by rw[Ax,Bi]
 have e3:AV.slice (.id 2000 10) ([]++l.map AU)=.slice (.id 2000 10) (l.map AU):=rfl;have full:∀st:St,(∃s:LS,St.le (KV (plT 10)) st s∧True)→True:=fun _ _=>trivial;refine Xi 0 (Xi 0 (Yi ?_ ?_))
 ·intro _;refine cU [(0,sl AU l)] [] Z1 Tv (Xi 2 (Yi GQ ?_));exact Xi _ (Yi (.refl _) (Yi e3 (Ab (fun o=>Ak [(2000,o)] Af) e2)))
 ·intro h;have h:l.map AU=[]:=h;refine Yi ?_ ?_
  ·refine Xi ⟨[],[],Af⟩ (Yi ⟨trivial,trivial,fun _=>.inl rfl,Bo Wk⟩ ?_);refine Xi 0 ?_;exact Xi _ (Yi (.refl _) (Yi (show AV.slice (.id 2000 10) []=_ by rw[h]) (show Ak [(2000,HO.tok 10 0)] Af=_ by rw[h];rfl)))
  ·refine cU [(0,sl AU l)] [] Z1 Tv (Xi 2 (Yi GQ ?_));exact Xi _ (Yi (.refl _) (Yi e3 (Ab (fun o=>Ak [(2000,o)] Af) e2)))
end Go.Eng
