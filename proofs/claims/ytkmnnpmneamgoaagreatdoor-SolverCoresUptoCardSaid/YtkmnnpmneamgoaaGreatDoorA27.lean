/- Lemmas for the claims of this seat, without a condition: part 27 (R12, R13, R14, R15, R16, R17, R18, R19, S18, R20, R21, R22, R23, R24, C74, R25, R26, R27, R28, R29, R30, R31). -/
import Derived.Test.YtkmnnpmneamgoaaGreatDoorA26
namespace Go.Eng
open Go.Proofs
theorem uO(r:Rl)(hr:Gj r):PC 121 [.agg (AY r)] (vi (De r)):=by
 have h1:=gw r.path hr.1;have h2:=u7 r.ver;have h3:=zh gw kS r.reqs hr.2;have h4:=nV r.arch;have h5:=nV r.ifc;have h6:=nV r.cert;obtain⟨N,hN⟩:∃N,N=De r:=⟨_,rfl⟩;rw[←hN];refine Ps EP Tryz.func121 rfl (Nz rfl) ?_;refine Xi .pure (Xi _ (Yi (h1) ?_));refine Yi (fun h=>?_) (fun h=>?_)
 ·have h:Qd r.path<0:=h;exact .of_eq (Ac vi (show(4:Int)=N by
   have e:=(O5 r.path).1 h;rw[hN];unfold De;cases hp:By r.path with
   |none=>rfl
   |some m=>rw[hp]at e;cases e))
 have h:¬Qd r.path<0:=h;refine Bb (show ∃m,By r.path=some m by
  cases hp:By r.path with
  |none=>exact absurd ((O5 r.path).2 (by rw[hp];rfl)) h
  |some m=>exact⟨m,rfl⟩) (fun m hp=>?_)
 have em:Qd r.path=m:=by unfold Qd;rw[hp]
 have hN:N=if !CJ r.ver||!decide (r.ver.a=m)then 2 else if Bn r.reqs≠0 then Bn r.reqs else if DS r.arch&&DS r.ifc&&DS r.cert then 0 else 1:=by
  rw[hN];unfold De;rw[hp]
 refine Yi (Nz rfl) ?_;refine BO (Bt (CJ r.ver)).symm (fun e=>?_) (fun e=>?_)
 ·rw[e]at h2;refine Xi .pure (Xi _ (Yi (h2) ?_));exact .of_eq (Ac vi (show(2:Int)=N by rw[hN,e];rfl))
 rw[e]at h2;refine Xi .pure (Xi _ (Yi (h2) ?_));refine Yi (fun h7=>?_) (fun h7=>?_)
 ·have h7:r.ver.a≠Qd r.path:=h7;exact .of_eq (Ac vi (show(2:Int)=N by rw[hN,e,Au (by rw[←em];exact h7)];rfl))
 have h7:¬r.ver.a≠Qd r.path:=h7;have hN:N=if Bn r.reqs≠0 then Bn r.reqs else if DS r.arch&&DS r.ifc&&DS r.cert then 0 else 1:=by
  rw[hN,e,Av (by rw[←em];exact BR.1 h7)];rfl
 refine Xi .pure (Xi _ (Yi (h3) ?_));refine Yi (fun h8=>?_) (fun h8=>?_)
 ·have h8:Bn r.reqs≠0:=h8;exact .of_eq (Ac vi (show Bn r.reqs=N by rw[hN,Ax h8]))
 have h8:¬Bn r.reqs≠0:=h8;have hN:N=if DS r.arch&&DS r.ifc&&DS r.cert then 0 else 1:=by rw[hN,Aq h8]
 refine BO (Bt (DS r.arch)).symm (fun e1=>?_) (fun e1=>?_)
 ·rw[e1]at h4;refine Xi .pure (Xi _ (Yi (h4) ?_));exact .of_eq (Ac vi (show(1:Int)=N by rw[hN,e1];rfl))
 rw[e1]at h4;refine Xi .pure (Xi _ (Yi (h4) ?_));refine BO (Bt (DS r.ifc)).symm (fun e2=>?_) (fun e2=>?_)
 ·rw[e2]at h5;refine Xi .pure (Xi _ (Yi (h5) ?_));exact .of_eq (Ac vi (show(1:Int)=N by rw[hN,e1,e2];rfl))
 rw[e2]at h5;refine Xi .pure (Xi _ (Yi (h5) ?_));refine BO (Bt (DS r.cert)).symm (fun e3=>?_) (fun e3=>?_)
 ·rw[e3]at h6;refine Xi .pure (Xi _ (Yi (h6) ?_));exact .of_eq (Ac vi (show(1:Int)=N by rw[hN,e1,e2,e3];rfl))
 rw[e3]at h6;refine Xi .pure (Xi _ (Yi (h6) ?_));exact .of_eq (Ac vi (show(0:Int)=N by rw[hN,e1,e2,e3];rfl))
end Go.Eng

namespace Go.Eng
open Go.Proofs
theorem Xv{a b:Rl}(h:FF a=FF b):IA a b=0:=by
 obtain⟨h1,h2,h3,h4⟩:=Vt h;unfold IA LY I8 FD;rw[h1,h2,h3,h4,DY];simp
theorem zg(x:List Rl)(ifs:List (List AV))(hs:∀r∈x,Gj r):PC 71 [L6 x ifs] (vi (Ba x)):=by
 refine Ps (Ia [4,6,8,10,12]) Tryz.func71 rfl (Nz rfl) ?_;refine Bb (show ∃N,N=Ba x from⟨_,rfl⟩) (fun N hN=>?_);refine Yi (fun h=>?_) (fun h=>?_)
 ·have h:(256:Int)<(x.map AY).length:=h;exact .of_eq (Ac vi (show(7:Int)=Ba x by unfold Ba;rw[Ax (by rw[Lm]at h;omega)]))
 have h:¬(256:Int)<(x.map AY).length:=h;have hl:x.length≤256:=by rw[Lm]at h;omega
 have Ok:Ba x=Dd none x:=by unfold Ba;rw[Aq (by omega)]
 refine Xi ⟨[(3,sl AY x)],[],Aa⟩ (Yi ⟨Z1,Tv,Fh,Tv⟩ ?_)
 refine Xi {i:Nat // i≤x.length∧Dd none x=Dd (Wf x i) (x.drop i)} (Xi (fun i=>⟨[(3,sl AY x),(4,vi i.1)],[],Aa⟩) (Xi (fun i=>x.length-i.1) (Yi (Xi ⟨0,AL _,rfl⟩ ?_) ?_)))
 ·exact⟨Z2,Tv,Fh,Tv⟩
 intro⟨i,h1,h2⟩;refine Yi (fun h=>?_) (fun h=>?_)
 ·skip
  have h:(i:Int)<(x.map AY).length:=h;have h:i<x.length:=by simpa using h
  have hg:x[i]?=some x[i]:=Ge h;have hd:x.drop i=x[i]::x.drop (i+1):=Bl h;have hc:=uO x[i] (hs x[i] (Am h));have GY:Dd none x=if De x[i]≠0 then De x[i]else match Wf x i with
   |none=>Dd (some x[i]) (x.drop (i+1))
   |some b=>if FF b=FF x[i]then 5 else if 0<IA b x[i]then 1 else Dd (some x[i]) (x.drop (i+1)):=by rw[h2,hd];rfl
  have X8:Wf x (i+1)=some x[i]:=Ge h;refine Xi (AY x[i]) (Yi (Yi (Nn i) (by simp[hg])) (Yi rfl ?_));refine Yi (Nz rfl) ?_;refine Xi .pure (Xi _ (Yi (hc) ?_));refine Xi ⟨[(3,sl AY x),(4,vi i),(5,vi (De x[i]))],[],Aa⟩ (Yi ⟨Z3,Tv,Fh,Tv⟩ ?_)
  refine Yi (fun h3=>?_) (fun h3=>?_)
  ·have h3:De x[i]≠0:=h3;exact .of_eq (Ac vi (show De x[i]=Ba x by rw[Ok,GY,Ax h3]))
  have h3:¬De x[i]≠0:=h3;rw[Aq h3]at GY;refine Xi ⟨[(3,sl AY x),(4,vi i)],[],Aa⟩ (Yi ⟨Z2,Tv,Fh,Tv⟩ ?_)
  refine Yi (fun h4=>?_) (fun h4=>?_)
  ·have h4:(0:Int)<i:=h4;have hk:i-1<x.length:=by omega
   have RP:x[i-1]?=some x[i-1]:=Ge hk;have hn:((i:Int)-1).toNat=i-1:=by omega
   have hb:Wf x i=some x[i-1]:=by
    cases i with
    |zero=>omega
    |succ k=>exact RP
   rw[hb]at GY;have GY:Dd none x=if FF x[i-1]=FF x[i]then 5 else if 0<IA x[i-1] x[i]then 1 else Dd (some x[i]) (x.drop (i+1)):=GY
   have XV:=uP x[i-1] x[i];have RA:(0:Int)≤(i:Int)-1∧(x.map AY)[((i:Int)-1).toNat]?=some (AY x[i-1]):=⟨by omega,by rw[hn];exact Cg RP⟩;refine Yi (show A9 ((i:Int)-1) by unfold A9;omega) ?_;refine Xi (AY x[i-1]) (Yi RA (Yi rfl ?_));refine Yi (Nz rfl) ?_;refine Xi (AY x[i]) (Yi (Yi (Nn i) (by simp[hg])) (Yi rfl ?_));refine Yi (Nz rfl) ?_;refine Xi _ (Yi (XV) ?_);refine Yi (fun h5=>?_) (fun h5=>?_)
   ·have h5:IA x[i-1] x[i]=0:=h5;refine Yi (by kernel_rfl) ?_;exact .of_eq (Ac vi (show(5:Int)=Ba x by rw[Ok,GY,Ax (Va h5)]))
   have h5:¬IA x[i-1] x[i]=0:=h5;refine Yi (by kernel_rfl) ?_;refine Xi ⟨[(3,sl AY x),(4,vi i)],[],Aa⟩ (Yi ⟨Z2,Tv,Fh,Tv⟩ ?_)
   refine Yi (fun _=>?_) (fun h9=>absurd h4 h9);refine Yi (show A9 ((i:Int)-1) by unfold A9;omega) ?_;refine Xi (AY x[i-1]) (Yi RA (Yi rfl ?_));refine Yi (Nz rfl) ?_;refine Xi (AY x[i]) (Yi (Yi (Nn i) (by simp[hg])) (Yi rfl ?_));refine Yi (Nz rfl) ?_;refine Xi _ (Yi (XV) ?_);refine Yi (fun h6=>?_) (fun h6=>?_)
   ·have h6:0<IA x[i-1] x[i]:=h6;refine Yi (by kernel_rfl) ?_;exact .of_eq (Ac vi (show(1:Int)=Ba x by rw[Ok,GY,Aq (fun e=>h5 (Xv e)),Ax h6]))
   have h6:¬0<IA x[i-1] x[i]:=h6;refine Yi (by kernel_rfl) ?_;refine Xi ⟨[(3,sl AY x),(4,vi i)],[],Aa⟩ (Yi ⟨Z2,Tv,Fh,Tv⟩ ?_)
   refine Yi (Ii i (by omega)) ?_;refine Xi ⟨i+1,by omega,by rw[GY,Aq (fun e=>h5 (Xv e)),Aq h6,X8]⟩ ?_;exact⟨Dl x.length i (by omega),Z2,Tv,Fh,Tv⟩
  have h4:¬(0:Int)<i:=h4;have hb:Wf x i=none:=by
   rw[show i=0 by omega]
  rw[hb]at GY;have GY:Dd none x=Dd (some x[i]) (x.drop (i+1)):=GY;refine Yi (by kernel_rfl) ?_;refine Xi ⟨[(3,sl AY x),(4,vi i)],[],Aa⟩ (Yi ⟨Z2,Tv,Fh,Tv⟩ ?_)
  refine Yi (fun h9=>absurd h9 h4) (fun _=>?_);refine Yi (by kernel_rfl) ?_;refine Xi ⟨[(3,sl AY x),(4,vi i)],[],Aa⟩ (Yi ⟨Z2,Tv,Fh,Tv⟩ ?_)
  refine Yi (Ii i (by omega)) ?_;refine Xi ⟨i+1,by omega,by rw[GY,X8]⟩ ?_;exact⟨Dl x.length i (by omega),Z2,Tv,Fh,Tv⟩
 ·skip
  have h:¬(i:Int)<(x.map AY).length:=h;have h:¬i<x.length:=by simpa using h
  have e:(0:Int)=Ba x:=by rw[Ok,h2,Hv (by omega)];rfl
  exact .of_eq (Ac vi e)
end Go.Eng

namespace Go.Eng
open Go.Proofs
end Go.Eng

namespace Go.Eng
open Go.Proofs
end Go.Eng

namespace Go.Eng
open Go.Proofs
end Go.Eng

namespace Go.Eng
open Go.Proofs
end Go.Eng

namespace Go.Eng
open Go.Proofs
end Go.Eng

namespace Go.Eng
open Go.Proofs
def bi(p:ByteArray)(r:Rl):Bool:=decide (r.path=p)&&!r.yanked
def tM(r:Rl):Int×Int:=(plc r.ver,plc r.ver+1)
theorem cl{x:List Rl}{p:ByteArray}(h:Ba x=0):Cf x p=canon ((x.filter (bi p)).map tM):=by
 unfold Cf Kn;rw[Aq (not_not_intro h),List.filter_filter]
 congr 3
 funext r
 unfold bi;rw[Bool.and_comm]
end Go.Eng

namespace Go.Eng
open Go.Proofs
theorem Zj{x:List Rl}(h0:Ba x=0){p:ByteArray}(h:p∉AP (yR x) []):Cf x p=[]:=by
 rw[cl h0]
 have:x.filter (bi p)=[]:=by
  rw[Hw];intro r hr hc;unfold bi at hc;rw[Af,AD]at hc;exact h ((Hs _ _ _).2 (.inr ⟨r,BM.2 ⟨hr,hc.2⟩,hc.1⟩))
 rw[this];rfl
theorem f7{x:List Rl}{roots:List Rq}(hx:∀r∈x,Gj r)(hr:∀q∈roots,H4 q)(h0:Ba x=0)(h1:Bn roots=0){l:List ByteArray}(hl:l.Perm (AP (yR x) [])):qw x roots (mC x) (l.map (kA x)) where
 hx:=h0
 hr:=h1
 fx:=hx
 fr:=hr
 c1:=sP x
 c2:=sQ x
 c3:=sR x
 av p:=by
  by_cases hp:p∈l
  ·exact⟨sl Ae (Cf x p),fun a ha=>(WJ.1 ha).2,fun hn=>(hn _ (WJ.2 ⟨hp,rfl⟩)).elim,fun h=>qV p (Cf x p) (Sw x p)⟩
  ·refine⟨.v (.slice none 0 0),fun a ha=>(hp (WJ.1 ha).1).elim,fun _=>rfl,fun h=>?_⟩;have e:=Zj h0 (fun hc=>hp (hl.mem_iff.2 hc));have hc:=qV p (Cf x p) (Sw x p);rw[e]at hc⊢;exact LG.args hc ⟨.refl _,.nil,trivial⟩
end Go.Eng

namespace Go.Eng
open Go.Proofs
end Go.Eng

namespace Go.Eng
open Go.Proofs
end Go.Eng

namespace Go.Eng
open Go.Proofs

end Go.Eng

namespace Go.Eng
open Go.Proofs
theorem dP{α:Type}(o:Option α):(∃x,o=some x)∨o=none:=by
 cases o with
 |none=>exact .inr rfl
 |some x=>exact .inl ⟨x,rfl⟩
end Go.Eng

namespace Go.Eng
open Go.Proofs
section
variable {x:List Rl}{roots:List Rq}{d:List (List Tm)}{i:Nf}
end
end Go.Eng

namespace Go.Eng
open Go.Proofs
end Go.Eng

namespace Go.Eng
open Go.Proofs
end Go.Eng

namespace Go.Eng
open Go.Proofs
theorem We{cx:Cx}{c:Code}{Q:Ex→St→Prop}{s s' : LS}(h:s=s')(hk:MK cx c Q s'.st):MK cx c Q s.st:=by subst h;exact hk
theorem bc{x:List Rl}{p:ByteArray}{v:Ver}(h:Ba x=0):FR x ⟨p,v⟩=x.find? fun r=>decide (FF r=⟨p,v⟩):=Aq (not_not_intro h)
theorem O2{r:Rl}{p:ByteArray}{v:Ver}:FF r=⟨p,v⟩↔r.path=p∧r.ver.a=v.a∧r.ver.b=v.b∧r.ver.c=v.c:=by
 unfold FF;constructor
 ·intro h;cases h;exact⟨rfl,rfl,rfl,rfl⟩
 ·rintro⟨rfl,h1,h2,h3⟩
  cases hr:r.ver;cases v
  rw[hr]at h1 h2 h3;cases h1;cases h2;cases h3;rfl
def Hj(x:List Rl)(y:Sl):List Rq:=match FR x y with | some r=>r.reqs | none=>[]
def EH(x:List Rl)(roots:List Rq)(l:List Sl):List Rq:=roots++(l.map (Hj x)).flatten
theorem ae(x:List Rl)(roots:List Rq):EH x roots []=roots:=by unfold EH;simp
theorem ab(x:List Rl)(roots:List Rq)(l:List Sl)(y:Sl):EH x roots (l++[y])=EH x roots l++Hj x y:=by unfold EH;simp
theorem Rj(x:List Rl)(roots:List Rq)(l:List Sl){i:Nat}(h:i<l.length):EH x roots (l.take (i+1))=EH x roots (l.take i)++Hj x l[i]:=by
 rw[Bd,Ge h];exact ab ..
theorem T4{x:List Rl}(y:Sl):(Hj x y).length≤16:=by
 unfold Hj;split
 ·rename_i r hr;exact(Ls (Ji hr).1).2 r (Ji hr).2.1
 ·simp
theorem N4(x:List Rl)(roots:List Rq):∀l:List Sl,(EH x roots l).length≤roots.length+16*l.length:=fun l=>by
 unfold EH;rw[Ad]
 have:∀l:List Sl,((l.map (Hj x)).flatten).length≤16*l.length:=fun l=>by
  induction l with
  |nil=>simp
  |cons y l ih =>
   rw[AN,Bu,Ad,Aj]
   have:=T4 (x:=x) y
   omega
 have:=this l
 omega
theorem ac{x:List Rl}{roots:List Rq}(hx:∀r∈x,Gj r)(hr:∀q∈roots,CL q.set)(l:List Sl):∀q∈EH x roots l,CL q.set:=fun q hq=>by
 unfold EH at hq;rcases A4.1 hq with hq | hq
 ·exact hr q hq
 ·obtain⟨m,hm,ug⟩:=Ff.1 hq;obtain⟨y,_,rfl⟩:=Ar.1 hm;unfold Hj at ug;split at ug
  ·rename_i r gX;exact((hx r (Ji gX).2.1).2 q ug).1
  ·cases ug
set_option maxHeartbeats 4000000 in
theorem zj(x:List Rl)(ifs:List (List AV))(p:ByteArray)(v:Ver)(hx:∀r∈x,Gj r)(NY:CL x):PC 105 [.agg (Ic x ifs),vs p,.agg (Gl v)] (YL (FR x ⟨p,v⟩)):=by
 have NY:x.length≤1073741824:=NY;refine Ps ⟨[],[],[],[],[],[],[],[],[],[],[3,5,7]⟩ Tryz.func105 rfl (Nz rfl) ?_;refine Yi (Nz rfl) ?_;refine Xi .pure (Xi _ (Yi (zg x ifs hx) ?_));refine Yi (fun h1=>?_) (fun h1=>?_)
 ·have h1:(Ba x:Int)≠(0:Int):=h1;refine Yi (Nz rfl) ?_;refine Yi (Nz rfl) ?_;exact .of_eq (show AV.tup [.agg y7,vb false]=YL (FR x ⟨p,v⟩) by rw[show FR x ⟨p,v⟩=none from Ax h1])
 have h1:(Ba x:Int)=(0:Int):=Ch h1;refine Xi ⟨[(1,vs p),(3,.ref 3 0),(5,.ref 5 0),(6,.ref 6 0)],[(3,.cells (Ic x ifs)),(5,.cells (Gl v)),(6,.cells [vs ⟨#[]⟩,vi 0,vi 0,vi 0,.v (.slice none 0 0),vs ⟨#[]⟩,vs ⟨#[]⟩,vs ⟨#[]⟩,vb false])],Aa⟩ (Yi ⟨Z4,Z3,Fh,Tv⟩ ?_)
 refine Xi {i:Nat // i≤x.length∧∀j (h:j<x.length),j<i→decide (FF x[j]=⟨p,v⟩)=false} (Xi (fun q=>⟨[(1,vs p),(3,.ref 3 0),(5,.ref 5 0),(6,.ref 6 0),(8,vi q.1)],[(3,.cells (Ic x ifs)),(5,.cells (Gl v)),(6,.cells [vs ⟨#[]⟩,vi 0,vi 0,vi 0,.v (.slice none 0 0),vs ⟨#[]⟩,vs ⟨#[]⟩,vs ⟨#[]⟩,vb false])],Aa⟩) (Xi (fun q=>x.length-q.1) (Yi (Xi ⟨0,AL _,fun j _ h=>by omega⟩ ?_) ?_)))
 ·exact⟨Z5,Z3,Fh,Tv⟩
 intro⟨i,i1,i2⟩;refine Yi (fun h3=>?_) (fun h3=>?_)
 ·have h3:(i:Int)<((x.map AY).length:Int):=h3;have n3:i<x.length:=by have q:=h3;rw[Lm]at q;omega
  have g3:x[i]?=some x[i]:=Ge n3;refine Xi (AY x[i]) (Yi (Yi (Nn i) (Cg g3)) (Yi rfl ?_));refine Yi (fun h4=>?_) (fun h4=>?_)
  ·have h4:(x[i].path:ByteArray)=p:=h4;refine Xi (AY x[i]) (Yi (Yi (Nn i) (Cg g3)) (Yi rfl ?_));refine Yi (Nz rfl) ?_;refine Yi (Nz rfl) ?_;refine Yi (fun h5=>?_) (fun h5=>?_)
   ·have h5:(x[i].ver.a:Int)=v.a∧(x[i].ver.b:Int)=v.b∧(x[i].ver.c:Int)=v.c∧True:=h5;refine Yi (by kernel_rfl) ?_;refine Xi ⟨[(3,.ref 3 0),(6,.ref 6 0),(8,vi i)],[(3,.cells (Ic x ifs)),(6,.cells [vs ⟨#[]⟩,vi 0,vi 0,vi 0,.v (.slice none 0 0),vs ⟨#[]⟩,vs ⟨#[]⟩,vs ⟨#[]⟩,vb false])],Aa⟩ (Yi ⟨Z3,Z2,Fh,Tv⟩ ?_)
    refine Xi (AY x[i]) (Yi (Yi (Nn i) (Cg g3)) (Yi rfl ?_));refine Yi (Nz rfl) ?_;refine Yi (Nz rfl) ?_;refine Yi (Nz rfl) ?_;exact .of_eq (show AV.tup [.agg (AY x[i]),vb true]=YL (FR x ⟨p,v⟩) by rw[bc h1,ga n3 i2 (Av (O2.2 ⟨h4,h5.1,h5.2.1,h5.2.2.1⟩))])
   have h5:¬((x[i].ver.a:Int)=v.a∧(x[i].ver.b:Int)=v.b∧(x[i].ver.c:Int)=v.c∧True):=h5;refine Yi (by kernel_rfl) ?_;refine Xi ⟨[(1,vs p),(3,.ref 3 0),(5,.ref 5 0),(6,.ref 6 0),(8,vi i)],[(3,.cells (Ic x ifs)),(5,.cells (Gl v)),(6,.cells [vs ⟨#[]⟩,vi 0,vi 0,vi 0,.v (.slice none 0 0),vs ⟨#[]⟩,vs ⟨#[]⟩,vs ⟨#[]⟩,vb false])],Aa⟩ (Yi ⟨Z5,Z3,Fh,Tv⟩ ?_)
   refine Yi (Ii i (by omega)) ?_;refine Xi ⟨i+1,by omega,fun j hj IL=>(BZ j i).elim (i2 j hj) (fun z=>by have e:j=i:=(by omega);subst e;exact Au (fun h=>h5 ⟨(O2.1 h).2.1,(O2.1 h).2.2.1,(O2.1 h).2.2.2,trivial⟩))⟩ ?_;exact⟨Dl x.length i (by omega),Z5,Z3,Fh,Tv⟩
  have h4:¬(x[i].path:ByteArray)=p:=h4;refine Yi (by kernel_rfl) ?_;refine Xi ⟨[(1,vs p),(3,.ref 3 0),(5,.ref 5 0),(6,.ref 6 0),(8,vi i)],[(3,.cells (Ic x ifs)),(5,.cells (Gl v)),(6,.cells [vs ⟨#[]⟩,vi 0,vi 0,vi 0,.v (.slice none 0 0),vs ⟨#[]⟩,vs ⟨#[]⟩,vs ⟨#[]⟩,vb false])],Aa⟩ (Yi ⟨Z5,Z3,Fh,Tv⟩ ?_)
  refine Yi (Ii i (by omega)) ?_;refine Xi ⟨i+1,by omega,fun j hj IL=>(BZ j i).elim (i2 j hj) (fun z=>by have e:j=i:=(by omega);subst e;exact Au (fun h=>h4 (O2.1 h).1))⟩ ?_;exact⟨Dl x.length i (by omega),Z5,Z3,Fh,Tv⟩
 have h3:¬((i:Int)<((x.map AY).length:Int)):=h3;have n3:¬i<x.length:=by have q:=h3;rw[Lm]at q;omega
 refine Yi (Nz rfl) ?_;refine Yi (Nz rfl) ?_;exact .of_eq (show AV.tup [.agg y7,vb false]=YL (FR x ⟨p,v⟩) by rw[bc h1,cJ fun j hj=>i2 j hj (by omega)])
set_option maxHeartbeats 4000000 in
theorem qQ(x:List Rl)(ifs:List (List AV))(roots:List Rq)(s:List Sl)(hx:∀r∈x,Gj r)(NY:CL x)(hrl:roots.length≤1000000)(hs:s.length≤1000000):PC 126 [.agg (Ic x ifs),sl Al roots,sl Ak s] (sl Al (EH x roots s)):=by
 have rc:∀(p:ByteArray) (v:Ver),PC 105 [L6 x ifs,vs p,.agg (Gl v)] (YL (FR x ⟨p,v⟩)):=fun p v=>zj x ifs p v hx NY;refine Ps ⟨[],[],[],[],[],[],[],[],[],[],[6]⟩ Tryz.func126 rfl (Nz rfl) ?_;have b1:BW 2 (roots.map Al)∧([]:List (List AV)).length=0∧(([]:List (List AV)).length+(roots.map Al).length)*40≤140737488355328∧([]:List (List AV)).length+(roots.map Al).length≤9223372036854775807:=⟨(Du (enc:=Al) (n:=2) (fun _=>rfl) roots),(by simp),(by simp only[Lm,Ah];omega),(by simp only[Lm,Ah];omega)⟩;refine Yi b1 ?_;refine Xi {q:Nat×List Rq // q.1≤s.length∧q.2=EH x roots (s.take q.1)} (Xi (fun q=>⟨[(2,sl Ak s),(3,.ref 3 0),(7,.slice (.id 11 2) (q.1.2.map Al)),(8,vi q.1.1)],[(3,.cells (Ic x ifs)),(11,.tok 2 q.1.2.length)],Aa⟩) (Xi (fun q=>s.length-q.1.1) (Yi (Xi ⟨(0,roots),AL _,(ae x roots).symm⟩ ?_) ?_)))
 ·exact⟨⟨Zr,Zr,⟨(show AV.slice (.id 11 2) ([]++roots.map Al)=.slice (.id 11 2) (roots.map Al) by rw[DL]),rfl⟩,Zr,Tv⟩,⟨Zr,⟨(show HO.tok 2 (([]:List (List AV)).length+(roots.map Al).length)=.tok 2 roots.length by rw[Lm,Ah,Be]),rfl⟩,Tv⟩,Fh,Tv⟩
 intro⟨⟨i,A⟩,i1,i2⟩;have i1:i≤s.length:=i1;have i2:A=EH x roots (s.take i):=i2;have hA:A.length≤roots.length+16*i:=by
  have:=N4 x roots (s.take i)
  rw[AG]at this;rw[i2];omega
 refine Yi (fun h2=>?_) (fun h2=>?_)
 ·have h2:(i:Int)<((s.map Ak).length:Int):=h2;have n2:i<s.length:=by have q:=h2;rw[Lm]at q;omega
  have g2:s[i]?=some s[i]:=Ge n2;refine Yi (Nz rfl) ?_;refine Xi (Ak s[i]) (Yi (Yi (Nn i) (Cg g2)) (Yi rfl ?_));refine Xi (Ak s[i]) (Yi (Yi (Nn i) (Cg g2)) (Yi rfl ?_));refine Yi (Nz rfl) ?_;refine BO (dP (FR x ⟨s[i].path,s[i].ver⟩)) (fun h3=>?_) (fun h3=>?_)
  ·refine Bb h3 (fun r h3=>?_);have gG:=rc s[i].path s[i].ver;rw[h3]at gG;have qj:=T4 (x:=x) s[i];rw[show Hj x s[i]=r.reqs by unfold Hj;rw[show FR x s[i]=some r from h3]]at qj;refine Xi _ (Yi gG ?_);refine Yi (Nz rfl) ?_;refine Yi (by kernel_rfl) ?_;refine Xi ⟨[(2,sl Ak s),(3,.ref 3 0),(7,.slice (.id 11 2) (A.map Al)),(8,vi i),(9,.ref 9 0)],[(3,.cells (Ic x ifs)),(9,.cells (AY r)),(11,.tok 2 A.length)],Aa⟩ (Yi ⟨Z5,Z3,Fh,Tv⟩ ?_)
   have b4:BW 2 (r.reqs.map Al)∧(A.map Al).length=A.length∧((A.map Al).length+(r.reqs.map Al).length)*40≤140737488355328∧(A.map Al).length+(r.reqs.map Al).length≤9223372036854775807:=⟨(Du (enc:=Al) (n:=2) (fun _=>rfl) r.reqs),(by simp),(by simp only[Lm];omega),(by simp only[Lm];omega)⟩;refine Yi b4 ?_;refine Yi (Ii i (by omega)) ?_;refine Xi ⟨(i+1,A++r.reqs),by omega,by show A++r.reqs=EH x roots (s.take (i+1));rw[Rj x roots s n2,←i2,show Hj x s[i]=r.reqs by unfold Hj;rw[show FR x s[i]=some r from h3]]⟩ ?_;exact⟨Dl s.length i (by omega),⟨Zr,Zr,⟨(show AV.slice (.id 11 2) (A.map Al++r.reqs.map Al)=.slice (.id 11 2) ((A++r.reqs).map Al) by simp),rfl⟩,Zr,Tv⟩,⟨Zr,⟨(show HO.tok 2 ((A.map Al).length+(r.reqs.map Al:List (List AV)).length)=.tok 2 (A++r.reqs).length by simp),rfl⟩,Tv⟩,Fh,Tv⟩
  have gG:=rc s[i].path s[i].ver;rw[h3]at gG;refine Xi _ (Yi gG ?_);refine Yi (Nz rfl) ?_;refine Yi (by kernel_rfl) ?_;refine Xi ⟨[(2,sl Ak s),(3,.ref 3 0),(7,.slice (.id 11 2) (A.map Al)),(8,vi i),(9,.ref 9 0)],[(3,.cells (Ic x ifs)),(9,.cells [vs ⟨#[]⟩,vi 0,vi 0,vi 0,.v (.slice none 0 0),vs ⟨#[]⟩,vs ⟨#[]⟩,vs ⟨#[]⟩,vb false]),(11,.tok 2 A.length)],Aa⟩ (Yi ⟨Z5,Z3,Fh,Tv⟩ ?_)
  have b6:BW 2 []∧(A.map Al).length=A.length∧((A.map Al).length+([]:List (List AV)).length)*40≤140737488355328∧(A.map Al).length+([]:List (List AV)).length≤9223372036854775807:=⟨trivial,(by simp),(by simp only[Lm,Ah];omega),(by simp only[Lm,Ah];omega)⟩;refine Yi b6 ?_;refine Yi (Ii i (by omega)) ?_;refine Xi ⟨(i+1,A++([]:List Rq)),by omega,by show A++([]:List Rq)=EH x roots (s.take (i+1));rw[Rj x roots s n2,←i2,show Hj x s[i]=([]:List Rq) by unfold Hj;rw[show FR x s[i]=none from h3]]⟩ ?_;exact⟨Dl s.length i (by omega),⟨Zr,Zr,⟨(show AV.slice (.id 11 2) (A.map Al++[])=.slice (.id 11 2) ((A++([]:List Rq)).map Al) by simp),rfl⟩,Zr,Tv⟩,⟨Zr,⟨(show HO.tok 2 ((A.map Al).length+([]:List (List AV)).length)=.tok 2 (A++([]:List Rq)).length by simp),rfl⟩,Tv⟩,Fh,Tv⟩
 have h2:¬((i:Int)<((s.map Ak).length:Int)):=h2;have n2:¬i<s.length:=by have q:=h2;rw[Lm]at q;omega
 exact .of_eq (Ac (sl Al) (show A=EH x roots s by rw[i2,AC (by omega)]))
theorem OX(s:List Sl)(p:ByteArray):Cv s p=(BD s p).isSome:=by unfold Cv BD;rw[List.isSome_find?]
section
variable {s:List Sl}{q:Rq}{o:Option ByteArray}
theorem YC(h:(BD s q.path).isSome=true):HU s o q=o:=by unfold HU;rw[OX,Ax h]
theorem iL(h:(BD s q.path).isSome=false)(ho:o.isSome=false):HU s o q=some q.path:=by
 unfold HU;rw[OX,Aq (by rw[h];decide)];cases o with | none=>rfl | some p=>cases ho
theorem dF(h:(BD s q.path).isSome=false)(ho:o.isSome=true)(hb:EN q.path (o.getD mt)=true):HU s o q=some q.path:=by
 unfold HU;rw[OX,Aq (by rw[h];decide)];cases o with | none=>cases ho | some p=>exact Ax hb
theorem dG(h:(BD s q.path).isSome=false)(ho:o.isSome=true)(hb:EN q.path (o.getD mt)=false):HU s o q=o:=by
 unfold HU;rw[OX,Aq (by rw[h];decide)];cases o with | none=>cases ho | some p=>exact Aq (by rw[show EN q.path p=false from hb];decide)
end
abbrev Pb(N:List Rq)(s:List Sl):AV:=.tup [vs ((HT N s).getD mt),vb (HT N s).isSome]
set_option maxHeartbeats 4000000 in
theorem tT(x:List Rl)(ifs:List (List AV))(roots:List Rq)(s:List Sl)(hx:∀r∈x,Gj r)(NY:CL x)(hrl:roots.length≤1000000)(hs:s.length≤1000000):PC 73 [.agg (Ic x ifs),sl Al roots,sl Ak s] (Pb (EH x roots s) s):=by
 obtain⟨N,hN⟩:∃N,N=EH x roots s:=⟨_,rfl⟩;have gx:=qQ x ifs roots s hx NY hrl hs;have oA:=N4 x roots s;rw[←hN]at gx oA⊢;have uj:CL s:=by unfold CL;omega
 refine Ps ⟨[],[],[],[],[],[],[],[],[],[],[2,5,7,8]⟩ Tryz.func73 rfl (Nz rfl) ?_;refine Yi (Nz rfl) ?_;refine Xi .pure (Xi _ (Yi gx ?_));refine Xi ⟨[(2,sl Ak s),(8,sl Al N)],[],Aa⟩ (Yi ⟨Z2,Tv,Fh,Tv⟩ ?_)
 refine Xi {q:Nat×Option ByteArray // q.1≤N.length∧q.2=CC s (N.take q.1) none} (Xi (fun q=>⟨[(2,sl Ak s),(8,sl Al N),(9,vs (q.1.2.getD mt)),(10,vb q.1.2.isSome),(11,vi q.1.1)],[],Aa⟩) (Xi (fun q=>N.length-q.1.1) (Yi (Xi ⟨(0,none),AL _,rfl⟩ ?_) ?_)))
 ·exact⟨Z5,Tv,Fh,Tv⟩
 intro⟨⟨i,o⟩,i1,i2⟩;have i1:i≤N.length:=i1;have i2:o=CC s (N.take i) none:=i2;refine BO (Bt o.isSome) (fun h1=>?_) (fun h1=>?_)
 ·have h1:o.isSome=true:=h1;refine We (Ac (fun bb=>(⟨[(2,sl Ak s),(8,sl Al N),(9,vs (o.getD mt)),(10,vb bb),(11,vi i)],[],Aa⟩:LS)) h1) ?_;refine Yi (fun h2=>?_) (fun h2=>?_)
  ·have h2:(i:Int)<((N.map Al).length:Int):=h2;have n2:i<N.length:=by have q:=h2;rw[Lm]at q;omega
   have g2:N[i]?=some N[i]:=Ge n2;refine Xi (Al N[i]) (Yi (Yi (Nn i) (Cg g2)) (Yi rfl ?_));refine BO (Bt (BD s N[i].path).isSome) (fun h3=>?_) (fun h3=>?_)
   ·have h3:(BD s N[i].path).isSome=true:=h3;have XU:=(show PC 127 [sl Ak s,vs N[i].path] (.tup [.agg (Ak ((BD s N[i].path).getD pN)),vb (BD s N[i].path).isSome])from tU s N[i].path uj);rw[show(BD s N[i].path).isSome=true from h3]at XU;refine Xi .pure (Xi _ (Yi XU ?_));refine Yi (Nz rfl) ?_;refine Xi ⟨[(2,sl Ak s),(8,sl Al N),(9,vs (o.getD mt)),(10,vb true),(11,vi i),(13,vb true)],[],Aa⟩ (Yi ⟨Z6,Tv,Fh,Tv⟩ ?_)
    refine Xi ⟨[(2,sl Ak s),(8,sl Al N),(9,vs (o.getD mt)),(10,vb true),(11,vi i)],[],Aa⟩ (Yi ⟨Z5,Tv,Fh,Tv⟩ ?_)
    refine Yi (Ii i (by omega)) ?_;refine Xi ⟨(i+1,o),by omega,by show o=CC s (N.take (i+1)) none;rw[IG s N none n2,←i2];exact(YC h3).symm⟩ ?_;exact⟨Dl N.length i (by omega),⟨Zr,Zr,Zr,⟨(show vb true=vb o.isSome by rw[h1]),rfl⟩,Zr,Tv⟩,Tv,Fh,Tv⟩
   have h3:(BD s N[i].path).isSome=false:=h3;have gJ:=(show PC 127 [sl Ak s,vs N[i].path] (.tup [.agg (Ak ((BD s N[i].path).getD pN)),vb (BD s N[i].path).isSome])from tU s N[i].path uj);rw[show(BD s N[i].path).isSome=false from h3]at gJ;refine Xi .pure (Xi _ (Yi gJ ?_));refine Yi (Nz rfl) ?_;refine Xi ⟨[(2,sl Ak s),(8,sl Al N),(9,vs (o.getD mt)),(10,vb true),(11,vi i),(13,vb false)],[],Aa⟩ (Yi ⟨Z6,Tv,Fh,Tv⟩ ?_)
   refine Xi (Al N[i]) (Yi (Yi (Nn i) (Cg g2)) (Yi rfl ?_));refine Yi (fun h7=>?_) (fun h7=>?_)
   ·have h7:EN N[i].path (o.getD mt)=true:=(Fm _ _).trans h7;refine Xi ⟨[(2,sl Ak s),(8,sl Al N),(11,vi i)],[],Aa⟩ (Yi ⟨Z3,Tv,Fh,Tv⟩ ?_)
    refine Xi (Al N[i]) (Yi (Yi (Nn i) (Cg g2)) (Yi rfl ?_));refine Xi ⟨[(2,sl Ak s),(8,sl Al N),(9,vs N[i].path),(10,vb true),(11,vi i)],[],Aa⟩ (Yi ⟨Z5,Tv,Fh,Tv⟩ ?_)
    refine Yi (Ii i (by omega)) ?_;refine Xi ⟨(i+1,(some N[i].path)),by omega,by show(some N[i].path)=CC s (N.take (i+1)) none;rw[IG s N none n2,←i2];exact(dF h3 h1 h7).symm⟩ ?_;exact⟨Dl N.length i (by omega),Z5,Tv,Fh,Tv⟩
   have h7:EN N[i].path (o.getD mt)=false:=(Fm _ _).trans (AI.2 h7);refine Xi ⟨[(2,sl Ak s),(8,sl Al N),(9,vs (o.getD mt)),(10,vb true),(11,vi i)],[],Aa⟩ (Yi ⟨Z5,Tv,Fh,Tv⟩ ?_)
   refine Yi (Ii i (by omega)) ?_;refine Xi ⟨(i+1,o),by omega,by show o=CC s (N.take (i+1)) none;rw[IG s N none n2,←i2];exact(dG h3 h1 h7).symm⟩ ?_;exact⟨Dl N.length i (by omega),⟨Zr,Zr,Zr,⟨(show vb true=vb o.isSome by rw[h1]),rfl⟩,Zr,Tv⟩,Tv,Fh,Tv⟩
  have h2:¬((i:Int)<((N.map Al).length:Int)):=h2;have n2:¬i<N.length:=by have q:=h2;rw[Lm]at q;omega
  exact .of_eq (show AV.tup [vs (o.getD mt),vb true]=Pb N s by unfold Pb HT;rw[AC (by omega)]at i2;rw[←i2,h1])
 have h1:o.isSome=false:=h1;refine We (Ac (fun bb=>(⟨[(2,sl Ak s),(8,sl Al N),(9,vs (o.getD mt)),(10,vb bb),(11,vi i)],[],Aa⟩:LS)) h1) ?_;refine Yi (fun K8=>?_) (fun K8=>?_)
 ·have K8:(i:Int)<((N.map Al).length:Int):=K8;have n11:i<N.length:=by have q:=K8;rw[Lm]at q;omega
  have g11:N[i]?=some N[i]:=Ge n11;refine Xi (Al N[i]) (Yi (Yi (Nn i) (Cg g11)) (Yi rfl ?_));refine BO (Bt (BD s N[i].path).isSome) (fun kT=>?_) (fun kT=>?_)
  ·have kT:(BD s N[i].path).isSome=true:=kT;have rF:=(show PC 127 [sl Ak s,vs N[i].path] (.tup [.agg (Ak ((BD s N[i].path).getD pN)),vb (BD s N[i].path).isSome])from tU s N[i].path uj);rw[show(BD s N[i].path).isSome=true from kT]at rF;refine Xi .pure (Xi _ (Yi rF ?_));refine Yi (Nz rfl) ?_;refine Xi ⟨[(2,sl Ak s),(8,sl Al N),(9,vs (o.getD mt)),(10,vb false),(11,vi i),(13,vb true)],[],Aa⟩ (Yi ⟨Z6,Tv,Fh,Tv⟩ ?_)
   refine Xi ⟨[(2,sl Ak s),(8,sl Al N),(9,vs (o.getD mt)),(10,vb false),(11,vi i)],[],Aa⟩ (Yi ⟨Z5,Tv,Fh,Tv⟩ ?_)
   refine Yi (Ii i (by omega)) ?_;refine Xi ⟨(i+1,o),by omega,by show o=CC s (N.take (i+1)) none;rw[IG s N none n11,←i2];exact(YC kT).symm⟩ ?_;exact⟨Dl N.length i (by omega),⟨Zr,Zr,Zr,⟨(show vb false=vb o.isSome by rw[h1]),rfl⟩,Zr,Tv⟩,Tv,Fh,Tv⟩
  have kT:(BD s N[i].path).isSome=false:=kT;have XT:=(show PC 127 [sl Ak s,vs N[i].path] (.tup [.agg (Ak ((BD s N[i].path).getD pN)),vb (BD s N[i].path).isSome])from tU s N[i].path uj);rw[show(BD s N[i].path).isSome=false from kT]at XT;refine Xi .pure (Xi _ (Yi XT ?_));refine Yi (Nz rfl) ?_;refine Xi ⟨[(2,sl Ak s),(8,sl Al N),(9,vs (o.getD mt)),(10,vb false),(11,vi i),(13,vb false)],[],Aa⟩ (Yi ⟨Z6,Tv,Fh,Tv⟩ ?_)
  refine Xi ⟨[(2,sl Ak s),(8,sl Al N),(11,vi i)],[],Aa⟩ (Yi ⟨Z3,Tv,Fh,Tv⟩ ?_)
  refine Xi (Al N[i]) (Yi (Yi (Nn i) (Cg g11)) (Yi rfl ?_));refine Xi ⟨[(2,sl Ak s),(8,sl Al N),(9,vs N[i].path),(10,vb true),(11,vi i)],[],Aa⟩ (Yi ⟨Z5,Tv,Fh,Tv⟩ ?_)
  refine Yi (Ii i (by omega)) ?_;refine Xi ⟨(i+1,(some N[i].path)),by omega,by show(some N[i].path)=CC s (N.take (i+1)) none;rw[IG s N none n11,←i2];exact(iL kT h1).symm⟩ ?_;exact⟨Dl N.length i (by omega),Z5,Tv,Fh,Tv⟩
 have K8:¬((i:Int)<((N.map Al).length:Int)):=K8;have n11:¬i<N.length:=by have q:=K8;rw[Lm]at q;omega
 exact .of_eq (show AV.tup [vs (o.getD mt),vb false]=Pb N s by unfold Pb HT;rw[AC (by omega)]at i2;rw[←i2,h1])
end Go.Eng

namespace Go.Eng
open Go.Proofs
section
variable {x:List Rl}{roots:List Rq}{s A:List Sl}{m:Nat}
end
end Go.Eng

namespace Go.Eng
open Go.Proofs
def GB(N:List Rq)(p:ByteArray)(pl:Int):Bool:=N.any fun q=>decide (q.path=p)&&!has q.set pl
theorem fq{α:Type}{f:α→Bool}{l:List α}(h:∀j (hj:j<l.length),f l[j]=false):l.any f=false:=by
 rw[CM];intro y hy;obtain⟨j,hj,rfl⟩:=B1 hy;rw[h j hj];decide
theorem kl{α:Type}{f:α→Bool}{l:List α}{j:Nat}(hj:j<l.length)(h:f l[j]=true):l.any f=true:=A5.2 ⟨_,Am hj,h⟩
section
variable {N:List Rq}{p:ByteArray}{pl:Int}{o:Rl}
end
set_option maxHeartbeats 4000000 in
theorem qR(x:List Rl)(ifs:List (List AV))(roots:List Rq)(s:List Sl)(p:ByteArray)(pl:Int)(hx:∀r∈x,Gj r)(NY:CL x)(qj:∀q∈roots,CL q.set)(hrl:roots.length≤1000000)(hs:s.length≤1000000):PC 75 [.agg (Ic x ifs),sl Al roots,sl Ak s,vs p,vi pl] (vb (GB (EH x roots s) p pl)):=by
 obtain⟨N,hN⟩:∃N,N=EH x roots s:=⟨_,rfl⟩;have gx:=qQ x ifs roots s hx NY hrl hs;have oA:=N4 x roots s;have wC:=ac hx qj s;rw[←hN]at gx oA wC⊢;refine Ps ⟨[],[],[],[],[],[],[],[],[],[],[4,6]⟩ Tryz.func75 rfl (Nz rfl) ?_;refine Yi (Nz rfl) ?_;refine Xi .pure (Xi _ (Yi gx ?_));refine Xi {i:Nat // i≤N.length∧∀j (h:j<N.length),j<i→(decide (N[j].path=p)&&!has N[j].set pl)=false} (Xi (fun q=>⟨[(3,vs p),(4,vi pl),(11,sl Al N),(12,vi q.1)],[],Aa⟩) (Xi (fun q=>N.length-q.1) (Yi (Xi ⟨0,AL _,fun j _ h=>by omega⟩ ?_) ?_)))
 ·exact⟨Z4,Tv,Fh,Tv⟩
 intro⟨i,i1,i2⟩;refine Yi (fun h1=>?_) (fun h1=>?_)
 ·have h1:(i:Int)<((N.map Al).length:Int):=h1;have n1:i<N.length:=by have q:=h1;rw[Lm]at q;omega
  have g1:N[i]?=some N[i]:=Ge n1;refine Xi (Al N[i]) (Yi (Yi (Nn i) (Cg g1)) (Yi rfl ?_));refine Yi (fun h2=>?_) (fun h2=>?_)
  ·have h2:(N[i].path:ByteArray)=p:=h2;refine Xi (Al N[i]) (Yi (Yi (Nn i) (Cg g1)) (Yi rfl ?_));refine BO (Bt (has N[i].set pl)) (fun h3=>?_) (fun h3=>?_)
   ·have h3:(has N[i].set pl)=true:=h3;have XU:=ku N[i].set pl (wC _ (Am n1));rw[show(has N[i].set pl)=true from h3]at XU;refine Xi .pure (Xi _ (Yi XU ?_));refine Xi ⟨[(3,vs p),(4,vi pl),(11,sl Al N),(12,vi i)],[],Aa⟩ (Yi ⟨Z4,Tv,Fh,Tv⟩ ?_)
    refine Yi (Ii i (by omega)) ?_;refine Xi ⟨i+1,by omega,fun j hj IL=>(BZ j i).elim (i2 j hj) (fun z=>by have e:i=j:=(by omega);subst e;exact(by rw[Av h2,show has N[i].set pl=true from h3];rfl))⟩ ?_;exact⟨Dl N.length i (by omega),Z4,Tv,Fh,Tv⟩
   have h3:(has N[i].set pl)=false:=h3;have gJ:=ku N[i].set pl (wC _ (Am n1));rw[show(has N[i].set pl)=false from h3]at gJ;refine Xi .pure (Xi _ (Yi gJ ?_));refine Xi ⟨[],[],Aa⟩ (Yi ⟨Tv,Tv,Fh,Tv⟩ ?_)
   exact .of_eq (Ac vb (show true=GB N p pl from Eq.symm (show N.any (fun q=>decide (q.path=p)&&!has q.set pl)=true from kl n1 (by rw[Av h2,show has N[i].set pl=false from h3];rfl))))
  have h2:¬(N[i].path:ByteArray)=p:=h2;refine Xi ⟨[(3,vs p),(4,vi pl),(11,sl Al N),(12,vi i)],[],Aa⟩ (Yi ⟨Z4,Tv,Fh,Tv⟩ ?_)
  refine Yi (Ii i (by omega)) ?_;refine Xi ⟨i+1,by omega,fun j hj IL=>(BZ j i).elim (i2 j hj) (fun z=>by have e:i=j:=(by omega);subst e;exact(by rw[Au h2,Bool.false_and]))⟩ ?_;exact⟨Dl N.length i (by omega),Z4,Tv,Fh,Tv⟩
 have h1:¬((i:Int)<((N.map Al).length:Int)):=h1;have n1:¬i<N.length:=by have q:=h1;rw[Lm]at q;omega
 exact .of_eq (Ac vb (show false=GB N p pl from(fq fun j hj=>i2 j hj (by omega)).symm))
end Go.Eng

namespace Go.Eng
open Go.Proofs
abbrev IR(b:Bool):List AV:=[vb b]
section
variable {l:List Rl}{roots:List Rq}{Cl:List ByteArray}{B:List Bool}
variable {B0:List Bool}{i:Nat}{ch:Bool}
end
end Go.Eng

namespace Go.Eng
open Go.Proofs
end Go.Eng

namespace Go.Eng
open Go.Proofs
section
variable {x l:List Rl}{roots:List Rq}{s:List Sl}
end
end Go.Eng
