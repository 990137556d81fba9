/- Lemmas for the claims of this seat, without a condition: part 27 (R12, R13, R14, R15, R16, R17, R18, R19, S18, R20, R21, R22, R23, R24, C74, R25, R26, R27, R28, R29, R30, R31). -/
import Derived.Test.YtkmnnpmneamgoaaGreatDoorA26
namespace Go.Eng
open Go.Proofs
theorem uf(r:Rl)(hr:Gf r):PC 121 [.agg (AY r)] (vi (C3 r)):=by
 have h1:=fV r.path hr.1;have h2:=uv r.ver;have h3:=yC fV km r.reqs hr.2;have h4:=ne r.arch;have h5:=ne r.ifc;have h6:=ne r.cert;obtain⟨N,hN⟩:∃N,N=C3 r:=⟨_,rfl⟩;rw[←hN];refine Ps EI Tryz.func121 rfl (Nz rfl) ?_;refine Xi .pure (Xi _ (Yi (h1) ?_));refine Yi (fun h=>?_) (fun h=>?_)
 ·have h:PS r.path<0:=h;exact .of_eq (Ac vi (show(4:Int)=N by
   have e:=(OU r.path).1 h;rw[hN];unfold C3;cases hp:Bw r.path with
   |none=>rfl
   |some m=>rw[hp]at e;cases e))
 have h:¬PS r.path<0:=h;refine A8 (show ∃m,Bw r.path=some m by
  cases hp:Bw r.path with
  |none=>exact absurd ((OU r.path).2 (by rw[hp];rfl)) h
  |some m=>exact⟨m,rfl⟩) (fun m hp=>?_)
 have em:PS r.path=m:=by unfold PS;rw[hp]
 have hN:N=if !CH r.ver||!decide (r.ver.a=m)then 2 else if Bm r.reqs≠0 then Bm r.reqs else if DK r.arch&&DK r.ifc&&DK r.cert then 0 else 1:=by
  rw[hN];unfold C3;rw[hp]
 refine Yi (Nz rfl) ?_;refine BG (Bt (CH r.ver)).symm (fun e=>?_) (fun e=>?_)
 ·rw[e]at h2;refine Xi .pure (Xi _ (Yi (h2) ?_));exact .of_eq (Ac vi (show(2:Int)=N by rw[hN,e];rfl))
 rw[e]at h2;refine Xi .pure (Xi _ (Yi (h2) ?_));refine Yi (fun h7=>?_) (fun h7=>?_)
 ·have h7:r.ver.a≠PS r.path:=h7;exact .of_eq (Ac vi (show(2:Int)=N by rw[hN,e,At (by rw[←em];exact h7)];rfl))
 have h7:¬r.ver.a≠PS r.path:=h7;have hN:N=if Bm r.reqs≠0 then Bm r.reqs else if DK r.arch&&DK r.ifc&&DK r.cert then 0 else 1:=by
  rw[hN,e,Av (by rw[←em];exact B3.1 h7)];rfl
 refine Xi .pure (Xi _ (Yi (h3) ?_));refine Yi (fun h8=>?_) (fun h8=>?_)
 ·have h8:Bm r.reqs≠0:=h8;exact .of_eq (Ac vi (show Bm r.reqs=N by rw[hN,AB h8]))
 have h8:¬Bm r.reqs≠0:=h8;have hN:N=if DK r.arch&&DK r.ifc&&DK r.cert then 0 else 1:=by rw[hN,Ar h8]
 refine BG (Bt (DK r.arch)).symm (fun e1=>?_) (fun e1=>?_)
 ·rw[e1]at h4;refine Xi .pure (Xi _ (Yi (h4) ?_));exact .of_eq (Ac vi (show(1:Int)=N by rw[hN,e1];rfl))
 rw[e1]at h4;refine Xi .pure (Xi _ (Yi (h4) ?_));refine BG (Bt (DK r.ifc)).symm (fun e2=>?_) (fun e2=>?_)
 ·rw[e2]at h5;refine Xi .pure (Xi _ (Yi (h5) ?_));exact .of_eq (Ac vi (show(1:Int)=N by rw[hN,e1,e2];rfl))
 rw[e2]at h5;refine Xi .pure (Xi _ (Yi (h5) ?_));refine BG (Bt (DK r.cert)).symm (fun e3=>?_) (fun e3=>?_)
 ·rw[e3]at h6;refine Xi .pure (Xi _ (Yi (h6) ?_));exact .of_eq (Ac vi (show(1:Int)=N by rw[hN,e1,e2,e3];rfl))
 rw[e3]at h6;refine Xi .pure (Xi _ (Yi (h6) ?_));exact .of_eq (Ac vi (show(0:Int)=N by rw[hN,e1,e2,e3];rfl))
end Go.Eng

namespace Go.Eng
open Go.Proofs
theorem W8{a b:Rl}(h:Fz a=Fz b):Iq a b=0:=by
 obtain⟨h1,h2,h3,h4⟩:=Va h;unfold Iq LQ IW Fx;rw[h1,h2,h3,h4,DR];simp
theorem yB(x:List Rl)(ifs:List (List AV))(hs:∀r∈x,Gf r):PC 71 [Mm x ifs] (vi (A7 x)):=by
 refine Ps (H2 [4,6,8,10,12]) Tryz.func71 rfl (Nz rfl) ?_;refine A8 (show ∃N,N=A7 x from⟨_,rfl⟩) (fun N hN=>?_);refine Yi (fun h=>?_) (fun h=>?_)
 ·have h:(256:Int)<(x.map AY).length:=h;exact .of_eq (Ac vi (show(7:Int)=A7 x by unfold A7;rw[AB (by rw[Lm]at h;omega)]))
 have h:¬(256:Int)<(x.map AY).length:=h;have hl:x.length≤256:=by rw[Lm]at h;omega
 have N7:A7 x=C0 none x:=by unfold A7;rw[Ar (by omega)]
 refine Xi ⟨[(3,sl AY x)],[],Aa⟩ (Yi ⟨Z1,Tv,Fh,Tv⟩ ?_)
 refine Xi {i:Nat // i≤x.length∧C0 none x=C0 (VW x i) (x.drop i)} (Xi (fun i=>⟨[(3,sl AY x),(4,vi i.1)],[],Aa⟩) (Xi (fun i=>x.length-i.1) (Yi (Xi ⟨0,AL _,rfl⟩ ?_) ?_)))
 ·exact⟨Z2,Tv,Fh,Tv⟩
 intro⟨i,h1,h2⟩;refine Yi (fun h=>?_) (fun h=>?_)
 ·skip
  have h:(i:Int)<(x.map AY).length:=h;have h:i<x.length:=by simpa using h
  have hg:x[i]?=some x[i]:=Ge h;have hd:x.drop i=x[i]::x.drop (i+1):=Bk h;have hc:=uf x[i] (hs x[i] (Aj h));have GV:C0 none x=if C3 x[i]≠0 then C3 x[i]else match VW x i with
   |none=>C0 (some x[i]) (x.drop (i+1))
   |some b=>if Fz b=Fz x[i]then 5 else if 0<Iq b x[i]then 1 else C0 (some x[i]) (x.drop (i+1)):=by rw[h2,hd];rfl
  have XJ:VW x (i+1)=some x[i]:=Ge h;refine Xi (AY x[i]) (Yi (Yi (Nn i) (by simp[hg])) (Yi rfl ?_));refine Yi (Nz rfl) ?_;refine Xi .pure (Xi _ (Yi (hc) ?_));refine Xi ⟨[(3,sl AY x),(4,vi i),(5,vi (C3 x[i]))],[],Aa⟩ (Yi ⟨Z3,Tv,Fh,Tv⟩ ?_)
  refine Yi (fun h3=>?_) (fun h3=>?_)
  ·have h3:C3 x[i]≠0:=h3;exact .of_eq (Ac vi (show C3 x[i]=A7 x by rw[N7,GV,AB h3]))
  have h3:¬C3 x[i]≠0:=h3;rw[Ar h3]at GV;refine Xi ⟨[(3,sl AY x),(4,vi i)],[],Aa⟩ (Yi ⟨Z2,Tv,Fh,Tv⟩ ?_)
  refine Yi (fun h4=>?_) (fun h4=>?_)
  ·have h4:(0:Int)<i:=h4;have hk:i-1<x.length:=by omega
   have Ry:x[i-1]?=some x[i-1]:=Ge hk;have hn:((i:Int)-1).toNat=i-1:=by omega
   have hb:VW x i=some x[i-1]:=by
    cases i with
    |zero=>omega
    |succ k=>exact Ry
   rw[hb]at GV;have GV:C0 none x=if Fz x[i-1]=Fz x[i]then 5 else if 0<Iq x[i-1] x[i]then 1 else C0 (some x[i]) (x.drop (i+1)):=GV
   have Xx:=ug x[i-1] x[i];have Rj:(0:Int)≤(i:Int)-1∧(x.map AY)[((i:Int)-1).toNat]?=some (AY x[i-1]):=⟨by omega,by rw[hn];exact B5 Ry⟩;refine Yi (show Bf ((i:Int)-1) by unfold Bf;omega) ?_;refine Xi (AY x[i-1]) (Yi Rj (Yi rfl ?_));refine Yi (Nz rfl) ?_;refine Xi (AY x[i]) (Yi (Yi (Nn i) (by simp[hg])) (Yi rfl ?_));refine Yi (Nz rfl) ?_;refine Xi _ (Yi (Xx) ?_);refine Yi (fun h5=>?_) (fun h5=>?_)
   ·have h5:Iq x[i-1] x[i]=0:=h5;refine Yi (by kernel_rfl) ?_;exact .of_eq (Ac vi (show(5:Int)=A7 x by rw[N7,GV,AB (UR h5)]))
   have h5:¬Iq x[i-1] x[i]=0:=h5;refine Yi (by kernel_rfl) ?_;refine Xi ⟨[(3,sl AY x),(4,vi i)],[],Aa⟩ (Yi ⟨Z2,Tv,Fh,Tv⟩ ?_)
   refine Yi (fun _=>?_) (fun h9=>absurd h4 h9);refine Yi (show Bf ((i:Int)-1) by unfold Bf;omega) ?_;refine Xi (AY x[i-1]) (Yi Rj (Yi rfl ?_));refine Yi (Nz rfl) ?_;refine Xi (AY x[i]) (Yi (Yi (Nn i) (by simp[hg])) (Yi rfl ?_));refine Yi (Nz rfl) ?_;refine Xi _ (Yi (Xx) ?_);refine Yi (fun h6=>?_) (fun h6=>?_)
   ·have h6:0<Iq x[i-1] x[i]:=h6;refine Yi (by kernel_rfl) ?_;exact .of_eq (Ac vi (show(1:Int)=A7 x by rw[N7,GV,Ar (fun e=>h5 (W8 e)),AB h6]))
   have h6:¬0<Iq x[i-1] x[i]:=h6;refine Yi (by kernel_rfl) ?_;refine Xi ⟨[(3,sl AY x),(4,vi i)],[],Aa⟩ (Yi ⟨Z2,Tv,Fh,Tv⟩ ?_)
   refine Yi (Ii i (by omega)) ?_;refine Xi ⟨i+1,by omega,by rw[GV,Ar (fun e=>h5 (W8 e)),Ar h6,XJ]⟩ ?_;exact⟨Dl x.length i (by omega),Z2,Tv,Fh,Tv⟩
  have h4:¬(0:Int)<i:=h4;have hb:VW x i=none:=by
   rw[show i=0 by omega]
  rw[hb]at GV;have GV:C0 none x=C0 (some x[i]) (x.drop (i+1)):=GV;refine Yi (by kernel_rfl) ?_;refine Xi ⟨[(3,sl AY x),(4,vi i)],[],Aa⟩ (Yi ⟨Z2,Tv,Fh,Tv⟩ ?_)
  refine Yi (fun h9=>absurd h9 h4) (fun _=>?_);refine Yi (by kernel_rfl) ?_;refine Xi ⟨[(3,sl AY x),(4,vi i)],[],Aa⟩ (Yi ⟨Z2,Tv,Fh,Tv⟩ ?_)
  refine Yi (Ii i (by omega)) ?_;refine Xi ⟨i+1,by omega,by rw[GV,XJ]⟩ ?_;exact⟨Dl x.length i (by omega),Z2,Tv,Fh,Tv⟩
 ·skip
  have h:¬(i:Int)<(x.map AY).length:=h;have h:¬i<x.length:=by simpa using h
  have e:(0:Int)=A7 x:=by rw[N7,h2,Ho (by omega)];rfl
  exact .of_eq (Ac vi e)
end Go.Eng

namespace Go.Eng
open Go.Proofs
end Go.Eng

namespace Go.Eng
open Go.Proofs
end Go.Eng

namespace Go.Eng
open Go.Proofs
end Go.Eng

namespace Go.Eng
open Go.Proofs
end Go.Eng

namespace Go.Eng
open Go.Proofs
end Go.Eng

namespace Go.Eng
open Go.Proofs
def aG(p:ByteArray)(r:Rl):Bool:=decide (r.path=p)&&!r.yanked
def sZ(r:Rl):Int×Int:=(plc r.ver,plc r.ver+1)
theorem bJ{x:List Rl}{p:ByteArray}(h:A7 x=0):Ce x p=canon ((x.filter (aG p)).map sZ):=by
 unfold Ce Kh;rw[Ar (not_not_intro h),List.filter_filter]
 congr 3
 funext r
 unfold aG;rw[Bool.and_comm]
end Go.Eng

namespace Go.Eng
open Go.Proofs
theorem YU{x:List Rl}(h0:A7 x=0){p:ByteArray}(h:p∉AP (yR x) []):Ce x p=[]:=by
 rw[bJ h0]
 have:x.filter (aG p)=[]:=by
  rw[Hp];intro r hr hc;unfold aG at hc;rw[Ag,AE]at hc;exact h ((Hk _ _ _).2 (.inr ⟨r,BL.2 ⟨hr,hc.2⟩,hc.1⟩))
 rw[this];rfl
theorem fC{x:List Rl}{roots:List Rq}(hx:∀r∈x,Gf r)(hr:∀q∈roots,H4 q)(h0:A7 x=0)(h1:Bm roots=0){l:List ByteArray}(hl:l.Perm (AP (yR x) [])):pT x roots (mC x) (l.map (kA x)) where
 hx:=h0
 hr:=h1
 fx:=hx
 fr:=hr
 c1:=sc x
 c2:=sd x
 c3:=se x
 av p:=by
  by_cases hp:p∈l
  ·exact⟨sl Ae (Ce x p),fun a ha=>(Wq.1 ha).2,fun hn=>(hn _ (Wq.2 ⟨hp,rfl⟩)).elim,fun h=>qo p (Ce x p) (Sc x p)⟩
  ·refine⟨.v (.slice none 0 0),fun a ha=>(hp (Wq.1 ha).1).elim,fun _=>rfl,fun h=>?_⟩;have e:=YU h0 (fun hc=>hp (hl.mem_iff.2 hc));have hc:=qo p (Ce x p) (Sc x p);rw[e]at hc⊢;exact LA.args hc ⟨.refl _,.nil,trivial⟩
end Go.Eng

namespace Go.Eng
open Go.Proofs
end Go.Eng

namespace Go.Eng
open Go.Proofs
end Go.Eng

namespace Go.Eng
open Go.Proofs

end Go.Eng

namespace Go.Eng
open Go.Proofs
theorem df{α:Type}(o:Option α):(∃x,o=some x)∨o=none:=by
 cases o with
 |none=>exact .inr rfl
 |some x=>exact .inl ⟨x,rfl⟩
end Go.Eng

namespace Go.Eng
open Go.Proofs
section
variable {x:List Rl}{roots:List Rq}{d:List (List Tm)}{i:Nf}
end
end Go.Eng

namespace Go.Eng
open Go.Proofs
end Go.Eng

namespace Go.Eng
open Go.Proofs
end Go.Eng

namespace Go.Eng
open Go.Proofs
theorem VV{cx:Cx}{c:Code}{Q:Ex→St→Prop}{s s' : LS}(h:s=s')(hk:MD cx c Q s'.st):MD cx c Q s.st:=by subst h;exact hk
theorem aC{x:List Rl}{p:ByteArray}{v:Ver}(h:A7 x=0):FL x ⟨p,v⟩=x.find? fun r=>decide (Fz r=⟨p,v⟩):=Ar (not_not_intro h)
theorem OR{r:Rl}{p:ByteArray}{v:Ver}:Fz r=⟨p,v⟩↔r.path=p∧r.ver.a=v.a∧r.ver.b=v.b∧r.ver.c=v.c:=by
 unfold Fz;constructor
 ·intro h;cases h;exact⟨rfl,rfl,rfl,rfl⟩
 ·rintro⟨rfl,h1,h2,h3⟩
  cases hr:r.ver;cases v
  rw[hr]at h1 h2 h3;cases h1;cases h2;cases h3;rfl
def Hb(x:List Rl)(y:Sl):List Rq:=match FL x y with | some r=>r.reqs | none=>[]
def EB(x:List Rl)(roots:List Rq)(l:List Sl):List Rq:=roots++(l.map (Hb x)).flatten
theorem ZE(x:List Rl)(roots:List Rq):EB x roots []=roots:=by unfold EB;simp
theorem ZC(x:List Rl)(roots:List Rq)(l:List Sl)(y:Sl):EB x roots (l++[y])=EB x roots l++Hb x y:=by unfold EB;simp
theorem QW(x:List Rl)(roots:List Rq)(l:List Sl){i:Nat}(h:i<l.length):EB x roots (l.take (i+1))=EB x roots (l.take i)++Hb x l[i]:=by
 rw[Bb,Ge h];exact ZC ..
theorem TP{x:List Rl}(y:Sl):(Hb x y).length≤16:=by
 unfold Hb;split
 ·rename_i r hr;exact(Kd (I9 hr).1).2 r (I9 hr).2.1
 ·simp
theorem NS(x:List Rl)(roots:List Rq):∀l:List Sl,(EB x roots l).length≤roots.length+16*l.length:=fun l=>by
 unfold EB;rw[Ad]
 have:∀l:List Sl,((l.map (Hb x)).flatten).length≤16*l.length:=fun l=>by
  induction l with
  |nil=>simp
  |cons y l ih =>
   rw[AN,Bq,Ad,Ak]
   have:=TP (x:=x) y
   omega
 have:=this l
 omega
theorem ZD{x:List Rl}{roots:List Rq}(hx:∀r∈x,Gf r)(hr:∀q∈roots,CK q.set)(l:List Sl):∀q∈EB x roots l,CK q.set:=fun q hq=>by
 unfold EB at hq;rcases A5.1 hq with hq | hq
 ·exact hr q hq
 ·obtain⟨m,hm,tx⟩:=E9.1 hq;obtain⟨y,_,rfl⟩:=Aq.1 hm;unfold Hb at tx;split at tx
  ·rename_i r gE;exact((hx r (I9 gE).2.1).2 q tx).1
  ·cases tx
set_option maxHeartbeats 4000000 in
theorem yE(x:List Rl)(ifs:List (List AV))(p:ByteArray)(v:Ver)(hx:∀r∈x,Gf r)(QO:CK x):PC 105 [.agg (Ic x ifs),vs p,.agg (Gi v)] (Yo (FL x ⟨p,v⟩)):=by
 have QO:x.length≤1073741824:=QO;refine Ps ⟨[],[],[],[],[],[],[],[],[],[],[3,5,7]⟩ Tryz.func105 rfl (Nz rfl) ?_;refine Yi (Nz rfl) ?_;refine Xi .pure (Xi _ (Yi (yB x ifs hx) ?_));refine Yi (fun h1=>?_) (fun h1=>?_)
 ·have h1:(A7 x:Int)≠(0:Int):=h1;refine Yi (Nz rfl) ?_;refine Yi (Nz rfl) ?_;exact .of_eq (show AV.tup [.agg yt,vb false]=Yo (FL x ⟨p,v⟩) by rw[show FL x ⟨p,v⟩=none from AB h1])
 have h1:(A7 x:Int)=(0:Int):=Cs h1;refine Xi ⟨[(1,vs p),(3,.ref 3 0),(5,.ref 5 0),(6,.ref 6 0)],[(3,.cells (Ic x ifs)),(5,.cells (Gi v)),(6,.cells [vs ⟨#[]⟩,vi 0,vi 0,vi 0,.v (.slice none 0 0),vs ⟨#[]⟩,vs ⟨#[]⟩,vs ⟨#[]⟩,vb false])],Aa⟩ (Yi ⟨Z4,Z3,Fh,Tv⟩ ?_)
 refine Xi {i:Nat // i≤x.length∧∀j (h:j<x.length),j<i→decide (Fz x[j]=⟨p,v⟩)=false} (Xi (fun q=>⟨[(1,vs p),(3,.ref 3 0),(5,.ref 5 0),(6,.ref 6 0),(8,vi q.1)],[(3,.cells (Ic x ifs)),(5,.cells (Gi v)),(6,.cells [vs ⟨#[]⟩,vi 0,vi 0,vi 0,.v (.slice none 0 0),vs ⟨#[]⟩,vs ⟨#[]⟩,vs ⟨#[]⟩,vb false])],Aa⟩) (Xi (fun q=>x.length-q.1) (Yi (Xi ⟨0,AL _,fun j _ h=>by omega⟩ ?_) ?_)))
 ·exact⟨Z5,Z3,Fh,Tv⟩
 intro⟨i,i1,i2⟩;refine Yi (fun h3=>?_) (fun h3=>?_)
 ·have h3:(i:Int)<((x.map AY).length:Int):=h3;have n3:i<x.length:=by have q:=h3;rw[Lm]at q;omega
  have g3:x[i]?=some x[i]:=Ge n3;refine Xi (AY x[i]) (Yi (Yi (Nn i) (B5 g3)) (Yi rfl ?_));refine Yi (fun h4=>?_) (fun h4=>?_)
  ·have h4:(x[i].path:ByteArray)=p:=h4;refine Xi (AY x[i]) (Yi (Yi (Nn i) (B5 g3)) (Yi rfl ?_));refine Yi (Nz rfl) ?_;refine Yi (Nz rfl) ?_;refine Yi (fun h5=>?_) (fun h5=>?_)
   ·have h5:(x[i].ver.a:Int)=v.a∧(x[i].ver.b:Int)=v.b∧(x[i].ver.c:Int)=v.c∧True:=h5;refine Yi (by kernel_rfl) ?_;refine Xi ⟨[(3,.ref 3 0),(6,.ref 6 0),(8,vi i)],[(3,.cells (Ic x ifs)),(6,.cells [vs ⟨#[]⟩,vi 0,vi 0,vi 0,.v (.slice none 0 0),vs ⟨#[]⟩,vs ⟨#[]⟩,vs ⟨#[]⟩,vb false])],Aa⟩ (Yi ⟨Z3,Z2,Fh,Tv⟩ ?_)
    refine Xi (AY x[i]) (Yi (Yi (Nn i) (B5 g3)) (Yi rfl ?_));refine Yi (Nz rfl) ?_;refine Yi (Nz rfl) ?_;refine Yi (Nz rfl) ?_;exact .of_eq (show AV.tup [.agg (AY x[i]),vb true]=Yo (FL x ⟨p,v⟩) by rw[aC h1,fE n3 i2 (Av (OR.2 ⟨h4,h5.1,h5.2.1,h5.2.2.1⟩))])
   have h5:¬((x[i].ver.a:Int)=v.a∧(x[i].ver.b:Int)=v.b∧(x[i].ver.c:Int)=v.c∧True):=h5;refine Yi (by kernel_rfl) ?_;refine Xi ⟨[(1,vs p),(3,.ref 3 0),(5,.ref 5 0),(6,.ref 6 0),(8,vi i)],[(3,.cells (Ic x ifs)),(5,.cells (Gi v)),(6,.cells [vs ⟨#[]⟩,vi 0,vi 0,vi 0,.v (.slice none 0 0),vs ⟨#[]⟩,vs ⟨#[]⟩,vs ⟨#[]⟩,vb false])],Aa⟩ (Yi ⟨Z5,Z3,Fh,Tv⟩ ?_)
   refine Yi (Ii i (by omega)) ?_;refine Xi ⟨i+1,by omega,fun j hj IA=>(BV j i).elim (i2 j hj) (fun z=>by have e:j=i:=(by omega);subst e;exact At (fun h=>h5 ⟨(OR.1 h).2.1,(OR.1 h).2.2.1,(OR.1 h).2.2.2,trivial⟩))⟩ ?_;exact⟨Dl x.length i (by omega),Z5,Z3,Fh,Tv⟩
  have h4:¬(x[i].path:ByteArray)=p:=h4;refine Yi (by kernel_rfl) ?_;refine Xi ⟨[(1,vs p),(3,.ref 3 0),(5,.ref 5 0),(6,.ref 6 0),(8,vi i)],[(3,.cells (Ic x ifs)),(5,.cells (Gi v)),(6,.cells [vs ⟨#[]⟩,vi 0,vi 0,vi 0,.v (.slice none 0 0),vs ⟨#[]⟩,vs ⟨#[]⟩,vs ⟨#[]⟩,vb false])],Aa⟩ (Yi ⟨Z5,Z3,Fh,Tv⟩ ?_)
  refine Yi (Ii i (by omega)) ?_;refine Xi ⟨i+1,by omega,fun j hj IA=>(BV j i).elim (i2 j hj) (fun z=>by have e:j=i:=(by omega);subst e;exact At (fun h=>h4 (OR.1 h).1))⟩ ?_;exact⟨Dl x.length i (by omega),Z5,Z3,Fh,Tv⟩
 have h3:¬((i:Int)<((x.map AY).length:Int)):=h3;have n3:¬i<x.length:=by have q:=h3;rw[Lm]at q;omega
 refine Yi (Nz rfl) ?_;refine Yi (Nz rfl) ?_;exact .of_eq (show AV.tup [.agg yt,vb false]=Yo (FL x ⟨p,v⟩) by rw[aC h1,bZ fun j hj=>i2 j hj (by omega)])
set_option maxHeartbeats 4000000 in
theorem qj(x:List Rl)(ifs:List (List AV))(roots:List Rq)(s:List Sl)(hx:∀r∈x,Gf r)(QO:CK x)(hrl:roots.length≤1000000)(hs:s.length≤1000000):PC 126 [.agg (Ic x ifs),sl Ap roots,sl Ah s] (sl Ap (EB x roots s)):=by
 have qw:∀(p:ByteArray) (v:Ver),PC 105 [Mm x ifs,vs p,.agg (Gi v)] (Yo (FL x ⟨p,v⟩)):=fun p v=>yE x ifs p v hx QO;refine Ps ⟨[],[],[],[],[],[],[],[],[],[],[6]⟩ Tryz.func126 rfl (Nz rfl) ?_;have b1:B1 2 (roots.map Ap)∧([]:List (List AV)).length=0∧(([]:List (List AV)).length+(roots.map Ap).length)*40≤140737488355328∧([]:List (List AV)).length+(roots.map Ap).length≤9223372036854775807:=⟨(DQ (enc:=Ap) (n:=2) (fun _=>rfl) roots),(by simp),(by simp only[Lm,Al];omega),(by simp only[Lm,Al];omega)⟩;refine Yi b1 ?_;refine Xi {q:Nat×List Rq // q.1≤s.length∧q.2=EB x roots (s.take q.1)} (Xi (fun q=>⟨[(2,sl Ah s),(3,.ref 3 0),(7,.slice (.id 11 2) (q.1.2.map Ap)),(8,vi q.1.1)],[(3,.cells (Ic x ifs)),(11,.tok 2 q.1.2.length)],Aa⟩) (Xi (fun q=>s.length-q.1.1) (Yi (Xi ⟨(0,roots),AL _,(ZE x roots).symm⟩ ?_) ?_)))
 ·exact⟨⟨Zr,Zr,⟨(show AV.slice (.id 11 2) ([]++roots.map Ap)=.slice (.id 11 2) (roots.map Ap) by rw[EU]),rfl⟩,Zr,Tv⟩,⟨Zr,⟨(show HO.tok 2 (([]:List (List AV)).length+(roots.map Ap).length)=.tok 2 roots.length by rw[Lm,Al,Bc]),rfl⟩,Tv⟩,Fh,Tv⟩
 intro⟨⟨i,A⟩,i1,i2⟩;have i1:i≤s.length:=i1;have i2:A=EB x roots (s.take i):=i2;have hA:A.length≤roots.length+16*i:=by
  have:=NS x roots (s.take i)
  rw[AK]at this;rw[i2];omega
 refine Yi (fun h2=>?_) (fun h2=>?_)
 ·have h2:(i:Int)<((s.map Ah).length:Int):=h2;have n2:i<s.length:=by have q:=h2;rw[Lm]at q;omega
  have g2:s[i]?=some s[i]:=Ge n2;refine Yi (Nz rfl) ?_;refine Xi (Ah s[i]) (Yi (Yi (Nn i) (B5 g2)) (Yi rfl ?_));refine Xi (Ah s[i]) (Yi (Yi (Nn i) (B5 g2)) (Yi rfl ?_));refine Yi (Nz rfl) ?_;refine BG (df (FL x ⟨s[i].path,s[i].ver⟩)) (fun h3=>?_) (fun h3=>?_)
  ·refine A8 h3 (fun r h3=>?_);have gc:=qw s[i].path s[i].ver;rw[h3]at gc;have pF:=TP (x:=x) s[i];rw[show Hb x s[i]=r.reqs by unfold Hb;rw[show FL x s[i]=some r from h3]]at pF;refine Xi _ (Yi gc ?_);refine Yi (Nz rfl) ?_;refine Yi (by kernel_rfl) ?_;refine Xi ⟨[(2,sl Ah s),(3,.ref 3 0),(7,.slice (.id 11 2) (A.map Ap)),(8,vi i),(9,.ref 9 0)],[(3,.cells (Ic x ifs)),(9,.cells (AY r)),(11,.tok 2 A.length)],Aa⟩ (Yi ⟨Z5,Z3,Fh,Tv⟩ ?_)
   have b4:B1 2 (r.reqs.map Ap)∧(A.map Ap).length=A.length∧((A.map Ap).length+(r.reqs.map Ap).length)*40≤140737488355328∧(A.map Ap).length+(r.reqs.map Ap).length≤9223372036854775807:=⟨(DQ (enc:=Ap) (n:=2) (fun _=>rfl) r.reqs),(by simp),(by simp only[Lm];omega),(by simp only[Lm];omega)⟩;refine Yi b4 ?_;refine Yi (Ii i (by omega)) ?_;refine Xi ⟨(i+1,A++r.reqs),by omega,by show A++r.reqs=EB x roots (s.take (i+1));rw[QW x roots s n2,←i2,show Hb x s[i]=r.reqs by unfold Hb;rw[show FL x s[i]=some r from h3]]⟩ ?_;exact⟨Dl s.length i (by omega),⟨Zr,Zr,⟨(show AV.slice (.id 11 2) (A.map Ap++r.reqs.map Ap)=.slice (.id 11 2) ((A++r.reqs).map Ap) by simp),rfl⟩,Zr,Tv⟩,⟨Zr,⟨(show HO.tok 2 ((A.map Ap).length+(r.reqs.map Ap:List (List AV)).length)=.tok 2 (A++r.reqs).length by simp),rfl⟩,Tv⟩,Fh,Tv⟩
  have gc:=qw s[i].path s[i].ver;rw[h3]at gc;refine Xi _ (Yi gc ?_);refine Yi (Nz rfl) ?_;refine Yi (by kernel_rfl) ?_;refine Xi ⟨[(2,sl Ah s),(3,.ref 3 0),(7,.slice (.id 11 2) (A.map Ap)),(8,vi i),(9,.ref 9 0)],[(3,.cells (Ic x ifs)),(9,.cells [vs ⟨#[]⟩,vi 0,vi 0,vi 0,.v (.slice none 0 0),vs ⟨#[]⟩,vs ⟨#[]⟩,vs ⟨#[]⟩,vb false]),(11,.tok 2 A.length)],Aa⟩ (Yi ⟨Z5,Z3,Fh,Tv⟩ ?_)
  have b6:B1 2 []∧(A.map Ap).length=A.length∧((A.map Ap).length+([]:List (List AV)).length)*40≤140737488355328∧(A.map Ap).length+([]:List (List AV)).length≤9223372036854775807:=⟨trivial,(by simp),(by simp only[Lm,Al];omega),(by simp only[Lm,Al];omega)⟩;refine Yi b6 ?_;refine Yi (Ii i (by omega)) ?_;refine Xi ⟨(i+1,A++([]:List Rq)),by omega,by show A++([]:List Rq)=EB x roots (s.take (i+1));rw[QW x roots s n2,←i2,show Hb x s[i]=([]:List Rq) by unfold Hb;rw[show FL x s[i]=none from h3]]⟩ ?_;exact⟨Dl s.length i (by omega),⟨Zr,Zr,⟨(show AV.slice (.id 11 2) (A.map Ap++[])=.slice (.id 11 2) ((A++([]:List Rq)).map Ap) by simp),rfl⟩,Zr,Tv⟩,⟨Zr,⟨(show HO.tok 2 ((A.map Ap).length+([]:List (List AV)).length)=.tok 2 (A++([]:List Rq)).length by simp),rfl⟩,Tv⟩,Fh,Tv⟩
 have h2:¬((i:Int)<((s.map Ah).length:Int)):=h2;have n2:¬i<s.length:=by have q:=h2;rw[Lm]at q;omega
 exact .of_eq (Ac (sl Ap) (show A=EB x roots s by rw[i2,Az (by omega)]))
theorem OM(s:List Sl)(p:ByteArray):Cv s p=(BC s p).isSome:=by unfold Cv BC;rw[List.isSome_find?]
section
variable {s:List Sl}{q:Rq}{o:Option ByteArray}
theorem Yd(h:(BC s q.path).isSome=true):HL s o q=o:=by unfold HL;rw[OM,AB h]
theorem im(h:(BC s q.path).isSome=false)(ho:o.isSome=false):HL s o q=some q.path:=by
 unfold HL;rw[OM,Ar (by rw[h];decide)];cases o with | none=>rfl | some p=>cases ho
theorem cW(h:(BC s q.path).isSome=false)(ho:o.isSome=true)(hb:EH q.path (o.getD mt)=true):HL s o q=some q.path:=by
 unfold HL;rw[OM,Ar (by rw[h];decide)];cases o with | none=>cases ho | some p=>exact AB hb
theorem cX(h:(BC s q.path).isSome=false)(ho:o.isSome=true)(hb:EH q.path (o.getD mt)=false):HL s o q=o:=by
 unfold HL;rw[OM,Ar (by rw[h];decide)];cases o with | none=>cases ho | some p=>exact Ar (by rw[show EH q.path p=false from hb];decide)
end
abbrev O0(N:List Rq)(s:List Sl):AV:=.tup [vs ((HJ N s).getD mt),vb (HJ N s).isSome]
set_option maxHeartbeats 4000000 in
theorem tb(x:List Rl)(ifs:List (List AV))(roots:List Rq)(s:List Sl)(hx:∀r∈x,Gf r)(QO:CK x)(hrl:roots.length≤1000000)(hs:s.length≤1000000):PC 73 [.agg (Ic x ifs),sl Ap roots,sl Ah s] (O0 (EB x roots s) s):=by
 obtain⟨N,hN⟩:∃N,N=EB x roots s:=⟨_,rfl⟩;have fW:=qj x ifs roots s hx QO hrl hs;have nH:=NS x roots s;rw[←hN]at fW nH⊢;have tC:CK s:=by unfold CK;omega
 refine Ps ⟨[],[],[],[],[],[],[],[],[],[],[2,5,7,8]⟩ Tryz.func73 rfl (Nz rfl) ?_;refine Yi (Nz rfl) ?_;refine Xi .pure (Xi _ (Yi fW ?_));refine Xi ⟨[(2,sl Ah s),(8,sl Ap N)],[],Aa⟩ (Yi ⟨Z2,Tv,Fh,Tv⟩ ?_)
 refine Xi {q:Nat×Option ByteArray // q.1≤N.length∧q.2=CA s (N.take q.1) none} (Xi (fun q=>⟨[(2,sl Ah s),(8,sl Ap N),(9,vs (q.1.2.getD mt)),(10,vb q.1.2.isSome),(11,vi q.1.1)],[],Aa⟩) (Xi (fun q=>N.length-q.1.1) (Yi (Xi ⟨(0,none),AL _,rfl⟩ ?_) ?_)))
 ·exact⟨Z5,Tv,Fh,Tv⟩
 intro⟨⟨i,o⟩,i1,i2⟩;have i1:i≤N.length:=i1;have i2:o=CA s (N.take i) none:=i2;refine BG (Bt o.isSome) (fun h1=>?_) (fun h1=>?_)
 ·have h1:o.isSome=true:=h1;refine VV (Ac (fun bb=>(⟨[(2,sl Ah s),(8,sl Ap N),(9,vs (o.getD mt)),(10,vb bb),(11,vi i)],[],Aa⟩:LS)) h1) ?_;refine Yi (fun h2=>?_) (fun h2=>?_)
  ·have h2:(i:Int)<((N.map Ap).length:Int):=h2;have n2:i<N.length:=by have q:=h2;rw[Lm]at q;omega
   have g2:N[i]?=some N[i]:=Ge n2;refine Xi (Ap N[i]) (Yi (Yi (Nn i) (B5 g2)) (Yi rfl ?_));refine BG (Bt (BC s N[i].path).isSome) (fun h3=>?_) (fun h3=>?_)
   ·have h3:(BC s N[i].path).isSome=true:=h3;have Xw:=(show PC 127 [sl Ah s,vs N[i].path] (.tup [.agg (Ah ((BC s N[i].path).getD o6)),vb (BC s N[i].path).isSome])from tc s N[i].path tC);rw[show(BC s N[i].path).isSome=true from h3]at Xw;refine Xi .pure (Xi _ (Yi Xw ?_));refine Yi (Nz rfl) ?_;refine Xi ⟨[(2,sl Ah s),(8,sl Ap N),(9,vs (o.getD mt)),(10,vb true),(11,vi i),(13,vb true)],[],Aa⟩ (Yi ⟨Z6,Tv,Fh,Tv⟩ ?_)
    refine Xi ⟨[(2,sl Ah s),(8,sl Ap N),(9,vs (o.getD mt)),(10,vb true),(11,vi i)],[],Aa⟩ (Yi ⟨Z5,Tv,Fh,Tv⟩ ?_)
    refine Yi (Ii i (by omega)) ?_;refine Xi ⟨(i+1,o),by omega,by show o=CA s (N.take (i+1)) none;rw[Iw s N none n2,←i2];exact(Yd h3).symm⟩ ?_;exact⟨Dl N.length i (by omega),⟨Zr,Zr,Zr,⟨(show vb true=vb o.isSome by rw[h1]),rfl⟩,Zr,Tv⟩,Tv,Fh,Tv⟩
   have h3:(BC s N[i].path).isSome=false:=h3;have gi:=(show PC 127 [sl Ah s,vs N[i].path] (.tup [.agg (Ah ((BC s N[i].path).getD o6)),vb (BC s N[i].path).isSome])from tc s N[i].path tC);rw[show(BC s N[i].path).isSome=false from h3]at gi;refine Xi .pure (Xi _ (Yi gi ?_));refine Yi (Nz rfl) ?_;refine Xi ⟨[(2,sl Ah s),(8,sl Ap N),(9,vs (o.getD mt)),(10,vb true),(11,vi i),(13,vb false)],[],Aa⟩ (Yi ⟨Z6,Tv,Fh,Tv⟩ ?_)
   refine Xi (Ap N[i]) (Yi (Yi (Nn i) (B5 g2)) (Yi rfl ?_));refine Yi (fun h7=>?_) (fun h7=>?_)
   ·have h7:EH N[i].path (o.getD mt)=true:=(Fi _ _).trans h7;refine Xi ⟨[(2,sl Ah s),(8,sl Ap N),(11,vi i)],[],Aa⟩ (Yi ⟨Z3,Tv,Fh,Tv⟩ ?_)
    refine Xi (Ap N[i]) (Yi (Yi (Nn i) (B5 g2)) (Yi rfl ?_));refine Xi ⟨[(2,sl Ah s),(8,sl Ap N),(9,vs N[i].path),(10,vb true),(11,vi i)],[],Aa⟩ (Yi ⟨Z5,Tv,Fh,Tv⟩ ?_)
    refine Yi (Ii i (by omega)) ?_;refine Xi ⟨(i+1,(some N[i].path)),by omega,by show(some N[i].path)=CA s (N.take (i+1)) none;rw[Iw s N none n2,←i2];exact(cW h3 h1 h7).symm⟩ ?_;exact⟨Dl N.length i (by omega),Z5,Tv,Fh,Tv⟩
   have h7:EH N[i].path (o.getD mt)=false:=(Fi _ _).trans (AH.2 h7);refine Xi ⟨[(2,sl Ah s),(8,sl Ap N),(9,vs (o.getD mt)),(10,vb true),(11,vi i)],[],Aa⟩ (Yi ⟨Z5,Tv,Fh,Tv⟩ ?_)
   refine Yi (Ii i (by omega)) ?_;refine Xi ⟨(i+1,o),by omega,by show o=CA s (N.take (i+1)) none;rw[Iw s N none n2,←i2];exact(cX h3 h1 h7).symm⟩ ?_;exact⟨Dl N.length i (by omega),⟨Zr,Zr,Zr,⟨(show vb true=vb o.isSome by rw[h1]),rfl⟩,Zr,Tv⟩,Tv,Fh,Tv⟩
  have h2:¬((i:Int)<((N.map Ap).length:Int)):=h2;have n2:¬i<N.length:=by have q:=h2;rw[Lm]at q;omega
  exact .of_eq (show AV.tup [vs (o.getD mt),vb true]=O0 N s by unfold O0 HJ;rw[Az (by omega)]at i2;rw[←i2,h1])
 have h1:o.isSome=false:=h1;refine VV (Ac (fun bb=>(⟨[(2,sl Ah s),(8,sl Ap N),(9,vs (o.getD mt)),(10,vb bb),(11,vi i)],[],Aa⟩:LS)) h1) ?_;refine Yi (fun KZ=>?_) (fun KZ=>?_)
 ·have KZ:(i:Int)<((N.map Ap).length:Int):=KZ;have n11:i<N.length:=by have q:=KZ;rw[Lm]at q;omega
  have g11:N[i]?=some N[i]:=Ge n11;refine Xi (Ap N[i]) (Yi (Yi (Nn i) (B5 g11)) (Yi rfl ?_));refine BG (Bt (BC s N[i].path).isSome) (fun dX=>?_) (fun dX=>?_)
  ·have dX:(BC s N[i].path).isSome=true:=dX;have qU:=(show PC 127 [sl Ah s,vs N[i].path] (.tup [.agg (Ah ((BC s N[i].path).getD o6)),vb (BC s N[i].path).isSome])from tc s N[i].path tC);rw[show(BC s N[i].path).isSome=true from dX]at qU;refine Xi .pure (Xi _ (Yi qU ?_));refine Yi (Nz rfl) ?_;refine Xi ⟨[(2,sl Ah s),(8,sl Ap N),(9,vs (o.getD mt)),(10,vb false),(11,vi i),(13,vb true)],[],Aa⟩ (Yi ⟨Z6,Tv,Fh,Tv⟩ ?_)
   refine Xi ⟨[(2,sl Ah s),(8,sl Ap N),(9,vs (o.getD mt)),(10,vb false),(11,vi i)],[],Aa⟩ (Yi ⟨Z5,Tv,Fh,Tv⟩ ?_)
   refine Yi (Ii i (by omega)) ?_;refine Xi ⟨(i+1,o),by omega,by show o=CA s (N.take (i+1)) none;rw[Iw s N none n11,←i2];exact(Yd dX).symm⟩ ?_;exact⟨Dl N.length i (by omega),⟨Zr,Zr,Zr,⟨(show vb false=vb o.isSome by rw[h1]),rfl⟩,Zr,Tv⟩,Tv,Fh,Tv⟩
  have dX:(BC s N[i].path).isSome=false:=dX;have Xv:=(show PC 127 [sl Ah s,vs N[i].path] (.tup [.agg (Ah ((BC s N[i].path).getD o6)),vb (BC s N[i].path).isSome])from tc s N[i].path tC);rw[show(BC s N[i].path).isSome=false from dX]at Xv;refine Xi .pure (Xi _ (Yi Xv ?_));refine Yi (Nz rfl) ?_;refine Xi ⟨[(2,sl Ah s),(8,sl Ap N),(9,vs (o.getD mt)),(10,vb false),(11,vi i),(13,vb false)],[],Aa⟩ (Yi ⟨Z6,Tv,Fh,Tv⟩ ?_)
  refine Xi ⟨[(2,sl Ah s),(8,sl Ap N),(11,vi i)],[],Aa⟩ (Yi ⟨Z3,Tv,Fh,Tv⟩ ?_)
  refine Xi (Ap N[i]) (Yi (Yi (Nn i) (B5 g11)) (Yi rfl ?_));refine Xi ⟨[(2,sl Ah s),(8,sl Ap N),(9,vs N[i].path),(10,vb true),(11,vi i)],[],Aa⟩ (Yi ⟨Z5,Tv,Fh,Tv⟩ ?_)
  refine Yi (Ii i (by omega)) ?_;refine Xi ⟨(i+1,(some N[i].path)),by omega,by show(some N[i].path)=CA s (N.take (i+1)) none;rw[Iw s N none n11,←i2];exact(im dX h1).symm⟩ ?_;exact⟨Dl N.length i (by omega),Z5,Tv,Fh,Tv⟩
 have KZ:¬((i:Int)<((N.map Ap).length:Int)):=KZ;have n11:¬i<N.length:=by have q:=KZ;rw[Lm]at q;omega
 exact .of_eq (show AV.tup [vs (o.getD mt),vb false]=O0 N s by unfold O0 HJ;rw[Az (by omega)]at i2;rw[←i2,h1])
end Go.Eng

namespace Go.Eng
open Go.Proofs
section
variable {x:List Rl}{roots:List Rq}{s A:List Sl}{m:Nat}
end
end Go.Eng

namespace Go.Eng
open Go.Proofs
def Gw(N:List Rq)(p:ByteArray)(pl:Int):Bool:=N.any fun q=>decide (q.path=p)&&!has q.set pl
theorem eH{α:Type}{f:α→Bool}{l:List α}(h:∀j (hj:j<l.length),f l[j]=false):l.any f=false:=by
 rw[CL];intro y hy;obtain⟨j,hj,rfl⟩:=BY hy;rw[h j hj];decide
theorem jP{α:Type}{f:α→Bool}{l:List α}{j:Nat}(hj:j<l.length)(h:f l[j]=true):l.any f=true:=A3.2 ⟨_,Aj hj,h⟩
section
variable {N:List Rq}{p:ByteArray}{pl:Int}{o:Rl}
end
set_option maxHeartbeats 4000000 in
theorem qk(x:List Rl)(ifs:List (List AV))(roots:List Rq)(s:List Sl)(p:ByteArray)(pl:Int)(hx:∀r∈x,Gf r)(QO:CK x)(pF:∀q∈roots,CK q.set)(hrl:roots.length≤1000000)(hs:s.length≤1000000):PC 75 [.agg (Ic x ifs),sl Ap roots,sl Ah s,vs p,vi pl] (vb (Gw (EB x roots s) p pl)):=by
 obtain⟨N,hN⟩:∃N,N=EB x roots s:=⟨_,rfl⟩;have fW:=qj x ifs roots s hx QO hrl hs;have nH:=NS x roots s;have vL:=ZD hx pF s;rw[←hN]at fW nH vL⊢;refine Ps ⟨[],[],[],[],[],[],[],[],[],[],[4,6]⟩ Tryz.func75 rfl (Nz rfl) ?_;refine Yi (Nz rfl) ?_;refine Xi .pure (Xi _ (Yi fW ?_));refine Xi {i:Nat // i≤N.length∧∀j (h:j<N.length),j<i→(decide (N[j].path=p)&&!has N[j].set pl)=false} (Xi (fun q=>⟨[(3,vs p),(4,vi pl),(11,sl Ap N),(12,vi q.1)],[],Aa⟩) (Xi (fun q=>N.length-q.1) (Yi (Xi ⟨0,AL _,fun j _ h=>by omega⟩ ?_) ?_)))
 ·exact⟨Z4,Tv,Fh,Tv⟩
 intro⟨i,i1,i2⟩;refine Yi (fun h1=>?_) (fun h1=>?_)
 ·have h1:(i:Int)<((N.map Ap).length:Int):=h1;have n1:i<N.length:=by have q:=h1;rw[Lm]at q;omega
  have g1:N[i]?=some N[i]:=Ge n1;refine Xi (Ap N[i]) (Yi (Yi (Nn i) (B5 g1)) (Yi rfl ?_));refine Yi (fun h2=>?_) (fun h2=>?_)
  ·have h2:(N[i].path:ByteArray)=p:=h2;refine Xi (Ap N[i]) (Yi (Yi (Nn i) (B5 g1)) (Yi rfl ?_));refine BG (Bt (has N[i].set pl)) (fun h3=>?_) (fun h3=>?_)
   ·have h3:(has N[i].set pl)=true:=h3;have Xw:=jX N[i].set pl (vL _ (Aj n1));rw[show(has N[i].set pl)=true from h3]at Xw;refine Xi .pure (Xi _ (Yi Xw ?_));refine Xi ⟨[(3,vs p),(4,vi pl),(11,sl Ap N),(12,vi i)],[],Aa⟩ (Yi ⟨Z4,Tv,Fh,Tv⟩ ?_)
    refine Yi (Ii i (by omega)) ?_;refine Xi ⟨i+1,by omega,fun j hj IA=>(BV j i).elim (i2 j hj) (fun z=>by have e:i=j:=(by omega);subst e;exact(by rw[Av h2,show has N[i].set pl=true from h3];rfl))⟩ ?_;exact⟨Dl N.length i (by omega),Z4,Tv,Fh,Tv⟩
   have h3:(has N[i].set pl)=false:=h3;have gi:=jX N[i].set pl (vL _ (Aj n1));rw[show(has N[i].set pl)=false from h3]at gi;refine Xi .pure (Xi _ (Yi gi ?_));refine Xi ⟨[],[],Aa⟩ (Yi ⟨Tv,Tv,Fh,Tv⟩ ?_)
   exact .of_eq (Ac vb (show true=Gw N p pl from Eq.symm (show N.any (fun q=>decide (q.path=p)&&!has q.set pl)=true from jP n1 (by rw[Av h2,show has N[i].set pl=false from h3];rfl))))
  have h2:¬(N[i].path:ByteArray)=p:=h2;refine Xi ⟨[(3,vs p),(4,vi pl),(11,sl Ap N),(12,vi i)],[],Aa⟩ (Yi ⟨Z4,Tv,Fh,Tv⟩ ?_)
  refine Yi (Ii i (by omega)) ?_;refine Xi ⟨i+1,by omega,fun j hj IA=>(BV j i).elim (i2 j hj) (fun z=>by have e:i=j:=(by omega);subst e;exact(by rw[At h2,Bool.false_and]))⟩ ?_;exact⟨Dl N.length i (by omega),Z4,Tv,Fh,Tv⟩
 have h1:¬((i:Int)<((N.map Ap).length:Int)):=h1;have n1:¬i<N.length:=by have q:=h1;rw[Lm]at q;omega
 exact .of_eq (Ac vb (show false=Gw N p pl from(eH fun j hj=>i2 j hj (by omega)).symm))
end Go.Eng

namespace Go.Eng
open Go.Proofs
abbrev IF(b:Bool):List AV:=[vb b]
section
variable {l:List Rl}{roots:List Rq}{Cl:List ByteArray}{B:List Bool}
variable {B0:List Bool}{i:Nat}{ch:Bool}
end
end Go.Eng

namespace Go.Eng
open Go.Proofs
end Go.Eng

namespace Go.Eng
open Go.Proofs
section
variable {x l:List Rl}{roots:List Rq}{s:List Sl}
end
end Go.Eng
