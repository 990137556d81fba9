/- Lemmas for the claims of this seat, without a condition: part 21 (C43, C44, C45, C46, C47, C48, C49). -/
import Derived.Test.YtkmnnpmneamgoaaGreatDoorA20
import Derived.Lib.LastIndexLaws
namespace Go.Eng
open Go.Proofs
abbrev Y3:Option Int→AV
 |some n=>.tup [vi n,vi 0]
 |none=>.tup [vi 0,vi 4]
theorem TA(c:UInt8):∀(s x:List UInt8),x∈Fv c s→x.length≤s.length
 | [],x,h=>by
  rw[Fv]at h;rw[Ai.1 h];exact Ak _
 |b::r,x,h=>by
  have ih:=TA c r;rw[Fv]at h;split at h
  ·rcases AF.1 h with rfl | h
   ·exact AS _
   ·have:=ih x h;rw[Al];omega
  ·split at h
   ·rw[Ai.1 h];rw[Al];simp
   ·rename_i y l e;rcases AF.1 h with rfl | h
    ·have:=ih y (by rw[e];exact Ab ..);rw[Al,Al];omega
    ·have:=ih x (by rw[e];exact Ag _ h);rw[Al];omega
theorem gK{p x:ByteArray}(hp:HP p)(hx:x∈BI p):HP x:=by
 have h:x.data.toList∈Fv 47 p.data.toList:=by rw[←OO];exact Ao.2 ⟨x,hx,rfl⟩
 have:=TA 47 _ _ h
 unfold HP at *
 have e1:x.size=x.data.toList.length:=by simp
 have e2:p.size=p.data.toList.length:=by simp
 omega
theorem cK(p:ByteArray):(BI p).length=(Fv 47 p.data.toList).length:=by rw[←OO,Lm]
theorem cL(p:ByteArray):0<(BI p).length:=by
 rw[show(BI p).length=Go.Lib.countB p Yr+1 from Go.Lib.splitB_all Yr (by decide) 0 _ p rfl];omega
theorem cJ(p:ByteArray):(BI p).length≤p.size+1:=by
 rw[show(BI p).length=Go.Lib.countB p Yr+1 from Go.Lib.splitB_all Yr (by decide) 0 _ p rfl]
 have:=Go.Lib.countB_le Yr (by decide) p.size p (Ak _);omega
theorem Zb(p:ByteArray)(h:(BI p).length-1<(BI p).length):(Fv 47 p.data.toList).getLastD []=((BI p)[(BI p).length-1]).data.toList:=by
 rw[←OO,List.getLastD_eq_getLast?,List.getLast?_eq_getElem?,Lm,AH,Ge h];rfl
theorem cI(p:ByteArray):(Fv 47 p.data.toList).all Mj=(BI p).all fun x=>Mj x.data.toList:=by
 rw[←OO,List.all_map];rfl
theorem pj(p:ByteArray)(hp:HP p):PC 211 [vs p] (Y3 (CI p)):=by
 have jY:=cJ p;have YX:=cL p;have u9:(BI p).length-1<(BI p).length:=by omega
 have Ew:p.size=p.data.toList.length:=by simp
 have xH:∀{x},x∈BI p→HP x:=fun h=>gK hp h;unfold HP at hp;have TZ:((BI p).map Jx)[((((BI p).map Jx).length:Int)-1).toNat]?=some (Jx (BI p)[(BI p).length-1]):=by
  rw[Lm,show(((BI p).length:Int)-1).toNat=(BI p).length-1 by omega];exact Dr (Ge u9)
 have hv:=ti (BI p)[(BI p).length-1] (xH (AC u9));have em:CI p=match LF ((BI p)[(BI p).length-1]).data.toList with
  |none=>none
  |some n=>if(decide (64<p.data.toList.length)||decide ((BI p).length<2))=true then none else if((BI p).all fun x=>Mj x.data.toList)=true then some n else none:=by
  unfold CI Y4;rw[Zb p u9,cI,←cK];cases LF ((BI p)[(BI p).length-1]).data.toList with
  |none=>rfl
  |some n=>rfl
 cases hve:LF ((BI p)[(BI p).length-1]).data.toList with
 |none =>
  rw[hve]at hv em;refine Ps (EL [2,3]) Tryz.func211 rfl (Nz rfl) ?_;refine Xi .pure (Xi _ (Yi (pq p hp) ?_));refine Xi ⟨[(0,vs p),(4,sl Jx (BI p))],[],Aa⟩ (Yi ⟨Z2,Tv,Fh,Tv⟩ ?_)
  refine Yi (by show BQ ((((BI p).map Jx).length:Int)-1);unfold BQ;rw[Lm];omega) ?_;refine Xi (Jx (BI p)[(BI p).length-1]) (Yi (Yi (by show(0:Int)≤(((BI p).map Jx).length:Int)-1;rw[Lm];omega) TZ) (Yi rfl ?_));refine Xi .pure (Xi _ (Yi (hv) ?_));refine Xi ⟨[(0,vs p),(4,sl Jx (BI p)),(5,vi 0),(6,vb false)],[],Aa⟩ (Yi ⟨Z4,Tv,Fh,Tv⟩ ?_)
  exact .of_eq (Ae Y3 em.symm)
 |some n =>
  rw[hve]at hv em;have em:CI p=if(decide (64<p.data.toList.length)||decide ((BI p).length<2))=true then none else if((BI p).all fun x=>Mj x.data.toList)=true then some n else none:=em
  refine Ps (EL [2,3,5]) Tryz.func211 rfl (Nz rfl) ?_;refine Xi .pure (Xi _ (Yi (pq p hp) ?_));refine Xi ⟨[(0,vs p),(4,sl Jx (BI p))],[],Aa⟩ (Yi ⟨Z2,Tv,Fh,Tv⟩ ?_)
  refine Yi (by show BQ ((((BI p).map Jx).length:Int)-1);unfold BQ;rw[Lm];omega) ?_;refine Xi (Jx (BI p)[(BI p).length-1]) (Yi (Yi (by show(0:Int)≤(((BI p).map Jx).length:Int)-1;rw[Lm];omega) TZ) (Yi rfl ?_));refine Xi .pure (Xi _ (Yi (hv) ?_));refine Xi ⟨[(0,vs p),(4,sl Jx (BI p)),(5,vi n),(6,vb true)],[],Aa⟩ (Yi ⟨Z4,Tv,Fh,Tv⟩ ?_)
  refine Yi ?_ ?_
  ·intro h;have h:(64:Int)<((p.size:Nat):Int):=h;exact .of_eq (Ae Y3 (show(none:Option Int)=CI p by rw[em,AE (by omega:64<p.data.toList.length)];rfl))
  intro h;have h:¬(64:Int)<((p.size:Nat):Int):=h;have d1:decide (64<p.data.toList.length)=false:=AD (by omega);refine Yi ?_ ?_
  ·intro h2;have h2:(((BI p).map Jx).length:Int)<2:=h2;rw[Lm]at h2;exact .of_eq (Ae Y3 (show(none:Option Int)=CI p by rw[em,d1,AE (by omega:(BI p).length<2)];rfl))
  intro h2;have h2:¬(((BI p).map Jx).length:Int)<2:=h2;have d2:decide ((BI p).length<2)=false:=AD (by rw[Lm]at h2;omega);have xh:CI p=if((BI p).all fun x=>Mj x.data.toList)=true then some n else none:=by rw[em,d1,d2];rfl
  refine Xi ⟨[(4,sl Jx (BI p)),(5,vi n)],[],Aa⟩ (Yi ⟨Z2,Tv,Fh,Tv⟩ ?_)
  refine Xi {i:Nat // i≤(BI p).length∧∀j (hj:j<(BI p).length),j<i→Mj ((BI p)[j]).data.toList=true} (Xi (fun i=>⟨[(5,vi n),(33,sl Jx (BI p)),(34,vi ((BI p).map Jx).length),(35,vi i.1)],[],Aa⟩) (Xi (fun i=>(BI p).length-i.1) (Yi (Xi ⟨0,AS _,fun j _ h=>by omega⟩ ?_) ?_)))
  ·exact⟨Z4,Tv,Fh,Tv⟩
  intro⟨i,i1,i2⟩;refine Yi ?_ ?_
  ·intro h;have h:(i:Int)<((BI p).map Jx).length:=h;have h:i<(BI p).length:=by simpa using h
   have hg:(BI p)[i]?=some (BI p)[i]:=Ge h;refine Xi (Jx (BI p)[i]) (Yi (Yi (Nn i) (by simp[hg])) (Yi rfl ?_));have xF:=xH (AC h);have hn:=tj (BI p)[i] xF;have ha:=my (BI p)[i] 244 Zq tn (by unfold HP at xF;have e1:(BI p)[i].size=(BI p)[i].data.toList.length:=(by simp);omega);have no:Mj ((BI p)[i]).data.toList=false→(none:Option Int)=CI p:=fun e=>by
    rw[xh,Am];intro HW
    have:=BB.1 HW _ (AC h)
    rw[e]at this;cases this
   refine Cy (Bt (H3 ((BI p)[i]).data.toList)) (fun e1=>?_) (fun e1=>?_)
   rotate_left
   ·rw[e1]at hn;refine Xi .pure (Xi _ (Yi (hn) ?_));exact .of_eq (Ae Y3 (no (by unfold Mj;rw[e1];rfl)))
   rw[e1]at hn;refine Xi .pure (Xi _ (Yi (hn) ?_));refine Cy (Bt (((BI p)[i]).data.toList.all Zq)) (fun e2=>?_) (fun e2=>?_)
   rotate_left
   ·rw[e2]at ha;refine Xi .pure (Xi _ (Yi (ha) ?_));exact .of_eq (Ae Y3 (no (by unfold Mj;rw[e1];exact e2)))
   rw[e2]at ha;refine Xi .pure (Xi _ (Yi (ha) ?_));refine Yi (Ii i (by omega)) ?_;refine Xi ⟨i+1,by omega,fun j hj MO=>?_⟩ ?_
   ·rcases DV j i with z | z
    ·exact i2 j hj z
    ·have:j=i:=by omega
     subst this;unfold Mj;rw[e1];exact e2
   ·exact⟨by show(BI p).length-(i+1)<(BI p).length-i;omega,Z4,Tv,Fh,Tv⟩
  ·intro h;have h:¬(i:Int)<((BI p).map Jx).length:=h;have h:¬i<(BI p).length:=by simpa using h
   have e:some n=CI p:=by
    rw[xh,Aw];exact BB.2 fun x hx=>by
     obtain⟨j,hj,rfl⟩:=ED hx;exact i2 j hj (by omega)
   exact .of_eq (Ae Y3 e)
end Go.Eng

namespace Go.Eng
open Go.Proofs
theorem td(p:ByteArray)(hp:HP p):PC 212 [vs p] (vb (CI p).isSome):=by
 have hc:=pj p hp;cases h:CI p with
 |none =>
  rw[h]at hc;refine Ps FC Tryz.func212 rfl (Nz rfl) ?_;refine Xi .pure (Xi _ (Yi (hc) ?_));refine Yi ?_ ?_
  ·intro h;exact absurd (show(4:Int)=0 from h) (by decide)
  ·intro _;exact .refl _
 |some n =>
  rw[h]at hc;refine Ps FC Tryz.func212 rfl (Nz rfl) ?_;refine Xi .pure (Xi _ (Yi (hc) ?_));refine Yi ?_ ?_
  ·intro _;exact .refl _
  ·intro h;exact absurd rfl h
theorem TB(c:UInt8):∀s:List UInt8,2≤(Fv c s).length→c∈s
 | [],h=>by rw[Fv]at h;simp at h
 |b::r,h=>by
  rw[Fv]at h
  by_cases e:b=c
  ·exact e▸Ab ..
  ·rw[Am e]at h;refine Ag _ (TB c r ?_);cases hs:Fv c r with
   |nil=>rw[hs]at h;simp at h
   |cons x l=>rw[hs]at h;simpa using h
theorem f7{p:ByteArray}{m:Int}(h:CI p=some m):0≤Go.Lib.lastIndex p.data.toList [47]∧Go.Lib.lastIndex p.data.toList [47]≤p.size:=by
 have h2:2≤(Fv 47 p.data.toList).length:=by
  unfold CI Y4 at h;split at h
  ·cases h
  ·split at h
   ·cases h
   ·rename_i hn;simp only[CO,Az]at hn;omega
 have hm:=TB 47 _ h2;obtain⟨i,hi,e⟩:=ED hm;have Ew:p.size=p.data.toList.length:=by simp
 unfold Go.Lib.lastIndex;rw[Aw (by simp only[As];omega)];have uY:Go.Lib.occAt p.data.toList [47] i=true:=by
  unfold Go.Lib.occAt;rw[Br hi,e];simp
 rcases Go.Lib.lastOcc_spec p.data.toList [47] (p.data.toList.length - [(47:UInt8)].length+1)with ⟨_,h3⟩ | ⟨j,h3,h4,_⟩
 ·have:=h3 i (by simp only[As];omega)
  rw[uY]at this;cases this
 ·rw[h4];simp only[As]at h3;omega
abbrev nB(p:ByteArray):ByteArray:=p.extract 0 (Go.Lib.lastIndex p.data.toList [47]).toNat
theorem bj:TN nB:=by
 intro p hp;have hc:=pj p hp;have hi:=td p hp;unfold aa;cases h:CI p with
 |none =>
  rw[h]at hc hi;refine Ps FC Tryz.func163 rfl (Nz rfl) ?_;refine Xi .pure (Xi _ (Yi (hc) ?_));refine Xi .pure (Xi _ (Yi (hi) ?_));exact .refl _
 |some n =>
  rw[h]at hc hi;obtain⟨l1,l2⟩:=f7 h;have hl:PC 213 [vs p,vs Yr] (vi (Go.Lib.lastIndex p.data.toList [47])):=te p Yr hp;refine Ps FC Tryz.func163 rfl (Nz rfl) ?_;refine Xi .pure (Xi _ (Yi (hc) ?_));refine Xi .pure (Xi _ (Yi (hi) ?_));refine Yi ?_ ?_
  ·intro h;exact absurd rfl h
  intro _;refine Xi .pure (Xi _ (Yi (hl) ?_));refine Yi ⟨BP _,l1,l2⟩ ?_;exact .refl _
end Go.Eng

namespace Go.Eng
open Go.Proofs
abbrev jc(x:List Rl)(ifs:List (List AV))(roots:List Rq):Prop:=∀(d:List (List Tm)) (i:Nf),
 Bn Tryz.prog 183 [.ref 1000 0,.agg (AU i)] (Ad (MZ x ifs roots d) Aa) fun r h'=>r=LC (Ro (E5 i.path (BM x i.path)))∧h'=Ad (MZ x ifs roots d) Aa
abbrev RH(x:List Rl)(ifs:List (List AV))(roots:List Rq)(d:List (List Tm))(i:Nf)(r:AV)(h' : Nat→HO):Prop :=
 r=vb (BO x roots d i).isSome∧∃d',h'=Ad (MZ x ifs roots d') Aa∧∀t,BO x roots d i=some t→d'=d++[t]
theorem pA(x:List Rl)(ifs:List (List AV))(roots:List Rq)(d:List (List Tm))(p:ByteArray)(pl nu le ri:Int)(hd:d.length≤65536)(hr:∀q∈roots,Cv q.set) :
  Bn Tryz.prog 79 [.ref 1000 0,.agg (AU ⟨0,p,pl,nu,le,ri⟩)] (Ad (MZ x ifs roots d) Aa) fun r h'=>RH x ifs roots d ⟨0,p,pl,nu,le,ri⟩ r h':=by
 have LT:BO x roots d ⟨0,p,pl,nu,le,ri⟩=if p=mt∧pl=0∧le=0∧ri=0 then(Fr roots nu).map GJ else none:=rfl
 by_cases hc:p=mt∧pl=0∧le=0∧ri=0
 ·have LU:BO x roots d ⟨0,p,pl,nu,le,ri⟩=(Fr roots nu).map GJ:=by rw[LT,Aw hc]
  have Jy:=sZ x ifs roots d ⟨0,p,pl,nu,le,ri⟩ hr;cases ho:(Fr roots nu).map GJ with
  |none =>
   have FZ:BO x roots d ⟨0,p,pl,nu,le,ri⟩=none:=by rw[LU,ho]
   rw[ho]at Jy;refine BD (Iv (EL [3,4,6])) [(1000,1000),(1001,1001)] rfl BS hm rfl Tryz.func79 (by kernel_rfl) rfl (Nz rfl) (by kernel_rfl) rfl ?_;refine Yi ?_ ?_
   ·intro h;exact absurd (show(0:Int)<0 from h) (by decide)
   intro _;refine Yi ?_ ?_
   ·intro h;exact absurd (show(3:Int)<0 from h) (by decide)
   intro _;refine Xi ⟨[(0,.ref 1000 0),(3,.ref 3 0)],[(3,.cells (AU ⟨0,p,pl,nu,le,ri⟩)),(1000,Iu x ifs roots d),(1001,IE d)],Aa⟩ (Yi ⟨Z2,Z3,Fh,Aj (by kernel_rfl)⟩ ?_)
   refine Xi _ (Yi (QQ) ?_);refine Yi ⟨by show(0:Int)≤0;decide,by show(0:Int)<4;decide⟩ ?_;refine Yi (Nz rfl) (Yi (Nz rfl) ?_);refine Yi (by kernel_rfl) ?_;refine Xi ⟨[(0,.ref 1000 0),(3,.ref 3 0),(5,.ref 5 0)],[(3,.cells (AU ⟨0,p,pl,nu,le,ri⟩)),(5,.cells [.v (GC 178),.v (GC 179)]),(1000,Iu x ifs roots d),(1001,IE d)],Aa⟩ (Yi ⟨Z3,Z4,Fh,Aj (by kernel_rfl)⟩ ?_)
   refine Yi (Nz rfl) ?_;refine Xi _ (Yi (mp ⟨0,p,pl,nu,le,ri⟩) ?_);refine Yi ?_ ?_
   rotate_left
   ·intro h6;have he:WR [vi 0,vs p,vi pl,vi 0,vi le,vi ri] [vi 0,vs mt,vi 0,vi 0,vi 0,vi 0]:=⟨rfl,hc.1,hc.2.1,rfl,hc.2.2.1,hc.2.2.2,trivial⟩;exact absurd he h6
   intro _;refine Yi (by kernel_rfl) ?_;refine Xi ⟨[(0,.ref 1000 0),(3,.ref 3 0),(5,.ref 5 0)],[(3,.cells (AU ⟨0,p,pl,nu,le,ri⟩)),(5,.cells [.v (GC 178),.v (GC 179)]),(1000,Iu x ifs roots d),(1001,IE d)],Aa⟩ (Yi ⟨Z3,Z4,Fh,Aj (by kernel_rfl)⟩ ?_)
   refine Yi (Nz rfl) ?_;refine Xi (.gen [(1000,1000),(1001,1001)] 0) (Yi rfl (Jy.imp ?_));intro v1 g1 q1;have Tj:=q1.1;have LJ:=q1.2;subst Tj;subst LJ;have Ei:BY 1 [AG []]∧(d.map AG).length=(d.map AG).length∧((d.map AG).length+[AG []].length)*24≤140737488355328∧(d.map AG).length+[AG []].length≤9223372036854775807 :=
    ⟨⟨rfl,trivial⟩,rfl,by rw[Lm,As];omega,by rw[Lm,As];omega⟩
   refine Yi Ei ?_;refine Yi (Nz rfl) ?_;have eh:Ad [(1000,HO.cells [sl A5 x,.slice .none ifs,sl Ah roots,.slice (.id 1001 1) (d.map AG++[AG []])]),(1001,.tok 1 ((d.map AG).length+[AG []].length))] Aa=Ad (MZ x ifs roots (d++[[]])) Aa:=by
    simp[MZ,Iu,js,IE]
   have er:vb false=vb (BO x roots d ⟨0,p,pl,nu,le,ri⟩).isSome:=by rw[FZ];rfl
   exact Xi _ (Yi (.refl _) (Yi er (Xi (d++[[]]) (Yi eh (fun t ht=>by rw[FZ]at ht;cases ht)))))
  |some tt =>
   have FZ:BO x roots d ⟨0,p,pl,nu,le,ri⟩=some tt:=by rw[LU,ho]
   rw[ho]at Jy;refine BD (Iv (EL [3,4,6])) [(1000,1000),(1001,1001)] rfl BS hm rfl Tryz.func79 (by kernel_rfl) rfl (Nz rfl) (by kernel_rfl) rfl ?_;refine Yi ?_ ?_
   ·intro h;exact absurd (show(0:Int)<0 from h) (by decide)
   intro _;refine Yi ?_ ?_
   ·intro h;exact absurd (show(3:Int)<0 from h) (by decide)
   intro _;refine Xi ⟨[(0,.ref 1000 0),(3,.ref 3 0)],[(3,.cells (AU ⟨0,p,pl,nu,le,ri⟩)),(1000,Iu x ifs roots d),(1001,IE d)],Aa⟩ (Yi ⟨Z2,Z3,Fh,Aj (by kernel_rfl)⟩ ?_)
   refine Xi _ (Yi (QQ) ?_);refine Yi ⟨by show(0:Int)≤0;decide,by show(0:Int)<4;decide⟩ ?_;refine Yi (Nz rfl) (Yi (Nz rfl) ?_);refine Yi (by kernel_rfl) ?_;refine Xi ⟨[(0,.ref 1000 0),(3,.ref 3 0),(5,.ref 5 0)],[(3,.cells (AU ⟨0,p,pl,nu,le,ri⟩)),(5,.cells [.v (GC 178),.v (GC 179)]),(1000,Iu x ifs roots d),(1001,IE d)],Aa⟩ (Yi ⟨Z3,Z4,Fh,Aj (by kernel_rfl)⟩ ?_)
   refine Yi (Nz rfl) ?_;refine Xi _ (Yi (mp ⟨0,p,pl,nu,le,ri⟩) ?_);refine Yi ?_ ?_
   rotate_left
   ·intro h6;have he:WR [vi 0,vs p,vi pl,vi 0,vi le,vi ri] [vi 0,vs mt,vi 0,vi 0,vi 0,vi 0]:=⟨rfl,hc.1,hc.2.1,rfl,hc.2.2.1,hc.2.2.2,trivial⟩;exact absurd he h6
   intro _;refine Yi (by kernel_rfl) ?_;refine Xi ⟨[(0,.ref 1000 0),(3,.ref 3 0),(5,.ref 5 0)],[(3,.cells (AU ⟨0,p,pl,nu,le,ri⟩)),(5,.cells [.v (GC 178),.v (GC 179)]),(1000,Iu x ifs roots d),(1001,IE d)],Aa⟩ (Yi ⟨Z3,Z4,Fh,Aj (by kernel_rfl)⟩ ?_)
   refine Yi (Nz rfl) ?_;refine Xi (.gen [(1000,1000),(1001,1001)] 0) (Yi rfl (Jy.imp ?_));intro v1 g1 q1;have Tj:=q1.1;have LJ:=q1.2;subst Tj;subst LJ;have Ei:BY 1 [AG tt]∧(d.map AG).length=(d.map AG).length∧((d.map AG).length+[AG tt].length)*24≤140737488355328∧(d.map AG).length+[AG tt].length≤9223372036854775807 :=
    ⟨⟨rfl,trivial⟩,rfl,by rw[Lm,As];omega,by rw[Lm,As];omega⟩
   refine Yi Ei ?_;refine Yi (Nz rfl) ?_;have eh:Ad [(1000,HO.cells [sl A5 x,.slice .none ifs,sl Ah roots,.slice (.id 1001 1) (d.map AG++[AG tt])]),(1001,.tok 1 ((d.map AG).length+[AG tt].length))] Aa=Ad (MZ x ifs roots (d++[tt])) Aa:=by
    simp[MZ,Iu,js,IE]
   have er:vb true=vb (BO x roots d ⟨0,p,pl,nu,le,ri⟩).isSome:=by rw[FZ];rfl
   exact Xi _ (Yi (.refl _) (Yi er (Xi (d++[tt]) (Yi eh (fun t ht=>by rw[FZ]at ht;cases ht;rfl)))))
 ·have FZ:BO x roots d ⟨0,p,pl,nu,le,ri⟩=none:=by rw[LT,Am hc]
  refine BD (Iv (EL [3,4,6])) [(1000,1000),(1001,1001)] rfl BS hm rfl Tryz.func79 (by kernel_rfl) rfl (Nz rfl) (by kernel_rfl) rfl ?_;refine Yi ?_ ?_
  ·intro h;exact absurd (show(0:Int)<0 from h) (by decide)
  intro _;refine Yi ?_ ?_
  ·intro h;exact absurd (show(3:Int)<0 from h) (by decide)
  intro _;refine Xi ⟨[(0,.ref 1000 0),(3,.ref 3 0)],[(3,.cells (AU ⟨0,p,pl,nu,le,ri⟩)),(1000,Iu x ifs roots d),(1001,IE d)],Aa⟩ (Yi ⟨Z2,Z3,Fh,Aj (by kernel_rfl)⟩ ?_)
  refine Xi _ (Yi (QQ) ?_);refine Yi ⟨by show(0:Int)≤0;decide,by show(0:Int)<4;decide⟩ ?_;refine Yi (Nz rfl) (Yi (Nz rfl) ?_);refine Yi (by kernel_rfl) ?_;refine Xi ⟨[(0,.ref 1000 0),(3,.ref 3 0),(5,.ref 5 0)],[(3,.cells (AU ⟨0,p,pl,nu,le,ri⟩)),(5,.cells [.v (GC 178),.v (GC 179)]),(1000,Iu x ifs roots d),(1001,IE d)],Aa⟩ (Yi ⟨Z3,Z4,Fh,Aj (by kernel_rfl)⟩ ?_)
  refine Yi (Nz rfl) ?_;refine Xi _ (Yi (mp ⟨0,p,pl,nu,le,ri⟩) ?_);refine Yi ?_ ?_
  ·intro h6;exact absurd (show p=mt∧pl=0∧le=0∧ri=0 from⟨h6.2.1,h6.2.2.1,h6.2.2.2.2.1,h6.2.2.2.2.2.1⟩) hc
  intro _;refine Yi (by kernel_rfl) ?_;have er:vb false=vb (BO x roots d ⟨0,p,pl,nu,le,ri⟩).isSome:=by rw[FZ];rfl
  exact Xi _ (Yi (.refl _) (Yi er (Xi d (Yi rfl (fun t ht=>by rw[FZ]at ht;cases ht)))))
theorem pB(x:List Rl)(ifs:List (List AV))(roots:List Rq)(d:List (List Tm))(p:ByteArray)(pl nu le ri:Int)(hd:d.length≤65536)(hx:Cv x)(hq:∀r∈x,∀q∈r.reqs,Cv q.set) :
  Bn Tryz.prog 79 [.ref 1000 0,.agg (AU ⟨1,p,pl,nu,le,ri⟩)] (Ad (MZ x ifs roots d) Aa) fun r h'=>RH x ifs roots d ⟨1,p,pl,nu,le,ri⟩ r h':=by
 have LT:BO x roots d ⟨1,p,pl,nu,le,ri⟩=if le=0∧ri=0 then QX x ⟨1,p,pl,nu,le,ri⟩else none:=rfl
 by_cases hc:le=0∧ri=0
 ·have LU:BO x roots d ⟨1,p,pl,nu,le,ri⟩=QX x ⟨1,p,pl,nu,le,ri⟩:=by rw[LT,Aw hc]
  have Jy:=s5 x ifs roots d ⟨1,p,pl,nu,le,ri⟩ hx hq;cases ho:QX x ⟨1,p,pl,nu,le,ri⟩with
  |none =>
   have FZ:BO x roots d ⟨1,p,pl,nu,le,ri⟩=none:=by rw[LU,ho]
   rw[ho]at Jy;refine BD (Iv (EL [3,4,6])) [(1000,1000),(1001,1001)] rfl BS hm rfl Tryz.func79 (by kernel_rfl) rfl (Nz rfl) (by kernel_rfl) rfl ?_;refine Yi ?_ ?_
   ·intro h;exact absurd (show(1:Int)<0 from h) (by decide)
   intro _;refine Yi ?_ ?_
   ·intro h;exact absurd (show(3:Int)<1 from h) (by decide)
   intro _;refine Xi ⟨[(0,.ref 1000 0),(3,.ref 3 0)],[(3,.cells (AU ⟨1,p,pl,nu,le,ri⟩)),(1000,Iu x ifs roots d),(1001,IE d)],Aa⟩ (Yi ⟨Z2,Z3,Fh,Aj (by kernel_rfl)⟩ ?_)
   refine Xi _ (Yi (QQ) ?_);refine Yi ⟨by show(0:Int)≤1;decide,by show(1:Int)<4;decide⟩ ?_;refine Yi (Nz rfl) (Yi (Nz rfl) ?_);refine Yi (by kernel_rfl) ?_;refine Xi ⟨[(0,.ref 1000 0),(3,.ref 3 0),(5,.ref 5 0)],[(3,.cells (AU ⟨1,p,pl,nu,le,ri⟩)),(5,.cells [.v (GC 180),.v (GC 181)]),(1000,Iu x ifs roots d),(1001,IE d)],Aa⟩ (Yi ⟨Z3,Z4,Fh,Aj (by kernel_rfl)⟩ ?_)
   refine Yi (Nz rfl) ?_;refine Xi _ (Yi (mq ⟨1,p,pl,nu,le,ri⟩) ?_);refine Yi ?_ ?_
   rotate_left
   ·intro h6;have he:WR [vi 1,vs mt,vi 0,vi 0,vi le,vi ri] [vi 1,vs mt,vi 0,vi 0,vi 0,vi 0]:=⟨rfl,rfl,rfl,rfl,hc.1,hc.2,trivial⟩;exact absurd he h6
   intro _;refine Yi (by kernel_rfl) ?_;refine Xi ⟨[(0,.ref 1000 0),(3,.ref 3 0),(5,.ref 5 0)],[(3,.cells (AU ⟨1,p,pl,nu,le,ri⟩)),(5,.cells [.v (GC 180),.v (GC 181)]),(1000,Iu x ifs roots d),(1001,IE d)],Aa⟩ (Yi ⟨Z3,Z4,Fh,Aj (by kernel_rfl)⟩ ?_)
   refine Yi (Nz rfl) ?_;refine Xi (.gen [(1000,1000),(1001,1001)] 0) (Yi rfl (Jy.imp ?_));intro v1 g1 q1;have Tj:=q1.1;have LJ:=q1.2;subst Tj;subst LJ;have Ei:BY 1 [AG []]∧(d.map AG).length=(d.map AG).length∧((d.map AG).length+[AG []].length)*24≤140737488355328∧(d.map AG).length+[AG []].length≤9223372036854775807 :=
    ⟨⟨rfl,trivial⟩,rfl,by rw[Lm,As];omega,by rw[Lm,As];omega⟩
   refine Yi Ei ?_;refine Yi (Nz rfl) ?_;have eh:Ad [(1000,HO.cells [sl A5 x,.slice .none ifs,sl Ah roots,.slice (.id 1001 1) (d.map AG++[AG []])]),(1001,.tok 1 ((d.map AG).length+[AG []].length))] Aa=Ad (MZ x ifs roots (d++[[]])) Aa:=by
    simp[MZ,Iu,js,IE]
   have er:vb false=vb (BO x roots d ⟨1,p,pl,nu,le,ri⟩).isSome:=by rw[FZ];rfl
   exact Xi _ (Yi (.refl _) (Yi er (Xi (d++[[]]) (Yi eh (fun t ht=>by rw[FZ]at ht;cases ht)))))
  |some tt =>
   have FZ:BO x roots d ⟨1,p,pl,nu,le,ri⟩=some tt:=by rw[LU,ho]
   rw[ho]at Jy;refine BD (Iv (EL [3,4,6])) [(1000,1000),(1001,1001)] rfl BS hm rfl Tryz.func79 (by kernel_rfl) rfl (Nz rfl) (by kernel_rfl) rfl ?_;refine Yi ?_ ?_
   ·intro h;exact absurd (show(1:Int)<0 from h) (by decide)
   intro _;refine Yi ?_ ?_
   ·intro h;exact absurd (show(3:Int)<1 from h) (by decide)
   intro _;refine Xi ⟨[(0,.ref 1000 0),(3,.ref 3 0)],[(3,.cells (AU ⟨1,p,pl,nu,le,ri⟩)),(1000,Iu x ifs roots d),(1001,IE d)],Aa⟩ (Yi ⟨Z2,Z3,Fh,Aj (by kernel_rfl)⟩ ?_)
   refine Xi _ (Yi (QQ) ?_);refine Yi ⟨by show(0:Int)≤1;decide,by show(1:Int)<4;decide⟩ ?_;refine Yi (Nz rfl) (Yi (Nz rfl) ?_);refine Yi (by kernel_rfl) ?_;refine Xi ⟨[(0,.ref 1000 0),(3,.ref 3 0),(5,.ref 5 0)],[(3,.cells (AU ⟨1,p,pl,nu,le,ri⟩)),(5,.cells [.v (GC 180),.v (GC 181)]),(1000,Iu x ifs roots d),(1001,IE d)],Aa⟩ (Yi ⟨Z3,Z4,Fh,Aj (by kernel_rfl)⟩ ?_)
   refine Yi (Nz rfl) ?_;refine Xi _ (Yi (mq ⟨1,p,pl,nu,le,ri⟩) ?_);refine Yi ?_ ?_
   rotate_left
   ·intro h6;have he:WR [vi 1,vs mt,vi 0,vi 0,vi le,vi ri] [vi 1,vs mt,vi 0,vi 0,vi 0,vi 0]:=⟨rfl,rfl,rfl,rfl,hc.1,hc.2,trivial⟩;exact absurd he h6
   intro _;refine Yi (by kernel_rfl) ?_;refine Xi ⟨[(0,.ref 1000 0),(3,.ref 3 0),(5,.ref 5 0)],[(3,.cells (AU ⟨1,p,pl,nu,le,ri⟩)),(5,.cells [.v (GC 180),.v (GC 181)]),(1000,Iu x ifs roots d),(1001,IE d)],Aa⟩ (Yi ⟨Z3,Z4,Fh,Aj (by kernel_rfl)⟩ ?_)
   refine Yi (Nz rfl) ?_;refine Xi (.gen [(1000,1000),(1001,1001)] 0) (Yi rfl (Jy.imp ?_));intro v1 g1 q1;have Tj:=q1.1;have LJ:=q1.2;subst Tj;subst LJ;have Ei:BY 1 [AG tt]∧(d.map AG).length=(d.map AG).length∧((d.map AG).length+[AG tt].length)*24≤140737488355328∧(d.map AG).length+[AG tt].length≤9223372036854775807 :=
    ⟨⟨rfl,trivial⟩,rfl,by rw[Lm,As];omega,by rw[Lm,As];omega⟩
   refine Yi Ei ?_;refine Yi (Nz rfl) ?_;have eh:Ad [(1000,HO.cells [sl A5 x,.slice .none ifs,sl Ah roots,.slice (.id 1001 1) (d.map AG++[AG tt])]),(1001,.tok 1 ((d.map AG).length+[AG tt].length))] Aa=Ad (MZ x ifs roots (d++[tt])) Aa:=by
    simp[MZ,Iu,js,IE]
   have er:vb true=vb (BO x roots d ⟨1,p,pl,nu,le,ri⟩).isSome:=by rw[FZ];rfl
   exact Xi _ (Yi (.refl _) (Yi er (Xi (d++[tt]) (Yi eh (fun t ht=>by rw[FZ]at ht;cases ht;rfl)))))
 ·have FZ:BO x roots d ⟨1,p,pl,nu,le,ri⟩=none:=by rw[LT,Am hc]
  refine BD (Iv (EL [3,4,6])) [(1000,1000),(1001,1001)] rfl BS hm rfl Tryz.func79 (by kernel_rfl) rfl (Nz rfl) (by kernel_rfl) rfl ?_;refine Yi ?_ ?_
  ·intro h;exact absurd (show(1:Int)<0 from h) (by decide)
  intro _;refine Yi ?_ ?_
  ·intro h;exact absurd (show(3:Int)<1 from h) (by decide)
  intro _;refine Xi ⟨[(0,.ref 1000 0),(3,.ref 3 0)],[(3,.cells (AU ⟨1,p,pl,nu,le,ri⟩)),(1000,Iu x ifs roots d),(1001,IE d)],Aa⟩ (Yi ⟨Z2,Z3,Fh,Aj (by kernel_rfl)⟩ ?_)
  refine Xi _ (Yi (QQ) ?_);refine Yi ⟨by show(0:Int)≤1;decide,by show(1:Int)<4;decide⟩ ?_;refine Yi (Nz rfl) (Yi (Nz rfl) ?_);refine Yi (by kernel_rfl) ?_;refine Xi ⟨[(0,.ref 1000 0),(3,.ref 3 0),(5,.ref 5 0)],[(3,.cells (AU ⟨1,p,pl,nu,le,ri⟩)),(5,.cells [.v (GC 180),.v (GC 181)]),(1000,Iu x ifs roots d),(1001,IE d)],Aa⟩ (Yi ⟨Z3,Z4,Fh,Aj (by kernel_rfl)⟩ ?_)
  refine Yi (Nz rfl) ?_;refine Xi _ (Yi (mq ⟨1,p,pl,nu,le,ri⟩) ?_);refine Yi ?_ ?_
  ·intro h6;exact absurd (show le=0∧ri=0 from⟨h6.2.2.2.2.1,h6.2.2.2.2.2.1⟩) hc
  intro _;refine Yi (by kernel_rfl) ?_;have er:vb false=vb (BO x roots d ⟨1,p,pl,nu,le,ri⟩).isSome:=by rw[FZ];rfl
  exact Xi _ (Yi (.refl _) (Yi er (Xi d (Yi rfl (fun t ht=>by rw[FZ]at ht;cases ht)))))
theorem pC(x:List Rl)(ifs:List (List AV))(roots:List Rq)(d:List (List Tm))(p:ByteArray)(pl nu le ri:Int)(hd:d.length≤65536)(ff:jc x ifs roots) :
  Bn Tryz.prog 79 [.ref 1000 0,.agg (AU ⟨2,p,pl,nu,le,ri⟩)] (Ad (MZ x ifs roots d) Aa) fun r h'=>RH x ifs roots d ⟨2,p,pl,nu,le,ri⟩ r h':=by
 have LT:BO x roots d ⟨2,p,pl,nu,le,ri⟩=if pl=0∧nu=0∧le=0∧ri=0 then Ro (E5 p (BM x p))else none:=rfl
 by_cases hc:pl=0∧nu=0∧le=0∧ri=0
 ·have LU:BO x roots d ⟨2,p,pl,nu,le,ri⟩=Ro (E5 p (BM x p)):=by rw[LT,Aw hc]
  have Jy:=ff d ⟨2,p,pl,nu,le,ri⟩;cases ho:Ro (E5 p (BM x p))with
  |none =>
   have FZ:BO x roots d ⟨2,p,pl,nu,le,ri⟩=none:=by rw[LU,ho]
   rw[ho]at Jy;refine BD (Iv (EL [3,4,6])) [(1000,1000),(1001,1001)] rfl BS hm rfl Tryz.func79 (by kernel_rfl) rfl (Nz rfl) (by kernel_rfl) rfl ?_;refine Yi ?_ ?_
   ·intro h;exact absurd (show(2:Int)<0 from h) (by decide)
   intro _;refine Yi ?_ ?_
   ·intro h;exact absurd (show(3:Int)<2 from h) (by decide)
   intro _;refine Xi ⟨[(0,.ref 1000 0),(3,.ref 3 0)],[(3,.cells (AU ⟨2,p,pl,nu,le,ri⟩)),(1000,Iu x ifs roots d),(1001,IE d)],Aa⟩ (Yi ⟨Z2,Z3,Fh,Aj (by kernel_rfl)⟩ ?_)
   refine Xi _ (Yi (QQ) ?_);refine Yi ⟨by show(0:Int)≤2;decide,by show(2:Int)<4;decide⟩ ?_;refine Yi (Nz rfl) (Yi (Nz rfl) ?_);refine Yi (by kernel_rfl) ?_;refine Xi ⟨[(0,.ref 1000 0),(3,.ref 3 0),(5,.ref 5 0)],[(3,.cells (AU ⟨2,p,pl,nu,le,ri⟩)),(5,.cells [.v (GC 182),.v (GC 183)]),(1000,Iu x ifs roots d),(1001,IE d)],Aa⟩ (Yi ⟨Z3,Z4,Fh,Aj (by kernel_rfl)⟩ ?_)
   refine Yi (Nz rfl) ?_;refine Xi _ (Yi (mr ⟨2,p,pl,nu,le,ri⟩) ?_);refine Yi ?_ ?_
   rotate_left
   ·intro h6;have he:WR [vi 2,vs mt,vi pl,vi nu,vi le,vi ri] [vi 2,vs mt,vi 0,vi 0,vi 0,vi 0]:=⟨rfl,rfl,hc.1,hc.2.1,hc.2.2.1,hc.2.2.2,trivial⟩;exact absurd he h6
   intro _;refine Yi (by kernel_rfl) ?_;refine Xi ⟨[(0,.ref 1000 0),(3,.ref 3 0),(5,.ref 5 0)],[(3,.cells (AU ⟨2,p,pl,nu,le,ri⟩)),(5,.cells [.v (GC 182),.v (GC 183)]),(1000,Iu x ifs roots d),(1001,IE d)],Aa⟩ (Yi ⟨Z3,Z4,Fh,Aj (by kernel_rfl)⟩ ?_)
   refine Yi (Nz rfl) ?_;refine Xi (.gen [(1000,1000),(1001,1001)] 0) (Yi rfl (Jy.imp ?_));intro v1 g1 q1;have Tj:=q1.1;have LJ:=q1.2;subst Tj;subst LJ;have Ei:BY 1 [AG []]∧(d.map AG).length=(d.map AG).length∧((d.map AG).length+[AG []].length)*24≤140737488355328∧(d.map AG).length+[AG []].length≤9223372036854775807 :=
    ⟨⟨rfl,trivial⟩,rfl,by rw[Lm,As];omega,by rw[Lm,As];omega⟩
   refine Yi Ei ?_;refine Yi (Nz rfl) ?_;have eh:Ad [(1000,HO.cells [sl A5 x,.slice .none ifs,sl Ah roots,.slice (.id 1001 1) (d.map AG++[AG []])]),(1001,.tok 1 ((d.map AG).length+[AG []].length))] Aa=Ad (MZ x ifs roots (d++[[]])) Aa:=by
    simp[MZ,Iu,js,IE]
   have er:vb false=vb (BO x roots d ⟨2,p,pl,nu,le,ri⟩).isSome:=by rw[FZ];rfl
   exact Xi _ (Yi (.refl _) (Yi er (Xi (d++[[]]) (Yi eh (fun t ht=>by rw[FZ]at ht;cases ht)))))
  |some tt =>
   have FZ:BO x roots d ⟨2,p,pl,nu,le,ri⟩=some tt:=by rw[LU,ho]
   rw[ho]at Jy;refine BD (Iv (EL [3,4,6])) [(1000,1000),(1001,1001)] rfl BS hm rfl Tryz.func79 (by kernel_rfl) rfl (Nz rfl) (by kernel_rfl) rfl ?_;refine Yi ?_ ?_
   ·intro h;exact absurd (show(2:Int)<0 from h) (by decide)
   intro _;refine Yi ?_ ?_
   ·intro h;exact absurd (show(3:Int)<2 from h) (by decide)
   intro _;refine Xi ⟨[(0,.ref 1000 0),(3,.ref 3 0)],[(3,.cells (AU ⟨2,p,pl,nu,le,ri⟩)),(1000,Iu x ifs roots d),(1001,IE d)],Aa⟩ (Yi ⟨Z2,Z3,Fh,Aj (by kernel_rfl)⟩ ?_)
   refine Xi _ (Yi (QQ) ?_);refine Yi ⟨by show(0:Int)≤2;decide,by show(2:Int)<4;decide⟩ ?_;refine Yi (Nz rfl) (Yi (Nz rfl) ?_);refine Yi (by kernel_rfl) ?_;refine Xi ⟨[(0,.ref 1000 0),(3,.ref 3 0),(5,.ref 5 0)],[(3,.cells (AU ⟨2,p,pl,nu,le,ri⟩)),(5,.cells [.v (GC 182),.v (GC 183)]),(1000,Iu x ifs roots d),(1001,IE d)],Aa⟩ (Yi ⟨Z3,Z4,Fh,Aj (by kernel_rfl)⟩ ?_)
   refine Yi (Nz rfl) ?_;refine Xi _ (Yi (mr ⟨2,p,pl,nu,le,ri⟩) ?_);refine Yi ?_ ?_
   rotate_left
   ·intro h6;have he:WR [vi 2,vs mt,vi pl,vi nu,vi le,vi ri] [vi 2,vs mt,vi 0,vi 0,vi 0,vi 0]:=⟨rfl,rfl,hc.1,hc.2.1,hc.2.2.1,hc.2.2.2,trivial⟩;exact absurd he h6
   intro _;refine Yi (by kernel_rfl) ?_;refine Xi ⟨[(0,.ref 1000 0),(3,.ref 3 0),(5,.ref 5 0)],[(3,.cells (AU ⟨2,p,pl,nu,le,ri⟩)),(5,.cells [.v (GC 182),.v (GC 183)]),(1000,Iu x ifs roots d),(1001,IE d)],Aa⟩ (Yi ⟨Z3,Z4,Fh,Aj (by kernel_rfl)⟩ ?_)
   refine Yi (Nz rfl) ?_;refine Xi (.gen [(1000,1000),(1001,1001)] 0) (Yi rfl (Jy.imp ?_));intro v1 g1 q1;have Tj:=q1.1;have LJ:=q1.2;subst Tj;subst LJ;have Ei:BY 1 [AG tt]∧(d.map AG).length=(d.map AG).length∧((d.map AG).length+[AG tt].length)*24≤140737488355328∧(d.map AG).length+[AG tt].length≤9223372036854775807 :=
    ⟨⟨rfl,trivial⟩,rfl,by rw[Lm,As];omega,by rw[Lm,As];omega⟩
   refine Yi Ei ?_;refine Yi (Nz rfl) ?_;have eh:Ad [(1000,HO.cells [sl A5 x,.slice .none ifs,sl Ah roots,.slice (.id 1001 1) (d.map AG++[AG tt])]),(1001,.tok 1 ((d.map AG).length+[AG tt].length))] Aa=Ad (MZ x ifs roots (d++[tt])) Aa:=by
    simp[MZ,Iu,js,IE]
   have er:vb true=vb (BO x roots d ⟨2,p,pl,nu,le,ri⟩).isSome:=by rw[FZ];rfl
   exact Xi _ (Yi (.refl _) (Yi er (Xi (d++[tt]) (Yi eh (fun t ht=>by rw[FZ]at ht;cases ht;rfl)))))
 ·have FZ:BO x roots d ⟨2,p,pl,nu,le,ri⟩=none:=by rw[LT,Am hc]
  refine BD (Iv (EL [3,4,6])) [(1000,1000),(1001,1001)] rfl BS hm rfl Tryz.func79 (by kernel_rfl) rfl (Nz rfl) (by kernel_rfl) rfl ?_;refine Yi ?_ ?_
  ·intro h;exact absurd (show(2:Int)<0 from h) (by decide)
  intro _;refine Yi ?_ ?_
  ·intro h;exact absurd (show(3:Int)<2 from h) (by decide)
  intro _;refine Xi ⟨[(0,.ref 1000 0),(3,.ref 3 0)],[(3,.cells (AU ⟨2,p,pl,nu,le,ri⟩)),(1000,Iu x ifs roots d),(1001,IE d)],Aa⟩ (Yi ⟨Z2,Z3,Fh,Aj (by kernel_rfl)⟩ ?_)
  refine Xi _ (Yi (QQ) ?_);refine Yi ⟨by show(0:Int)≤2;decide,by show(2:Int)<4;decide⟩ ?_;refine Yi (Nz rfl) (Yi (Nz rfl) ?_);refine Yi (by kernel_rfl) ?_;refine Xi ⟨[(0,.ref 1000 0),(3,.ref 3 0),(5,.ref 5 0)],[(3,.cells (AU ⟨2,p,pl,nu,le,ri⟩)),(5,.cells [.v (GC 182),.v (GC 183)]),(1000,Iu x ifs roots d),(1001,IE d)],Aa⟩ (Yi ⟨Z3,Z4,Fh,Aj (by kernel_rfl)⟩ ?_)
  refine Yi (Nz rfl) ?_;refine Xi _ (Yi (mr ⟨2,p,pl,nu,le,ri⟩) ?_);refine Yi ?_ ?_
  ·intro h6;exact absurd (show pl=0∧nu=0∧le=0∧ri=0 from⟨h6.2.2.1,h6.2.2.2.1,h6.2.2.2.2.1,h6.2.2.2.2.2.1⟩) hc
  intro _;refine Yi (by kernel_rfl) ?_;have er:vb false=vb (BO x roots d ⟨2,p,pl,nu,le,ri⟩).isSome:=by rw[FZ];rfl
  exact Xi _ (Yi (.refl _) (Yi er (Xi d (Yi rfl (fun t ht=>by rw[FZ]at ht;cases ht)))))
theorem pD(x:List Rl)(ifs:List (List AV))(roots:List Rq)(d:List (List Tm))(p:ByteArray)(pl nu le ri:Int)(hd:d.length≤65536)(hi:∀t∈d,aN t) :
  Bn Tryz.prog 79 [.ref 1000 0,.agg (AU ⟨3,p,pl,nu,le,ri⟩)] (Ad (MZ x ifs roots d) Aa) fun r h'=>RH x ifs roots d ⟨3,p,pl,nu,le,ri⟩ r h':=by
 have LT:BO x roots d ⟨3,p,pl,nu,le,ri⟩=if pl=0∧nu=0 then OR d ⟨3,p,pl,nu,le,ri⟩else none:=rfl
 by_cases hc:pl=0∧nu=0
 ·have LU:BO x roots d ⟨3,p,pl,nu,le,ri⟩=OR d ⟨3,p,pl,nu,le,ri⟩:=by rw[LT,Aw hc]
  have Jy:=s9 x ifs roots d ⟨3,p,pl,nu,le,ri⟩ hi;cases ho:OR d ⟨3,p,pl,nu,le,ri⟩with
  |none =>
   have FZ:BO x roots d ⟨3,p,pl,nu,le,ri⟩=none:=by rw[LU,ho]
   rw[ho]at Jy;refine BD (Iv (EL [3,4,6])) [(1000,1000),(1001,1001)] rfl BS hm rfl Tryz.func79 (by kernel_rfl) rfl (Nz rfl) (by kernel_rfl) rfl ?_;refine Yi ?_ ?_
   ·intro h;exact absurd (show(3:Int)<0 from h) (by decide)
   intro _;refine Yi ?_ ?_
   ·intro h;exact absurd (show(3:Int)<3 from h) (by decide)
   intro _;refine Xi ⟨[(0,.ref 1000 0),(3,.ref 3 0)],[(3,.cells (AU ⟨3,p,pl,nu,le,ri⟩)),(1000,Iu x ifs roots d),(1001,IE d)],Aa⟩ (Yi ⟨Z2,Z3,Fh,Aj (by kernel_rfl)⟩ ?_)
   refine Xi _ (Yi (QQ) ?_);refine Yi ⟨by show(0:Int)≤3;decide,by show(3:Int)<4;decide⟩ ?_;refine Yi (Nz rfl) (Yi (Nz rfl) ?_);refine Yi (by kernel_rfl) ?_;refine Xi ⟨[(0,.ref 1000 0),(3,.ref 3 0),(5,.ref 5 0)],[(3,.cells (AU ⟨3,p,pl,nu,le,ri⟩)),(5,.cells [.v (GC 184),.v (GC 185)]),(1000,Iu x ifs roots d),(1001,IE d)],Aa⟩ (Yi ⟨Z3,Z4,Fh,Aj (by kernel_rfl)⟩ ?_)
   refine Yi (Nz rfl) ?_;refine Xi _ (Yi (mu ⟨3,p,pl,nu,le,ri⟩) ?_);refine Yi ?_ ?_
   rotate_left
   ·intro h6;have he:WR [vi 3,vs mt,vi pl,vi nu,vi 0,vi 0] [vi 3,vs mt,vi 0,vi 0,vi 0,vi 0]:=⟨rfl,rfl,hc.1,hc.2,rfl,rfl,trivial⟩;exact absurd he h6
   intro _;refine Yi (by kernel_rfl) ?_;refine Xi ⟨[(0,.ref 1000 0),(3,.ref 3 0),(5,.ref 5 0)],[(3,.cells (AU ⟨3,p,pl,nu,le,ri⟩)),(5,.cells [.v (GC 184),.v (GC 185)]),(1000,Iu x ifs roots d),(1001,IE d)],Aa⟩ (Yi ⟨Z3,Z4,Fh,Aj (by kernel_rfl)⟩ ?_)
   refine Yi (Nz rfl) ?_;refine Xi (.gen [(1000,1000),(1001,1001)] 0) (Yi rfl (Jy.imp ?_));intro v1 g1 q1;have Tj:=q1.1;have LJ:=q1.2;subst Tj;subst LJ;have Ei:BY 1 [AG []]∧(d.map AG).length=(d.map AG).length∧((d.map AG).length+[AG []].length)*24≤140737488355328∧(d.map AG).length+[AG []].length≤9223372036854775807 :=
    ⟨⟨rfl,trivial⟩,rfl,by rw[Lm,As];omega,by rw[Lm,As];omega⟩
   refine Yi Ei ?_;refine Yi (Nz rfl) ?_;have eh:Ad [(1000,HO.cells [sl A5 x,.slice .none ifs,sl Ah roots,.slice (.id 1001 1) (d.map AG++[AG []])]),(1001,.tok 1 ((d.map AG).length+[AG []].length))] Aa=Ad (MZ x ifs roots (d++[[]])) Aa:=by
    simp[MZ,Iu,js,IE]
   have er:vb false=vb (BO x roots d ⟨3,p,pl,nu,le,ri⟩).isSome:=by rw[FZ];rfl
   exact Xi _ (Yi (.refl _) (Yi er (Xi (d++[[]]) (Yi eh (fun t ht=>by rw[FZ]at ht;cases ht)))))
  |some tt =>
   have FZ:BO x roots d ⟨3,p,pl,nu,le,ri⟩=some tt:=by rw[LU,ho]
   rw[ho]at Jy;refine BD (Iv (EL [3,4,6])) [(1000,1000),(1001,1001)] rfl BS hm rfl Tryz.func79 (by kernel_rfl) rfl (Nz rfl) (by kernel_rfl) rfl ?_;refine Yi ?_ ?_
   ·intro h;exact absurd (show(3:Int)<0 from h) (by decide)
   intro _;refine Yi ?_ ?_
   ·intro h;exact absurd (show(3:Int)<3 from h) (by decide)
   intro _;refine Xi ⟨[(0,.ref 1000 0),(3,.ref 3 0)],[(3,.cells (AU ⟨3,p,pl,nu,le,ri⟩)),(1000,Iu x ifs roots d),(1001,IE d)],Aa⟩ (Yi ⟨Z2,Z3,Fh,Aj (by kernel_rfl)⟩ ?_)
   refine Xi _ (Yi (QQ) ?_);refine Yi ⟨by show(0:Int)≤3;decide,by show(3:Int)<4;decide⟩ ?_;refine Yi (Nz rfl) (Yi (Nz rfl) ?_);refine Yi (by kernel_rfl) ?_;refine Xi ⟨[(0,.ref 1000 0),(3,.ref 3 0),(5,.ref 5 0)],[(3,.cells (AU ⟨3,p,pl,nu,le,ri⟩)),(5,.cells [.v (GC 184),.v (GC 185)]),(1000,Iu x ifs roots d),(1001,IE d)],Aa⟩ (Yi ⟨Z3,Z4,Fh,Aj (by kernel_rfl)⟩ ?_)
   refine Yi (Nz rfl) ?_;refine Xi _ (Yi (mu ⟨3,p,pl,nu,le,ri⟩) ?_);refine Yi ?_ ?_
   rotate_left
   ·intro h6;have he:WR [vi 3,vs mt,vi pl,vi nu,vi 0,vi 0] [vi 3,vs mt,vi 0,vi 0,vi 0,vi 0]:=⟨rfl,rfl,hc.1,hc.2,rfl,rfl,trivial⟩;exact absurd he h6
   intro _;refine Yi (by kernel_rfl) ?_;refine Xi ⟨[(0,.ref 1000 0),(3,.ref 3 0),(5,.ref 5 0)],[(3,.cells (AU ⟨3,p,pl,nu,le,ri⟩)),(5,.cells [.v (GC 184),.v (GC 185)]),(1000,Iu x ifs roots d),(1001,IE d)],Aa⟩ (Yi ⟨Z3,Z4,Fh,Aj (by kernel_rfl)⟩ ?_)
   refine Yi (Nz rfl) ?_;refine Xi (.gen [(1000,1000),(1001,1001)] 0) (Yi rfl (Jy.imp ?_));intro v1 g1 q1;have Tj:=q1.1;have LJ:=q1.2;subst Tj;subst LJ;have Ei:BY 1 [AG tt]∧(d.map AG).length=(d.map AG).length∧((d.map AG).length+[AG tt].length)*24≤140737488355328∧(d.map AG).length+[AG tt].length≤9223372036854775807 :=
    ⟨⟨rfl,trivial⟩,rfl,by rw[Lm,As];omega,by rw[Lm,As];omega⟩
   refine Yi Ei ?_;refine Yi (Nz rfl) ?_;have eh:Ad [(1000,HO.cells [sl A5 x,.slice .none ifs,sl Ah roots,.slice (.id 1001 1) (d.map AG++[AG tt])]),(1001,.tok 1 ((d.map AG).length+[AG tt].length))] Aa=Ad (MZ x ifs roots (d++[tt])) Aa:=by
    simp[MZ,Iu,js,IE]
   have er:vb true=vb (BO x roots d ⟨3,p,pl,nu,le,ri⟩).isSome:=by rw[FZ];rfl
   exact Xi _ (Yi (.refl _) (Yi er (Xi (d++[tt]) (Yi eh (fun t ht=>by rw[FZ]at ht;cases ht;rfl)))))
 ·have FZ:BO x roots d ⟨3,p,pl,nu,le,ri⟩=none:=by rw[LT,Am hc]
  refine BD (Iv (EL [3,4,6])) [(1000,1000),(1001,1001)] rfl BS hm rfl Tryz.func79 (by kernel_rfl) rfl (Nz rfl) (by kernel_rfl) rfl ?_;refine Yi ?_ ?_
  ·intro h;exact absurd (show(3:Int)<0 from h) (by decide)
  intro _;refine Yi ?_ ?_
  ·intro h;exact absurd (show(3:Int)<3 from h) (by decide)
  intro _;refine Xi ⟨[(0,.ref 1000 0),(3,.ref 3 0)],[(3,.cells (AU ⟨3,p,pl,nu,le,ri⟩)),(1000,Iu x ifs roots d),(1001,IE d)],Aa⟩ (Yi ⟨Z2,Z3,Fh,Aj (by kernel_rfl)⟩ ?_)
  refine Xi _ (Yi (QQ) ?_);refine Yi ⟨by show(0:Int)≤3;decide,by show(3:Int)<4;decide⟩ ?_;refine Yi (Nz rfl) (Yi (Nz rfl) ?_);refine Yi (by kernel_rfl) ?_;refine Xi ⟨[(0,.ref 1000 0),(3,.ref 3 0),(5,.ref 5 0)],[(3,.cells (AU ⟨3,p,pl,nu,le,ri⟩)),(5,.cells [.v (GC 184),.v (GC 185)]),(1000,Iu x ifs roots d),(1001,IE d)],Aa⟩ (Yi ⟨Z3,Z4,Fh,Aj (by kernel_rfl)⟩ ?_)
  refine Yi (Nz rfl) ?_;refine Xi _ (Yi (mu ⟨3,p,pl,nu,le,ri⟩) ?_);refine Yi ?_ ?_
  ·intro h6;exact absurd (show pl=0∧nu=0 from⟨h6.2.2.1,h6.2.2.2.1⟩) hc
  intro _;refine Yi (by kernel_rfl) ?_;have er:vb false=vb (BO x roots d ⟨3,p,pl,nu,le,ri⟩).isSome:=by rw[FZ];rfl
  exact Xi _ (Yi (.refl _) (Yi er (Xi d (Yi rfl (fun t ht=>by rw[FZ]at ht;cases ht)))))
end Go.Eng

namespace Go.Eng
open Go.Proofs
theorem ze(x:List Rl)(ifs:List (List AV))(roots:List Rq)(d:List (List Tm))(i:Nf)(hd:d.length≤65536)(hr:∀q∈roots,Cv q.set)(hx:Cv x)(hq:∀r∈x,∀q∈r.reqs,Cv q.set)(ff:jc x ifs roots)(hi:∀t∈d,aN t) :
  Bn Tryz.prog 79 [.ref 1000 0,.agg (AU i)] (Ad (MZ x ifs roots d) Aa) fun r h'=>RH x ifs roots d i r h':=by
 obtain⟨k,p,pl,nu,le,ri⟩:=i
 by_cases h0:k=0
 ·subst h0;exact pA x ifs roots d p pl nu le ri hd hr
 by_cases h1:k=1
 ·subst h1;exact pB x ifs roots d p pl nu le ri hd hx hq
 by_cases h2:k=2
 ·subst h2;exact pC x ifs roots d p pl nu le ri hd ff
 by_cases h3:k=3
 ·subst h3;exact pD x ifs roots d p pl nu le ri hd hi
 have FZ:BO x roots d ⟨k,p,pl,nu,le,ri⟩=none:=by
  show(if k=0 then _ else if k=1 then _ else if k=2 then _ else if k=3 then _ else none)=none;rw[Am h0,Am h1,Am h2,Am h3]
 have er:vb false=vb (BO x roots d ⟨k,p,pl,nu,le,ri⟩).isSome:=by rw[FZ];rfl
 refine BD (Iv FC) [(1000,1000),(1001,1001)] rfl BS hm rfl Tryz.func79 (by kernel_rfl) rfl (Nz rfl) (by kernel_rfl) rfl ?_;refine Yi ?_ ?_
 ·intro _;exact Xi _ (Yi (.refl _) (Yi er (Xi d (Yi rfl (fun t ht=>by rw[FZ]at ht;cases ht)))))
 intro h4;have h4:¬k<0:=h4;refine Yi ?_ ?_
 ·intro _;exact Xi _ (Yi (.refl _) (Yi er (Xi d (Yi rfl (fun t ht=>by rw[FZ]at ht;cases ht)))))
 intro h5;have h5:¬3<k:=h5;omega
end Go.Eng

namespace Go.Eng
open Go.Proofs
theorem Jm{l:List Rq}(h:BE l=0):l.length≤16:=by
 unfold BE at h;split at h
 ·cases h
 ·omega
theorem Iz{x:List Rl}(h:A6 x=0):x.length≤256∧∀r∈x,r.reqs.length≤16:=by
 have h1:x.length≤256:=by
  unfold A6 at h;split at h
  ·cases h
  ·omega
 exact⟨h1,fun r hr=>Jm ((Cj h).1 r hr).reqs⟩
theorem eK{x:List Rl}(h:∀r∈x,r.reqs.length≤16):((x.map (·.reqs)).flatten).length≤x.length*16:=by
 induction x with
 |nil=>simp
 |cons r x ih =>
  rw[AM,BL,Ac,Al]
  have:=h r (Ab ..)
  have:=ih fun s hs=>h s (Ag _ hs)
  omega
theorem Te{x:List Rl}{roots:List Rq}{l:List Nf}(h1:A6 x=0)(h2:BE roots=0)(h3:l.length≤65536):(IC x roots l).length≤100000:=by
 obtain⟨a,b⟩:=Iz h1
 have:=eK b
 have:=Jm h2
 unfold IC;simp only[Ac,Lm];omega
theorem TG.fewI{U:List ByteArray}{t:List Tm}(h:TG U t)(hu:U.length≤100000):aN t :=
 ⟨by have:=h.len;omega,fun u hu=>Oh (h.1.canon u hu)⟩
abbrev Uw(x:List Rl)(ifs:List (List AV))(roots:List Rq)(l:List Nf):AV :=
 if(Hp x roots l).2=0 then .tup [.cptr (Gp x (.slice .none ifs) roots (Hp x roots l).1),vi 0]else .tup [.v (.pointer none),vi (Hp x roots l).2]
theorem Kn{x:List Rl}{ifs:List (List AV)}{roots:List Rq}{l:List Nf}{e:Int}{d:List (List Tm)}(h:Hp x roots l=(d,e))(he:e≠0):AV.tup [.v (.pointer none),vi e]=Uw x ifs roots l:=by
 unfold Uw;rw[h,Am he]
theorem WH{x:List Rl}{ifs:List (List AV)}{roots:List Rq}{l:List Nf}{d:List (List Tm)}(h:Hp x roots l=(d,0)):AV.tup [.cptr (Gp x (.slice .none ifs) roots d),vi 0]=Uw x ifs roots l:=by
 unfold Uw;rw[h,Aw rfl]
theorem jB{x:List Rl}{roots:List Rq}{l:List Nf}{d:List (List Tm)}{i:Nat}(h:i<l.length)(hg:B8 x roots (l.take i) []=some d) :
  B8 x roots (l.take (i+1)) []=match BO x roots d l[i]with | none=>none | some t=>some (d++[t]):=by
 rw[Bk,Ge h];show B8 x roots (l.take i++[l[i]]) []=_;rw[E9,hg]
 rfl
theorem jA{x:List Rl}{roots:List Rq}{l:List Nf}{i:Nat}(h:B8 x roots (l.take i) []=none):B8 x roots l []=none:=by
 rw[←EQ i l,E9,h]
abbrev vO:O3:=⟨[],[],[],[],[25],[],[],[(26,(25,3,901,1))],[],[],[3,5,9]⟩
theorem yY(x:List Rl)(ifs:List (List AV))(roots:List Rq)(l:List Nf)(hx:∀r∈x,Io r)(hr:∀q∈roots,Js q)(ff:A6 x=0→jc x ifs roots):PC 40 [.agg (Ic x ifs),sl Ah roots,sl AU l] (Uw x ifs roots l):=by
 have ed:Hp x roots l=if A6 x≠0∨BE roots≠0 then([],(1:Int))else if 65536<l.length then([],(7:Int))else match B8 x roots l []with | none=>([],(18:Int)) | some d=>(d,(0:Int)):=rfl
 refine Ps vO Tryz.func40 rfl (Nz rfl) ?_;refine Yi (Nz rfl) ?_;refine Xi .pure (Xi _ (Yi (rT bj x ifs hx) ?_));refine Yi ?_ ?_
 ·intro h;have h:A6 x≠0:=h;exact .of_eq (Kn (by rw[ed,Aw (.inl h)]) (by decide))
 intro h1;have h1:¬A6 x≠0:=h1;refine Xi .pure (Xi _ (Yi (tG bj roots hr) ?_));refine Yi ?_ ?_
 ·intro h;have h:BE roots≠0:=h;exact .of_eq (Kn (by rw[ed,Aw (.inr h)]) (by decide))
 intro h2;have h2:¬BE roots≠0:=h2;have e1:=Ef h1;have e2:=Ef h2;refine Xi ⟨[(1,sl Ah roots),(2,sl AU l),(3,.ref 3 0)],[(3,.cells (Ic x ifs))],Aa⟩ (Yi ⟨Z3,Z1,Fh,Tv⟩ ?_)
 refine Yi ?_ ?_
 ·intro h;have h:(65536:Int)<(l.map AU).length:=h;exact .of_eq (Kn (by rw[ed,Am (by omega),Aw (by rw[Lm]at h;omega)]) (by decide))
 intro h;have h:¬(65536:Int)<(l.map AU).length:=h;have h3:l.length≤65536:=by rw[Lm]at h;omega
 have xf:Hp x roots l=match B8 x roots l []with | none=>([],(18:Int)) | some d=>(d,(0:Int)):=by rw[ed,Am (by omega),Am (by omega)]
 have hU:=Te (x:=x) (roots:=roots) (l:=l) e1 e2 h3;have uB:=Iz e1;refine Xi ⟨[(1,sl Ah roots),(2,sl AU l),(3,.ref 3 0)],[(3,.cells (Ic x ifs))],Aa⟩ (Yi ⟨Z3,Z1,Fh,Tv⟩ ?_)
 refine Yi (Nz rfl) ?_;refine Xi {p:Nat×List (List Tm) // p.1≤l.length∧B8 x roots (l.take p.1) []=some p.2∧p.2.length=p.1∧∀t∈p.2,TG (IC x roots l) t} (Xi (fun p=>⟨[(8,.ref 25 0),(26,sl AU l),(27,vi (l.map AU).length),(28,vi p.1.1)],[(25,.cells [sl A5 x,.slice .none ifs,sl Ah roots,.slice (.id 901 1) (p.1.2.map AG)]),(901,.tok 1 (p.1.2.map AG).length)],Aa⟩) (Xi (fun p=>l.length-p.1.1) (Yi (Xi ⟨(0,[]),AS _,rfl,rfl,fun t ht=>by cases ht⟩ ?_) ?_)))
 ·exact⟨Z4,Z2,Fh,Tv⟩
 intro⟨⟨i,d⟩,i1,i2,i3,i4⟩;have i1:i≤l.length:=i1;have i2:B8 x roots (l.take i) []=some d:=i2;have i3:d.length=i:=i3;have i4:∀t∈d,TG (IC x roots l) t:=i4;refine Yi ?_ ?_
 ·intro h;have h:(i:Int)<(l.map AU).length:=h;have h:i<l.length:=by simpa using h
  have hg:l[i]?=some l[i]:=Ge h;refine Xi (AU l[i]) (Yi (Yi (Nn i) (by simp[hg])) (Yi rfl ?_));refine Yi (Nz rfl) (Yi (Nz rfl) ?_);refine Xi ⟨[(8,.ref 25 0),(10,.ref 10 0),(26,sl AU l),(27,vi (l.map AU).length),(28,vi i)],[(10,.cells (AU l[i])),(25,.cells [sl A5 x,.slice .none ifs,sl Ah roots,.slice (.id 901 1) (d.map AG)]),(901,.tok 1 (d.map AG).length)],Aa⟩ (Yi ⟨Z5,Z3,Fh,Tv⟩ ?_)
  refine Yi (Nz rfl) ?_;have DE:=ze x ifs roots d l[i] (by omega) (fun q hq=>(hr q hq).1) (by unfold Cv;omega) (fun r fJ q hq=>((hx r fJ).2 q hq).1) (ff e1) (fun t ht=>(i4 t ht).fewI hU);have r6:=jB h i2;cases T0:BO x roots d l[i]with
  |none =>
   refine Xi (.gen [(25,1000),(901,1001)] 0) (Yi rfl (DE.imp ?_));intro v g q;have q1:v=vb false:=by rw[q.1,T0];rfl
   refine BC q.2 (fun d' q2=>?_);have nO:=q2.1;subst q1;subst nO;rw[T0]at r6;have hn:B8 x roots l []=none:=jA r6;exact .of_eq (Kn (by rw[xf,hn]) (by decide))
  |some t =>
   refine Xi (.gen [(25,1000),(901,1001)] 0) (Yi rfl (DE.imp ?_));intro v g q;have q1:v=vb true:=by rw[q.1,T0];rfl
   refine BC q.2 (fun d' q2=>?_);have nO:=q2.1;have iY:=q2.2 t T0;subst q1;subst nO;rw[T0]at r6;refine Yi (Ii i (by omega)) ?_;have dx:=UM (AC h) i4 T0;refine Xi ⟨(i+1,d'),by show i+1≤_;omega,by rw[iY];exact r6,by show d'.length=i+1;rw[iY,Ac,As,i3],fun u hu=>?_⟩ ?_
   ·have hu:u∈d':=hu;rw[iY]at hu;rcases A2.1 hu with hu | hu
    ·exact i4 u hu
    ·rw[Ai.1 hu];exact dx
   ·exact⟨Dl l.length i (by omega),Z4,Z2,Fh,Tv⟩
 ·intro h;have h:¬(i:Int)<(l.map AU).length:=h;have h:¬i<l.length:=by simpa using h
  have hn:B8 x roots l []=some d:=by rw[AI (by omega)]at i2;exact i2
  exact .of_eq (WH (by rw[xf,hn]))
end Go.Eng

namespace Go.Eng
open Go.Proofs
abbrev MQ(x:List Rl)(ifs:List (List AV)):AV:=.agg (Ic x ifs)
end Go.Eng

namespace Go.Eng
open Go.Proofs
abbrev TL:Ez:=⟨true,[.str,.int .i64,.int .i64,.int .i64]⟩
abbrev Qx(y:Sl):Value:=.agg #[.string y.path,.int .i64 y.ver.a,.int .i64 y.ver.b,.int .i64 y.ver.c]
abbrev SN(r:Rl):Value×AV:=(Qx (Gi r),.agg (A5 r))
def AO:List Rl→List ByteArray→List ByteArray
 | [],acc=>acc
 |r::x,acc=>AO x (if acc.any (fun p=>decide (p=r.path))then acc else acc++[r.path])
abbrev iW(x:List Rl)(p:ByteArray):Value×AV:=(.string p,sl A5 (x.filter fun r=>decide (r.path=p)))
abbrev Wf(x:List Rl):AV:=if A6 x=0 then .tup [.agg [.cmap TL (x.map SN),.cmap Dv ((AO x []).map (iW x))],vi 0]else .tup [.agg [.cmap TL [],.cmap Dv []],vi (A6 x)]
abbrev Yc(x:List Rl)(ifs:List (List AV)):Prop:=PC 95 [MQ x ifs] (Wf x)
theorem tJ:PC 130 [.agg Uc] (.agg Uc):=by
 refine Ps FC Tryz.func130 rfl (Nz rfl) ?_;refine Yi (Nz rfl) ?_;refine Xi Unit (Xi (fun _=>⟨[(1,.ref 1 0),(2,.ref 2 0),(10,vi 0),(11,vi 0)],[(1,.cells Uc),(2,.cells Uc)],Aa⟩) (Xi (fun _=>0) (Yi (Xi () ?_) ?_)))
 ·exact⟨Z4,Z2,Fh,Tv⟩
 intro _;refine Yi ?_ ?_
 ·intro h;exact absurd (show(0:Int)<0 from h) (by decide)
 ·intro _;refine Yi (Nz rfl) (Yi (Nz rfl) (Yi (Nz rfl) ?_));exact .refl _
theorem ki{y z:Sl}(h:Qx y=Qx z):y=z:=by
 obtain⟨p,⟨a,b,c⟩⟩:=y;obtain⟨q,⟨d,e,f⟩⟩:=z;simp only[Qx,Value.agg.injEq,Array.mk.injEq,FF,Value.string.injEq,Value.int.injEq,true_and,RL]at h;obtain⟨rfl,rfl,rfl,rfl⟩:=h
 rfl
theorem Z0{x:List Rl}{y:Sl}{a:AV}(h:(Qx y,a)∈x.map SN):∃r∈x,Gi r=y∧a=.agg (A5 r):=by
 obtain⟨r,h1,h2⟩:=Ao.1 h;simp only[SN,FP]at h2;exact⟨r,h1,ki h2.1,h2.2.symm⟩
theorem eI{x:List Rl}(hx:A6 x=0){r:Rl}(hr:r∈x):Ej x (Gi r)=some r:=by
 unfold Ej;rw[Am (by omega)];cases h:x.find? (fun s=>decide (Gi s=Gi r))with
 |none =>
  rw[DO]at h;exact absurd (by simp) (h r hr)
 |some s =>
  have h1:=D7 h;simp only[Az]at h1;have hs:=B6 h;have hp:=(Cj hx).2;rcases DP.1 hr with ⟨i,hi,e1⟩;rcases DP.1 hs with ⟨j,hj,e2⟩;rcases Nat.lt_trichotomy i j with Qs | Qs | Qs
  ·have:=(Bb.1 hp) i j hi hj Qs
   rw[e1,e2]at this;exact(Ji this h1.symm).elim
  ·subst Qs;rw[←e1,←e2]
  ·have:=(Bb.1 hp) j i hj hi Qs
   rw[e1,e2]at this;exact(Ji this h1).elim
theorem y7(x:List Rl)(ifs:List (List AV))(p:ByteArray)(v:Ver)(TH:Yc x ifs)(hx:∀r∈x,Io r):PC 84 [MQ x ifs,vs p,.agg (Ix v)] (QG (Ej x ⟨p,v⟩)):=by
 have hz:=tJ
 by_cases h0:A6 x=0
 ·have TH:PC 95 [MQ x ifs] (.tup [.agg [.cmap TL (x.map SN),.cmap Dv ((AO x []).map (iW x))],vi 0]):=by
   have:=TH;unfold Yc Wf at this;rw[Aw h0]at this;exact this
  refine Ps (EL [2,3]) Tryz.func84 rfl (Nz rfl) ?_;refine Yi (Nz rfl) ?_;refine Xi .pure (Xi _ (Yi (TH) ?_));refine Yi (Nz rfl) ?_;refine Xi ⟨[(1,vs p),(5,.ref 5 0),(6,.ref 6 0),(8,.ref 8 0)],[(5,.cells (Ix v)),(6,.cells Uc),(8,.cells [.cmap TL (x.map SN),.cmap Dv ((AO x []).map (iW x))])],Aa⟩ (Yi ⟨Z4,Z3,Fh,Tv⟩ ?_)
  refine Yi (Nz rfl) ?_;refine Yi ?_ ?_
  ·intro a ha;refine BC (Z0 (y:=⟨p,v⟩) ha) (fun r hr=>?_);have e:=hr.2.2;subst e;have hf:Ej x ⟨p,v⟩=some r:=by rw[←hr.2.1];exact eI h0 hr.1
   have qL:=(Iz h0).2 r hr.1;have hc:=zh r (by omega) (fun q hq=>((hx r hr.1).2 q hq).1);refine Yi (Nz rfl) ?_;refine Xi ⟨[(6,.ref 6 0),(10,.ref 10 0),(11,vb true)],[(6,.cells Uc),(10,.cells (A5 r))],Aa⟩ (Yi ⟨Z3,Z2,Fh,Tv⟩ ?_)
   refine Yi (Nz rfl) ?_;refine Xi .pure (Xi _ (Yi (hc) ?_));refine Yi (Nz rfl) (Yi (Nz rfl) ?_);exact .of_eq (show AV.tup [.agg (A5 r),vb true]=QG (Ej x ⟨p,v⟩) by rw[hf])
  ·intro hn;have hf:Ej x ⟨p,v⟩=none:=by
    cases h:Ej x ⟨p,v⟩with
    |none=>rfl
    |some r =>
     obtain⟨_,h2,h3⟩:=Kt h;exact absurd (Ao.2 ⟨r,h2,by rw[show SN r=(Qx (Gi r),AV.agg (A5 r))from rfl,h3]⟩) (hn (.agg (A5 r)))
   refine Yi (Nz rfl) ?_;refine Xi ⟨[(6,.ref 6 0),(10,.ref 10 0),(11,vb false)],[(6,.cells Uc),(10,.cells Uc)],Aa⟩ (Yi ⟨Z3,Z2,Fh,Tv⟩ ?_)
   refine Yi (Nz rfl) ?_;refine Xi .pure (Xi _ (Yi (hz) ?_));refine Yi (Nz rfl) (Yi (Nz rfl) ?_);exact .of_eq (show AV.tup [.agg Uc,vb false]=QG (Ej x ⟨p,v⟩) by rw[hf])
 ·have TH:PC 95 [MQ x ifs] (.tup [.agg [.cmap TL [],.cmap Dv []],vi (A6 x)]):=by
   have:=TH;unfold Yc Wf at this;rw[Am h0]at this;exact this
  have hf:Ej x ⟨p,v⟩=none:=by unfold Ej;rw[Aw h0]
  refine Ps (EL [2,3]) Tryz.func84 rfl (Nz rfl) ?_;refine Yi (Nz rfl) ?_;refine Xi .pure (Xi _ (Yi (TH) ?_));refine Yi (Nz rfl) ?_;refine Xi ⟨[(1,vs p),(5,.ref 5 0),(6,.ref 6 0),(8,.ref 8 0)],[(5,.cells (Ix v)),(6,.cells Uc),(8,.cells [.cmap TL [],.cmap Dv []])],Aa⟩ (Yi ⟨Z4,Z3,Fh,Tv⟩ ?_)
  refine Yi (Nz rfl) ?_;refine Yi ?_ ?_
  ·intro a ha;cases ha
  ·intro _;refine Yi (Nz rfl) ?_;refine Xi ⟨[(6,.ref 6 0),(10,.ref 10 0),(11,vb false)],[(6,.cells Uc),(10,.cells Uc)],Aa⟩ (Yi ⟨Z3,Z2,Fh,Tv⟩ ?_)
   refine Yi (Nz rfl) ?_;refine Xi .pure (Xi _ (Yi (hz) ?_));refine Yi (Nz rfl) (Yi (Nz rfl) ?_);exact .of_eq (show AV.tup [.agg Uc,vb false]=QG (Ej x ⟨p,v⟩) by rw[hf])
end Go.Eng
