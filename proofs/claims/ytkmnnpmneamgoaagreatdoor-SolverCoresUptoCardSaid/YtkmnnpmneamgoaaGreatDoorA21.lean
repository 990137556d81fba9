/- Lemmas for the claims of this seat, without a condition: part 21 (C50, C51, C52, C53, C54, C55, C65, C66, C67, C68, C69, C56, C57, C58, C59, C70, C71, C72, C73, J1, J2). -/
import Derived.Test.YtkmnnpmneamgoaaGreatDoorA20
import Derived.Test.YtkmnnpmneamgoaaGreatDoorCards
import Derived.Test.YtkmnnpmneamgoaaGreatDoorTie
import Derived.ProofKit
import Derived.OpenShut
import Derived.Deep.DeepHandedRow
import Derived.Lib.LaidTab
namespace Go.Eng
open Go.Proofs
abbrev DW(l:List Rl):Bc:=(l.filter fun r=>!r.yanked).map fun r=>(plc r.ver,plc r.ver+1)
theorem aJ(l:List Rl):(DW l).length≤l.length:=by
 unfold DW;rw[Lm];exact Bp _ _
theorem lJ{x:List Rl}{ps:List ByteArray}{p:ByteArray}{a:AV}(h:(Value.string p,a)∈ps.map (nl x)):a=sl AY (x.filter fun r=>decide (r.path=p)):=by
 obtain⟨q,_,h2⟩:=Ar.1 h;simp only[nl,FZ,Value.string.injEq]at h2;rw[←h2.2,h2.1]
theorem Oy{acc:List ByteArray}{p:ByteArray}:(acc.any fun q=>decide (q=p))=true↔p∈acc:=by
 rw[A5];constructor
 ·rintro⟨q,h1,h2⟩;rw[←Cq h2];exact h1
 ·intro h;exact⟨p,h,by simp⟩
theorem Hs:∀(x:List Rl) (acc:List ByteArray) (p:ByteArray),p∈AP x acc↔p∈acc∨∃r∈x,r.path=p
 | [],acc,p=>by simp[AP]
 |r::x,acc,p=>by
  rw[AP,Hs x];constructor
  ·rintro(h | ⟨s,h1,h2⟩)
   ·split at h
    ·exact .inl h
    ·rcases A4.1 h with h | h
     ·exact .inl h
     ·exact .inr ⟨r,Ab ..,(As.1 h).symm⟩
   ·exact .inr ⟨s,Ai _ h1,h2⟩
  ·rintro(h | ⟨s,h1,h2⟩)
   ·left
    split
    ·exact h
    ·exact Bz _ h
   ·rcases AF.1 h1 with rfl | h1
    ·left
     split
     ·rename_i hh;rw[←h2];exact Oy.1 hh
     ·rw[←h2];exact Bq _ (As.2 rfl)
    ·exact .inr ⟨s,h1,h2⟩
abbrev ns:QO:=⟨[],[(7,2)],[],[],[],[],[],[],[],[],[2,3,6,7,9]⟩
theorem U3(L:List Rl)(i:Nat)(h:i<L.length):DW (L.take (i+1))=DW (L.take i)++(if L[i].yanked then []else [(plc L[i].ver,plc L[i].ver+1)]):=by
 unfold DW;rw[Bd,Ge h,D0,Az]
 congr 1
 cases hy:L[i].yanked<;>simp[hy]
theorem vr(x:List Rl)(ifs:List (List AV))(p:ByteArray)(p5:mN x ifs):PC 61 [L6 x ifs,vs p] (sl Ae (Cf x p)):=by
 by_cases h0:Ba x=0
 ·have p5:PC 95 [L6 x ifs] (.tup [.agg [.cmap Xd (x.map Vv),.cmap DQ ((AP x []).map (nl x))],vi 0]):=by
   have:=p5;unfold mN aK at this;rw[Ax h0]at this;exact this
  have NY:=(Ls h0).1;obtain⟨L,tY⟩:∃L,L=x.filter fun r=>decide (r.path=p):=⟨_,rfl⟩;have hL:Kn x p=L:=by unfold Kn;rw[Aq (by omega),tY]
  have wA:L.length≤256:=by have:=Bp (fun r:Rl=>decide (r.path=p)) x;rw[tY];omega
  refine Ps ns Tryz.func61 rfl (Nz rfl) ?_;refine Yi (Nz rfl) ?_;refine Xi .pure (Xi _ (Yi (p5) ?_));refine Yi (Nz rfl) ?_;refine Xi ⟨[(1,vs p),(5,.ref 5 0)],[(5,.cells [.cmap Xd (x.map Vv),.cmap DQ ((AP x []).map (nl x))])],Aa⟩ (Yi ⟨Z2,Z1,Fh,Tv⟩ ?_)
  refine Xi ⟨[(1,vs p),(5,.ref 5 0),(7,.slice (.id 7 2) [])],[(5,.cells [.cmap Xd (x.map Vv),.cmap DQ ((AP x []).map (nl x))]),(7,.tok 2 0)],Aa⟩ (Yi ⟨Z3,Z2,Fh,Tv⟩ ?_)
  refine Yi ?_ ?_
  ·intro a ha;have ea:a=sl AY L:=by rw[tY];exact lJ ha
   subst ea;refine Xi {i:Nat // i≤L.length} (Xi (fun i=>⟨[(7,.slice (.id 7 2) ((DW (L.take i.1)).map Ae)),(18,sl AY L),(19,vi (L.map AY).length),(20,vi i.1)],[(7,.tok 2 ((DW (L.take i.1)).map Ae).length)],Aa⟩) (Xi (fun i=>L.length-i.1) (Yi (Xi ⟨0,AL _⟩ ?_) ?_)))
   ·exact⟨Z4,Z1,Fh,Tv⟩
   intro⟨i,i1⟩;have Um:=aJ (L.take i);rw[AG]at Um;refine Yi ?_ ?_
   ·intro h;have h:(i:Int)<(L.map AY).length:=h;have h:i<L.length:=by simpa using h
    have hg:L[i]?=some L[i]:=Ge h;refine Xi (AY L[i]) (Yi (Yi (Nn i) (by simp[hg])) (Yi rfl ?_));refine Yi (Nz rfl) (Yi (Nz rfl) ?_);refine Xi ⟨[(7,.slice (.id 7 2) ((DW (L.take i)).map Ae)),(9,.ref 9 0),(18,sl AY L),(19,vi (L.map AY).length),(20,vi i)],[(7,.tok 2 ((DW (L.take i)).map Ae).length),(9,.cells (AY L[i]))],Aa⟩ (Yi ⟨Z5,Z2,Fh,Tv⟩ ?_)
    refine Yi ?_ ?_
    ·intro hy;have hy:L[i].yanked=true:=hy;refine Yi (Ii i (by omega)) ?_;have es:DW (L.take (i+1))=DW (L.take i):=by rw[U3 L i h,hy];simp
     have e1:AV.slice (.id 7 2) ((DW (L.take i)).map Ae)=.slice (.id 7 2) ((DW (L.take (i+1))).map Ae):=by rw[es]
     have e2:HO.tok 2 ((DW (L.take i)).map Ae).length=.tok 2 ((DW (L.take (i+1))).map Ae).length:=by rw[es]
     refine Xi ⟨i+1,by omega⟩ ?_;exact⟨Dl L.length i (by omega),⟨⟨e1,rfl⟩,Zr,Zr,Zr,Tv⟩,⟨⟨e2,rfl⟩,Tv⟩,Fh,Tv⟩
    ·intro hy;have hy:L[i].yanked=false:=hy;have m7:=mf L[i].ver;refine Xi ⟨[(7,.slice (.id 7 2) ((DW (L.take i)).map Ae)),(9,.ref 9 0),(18,sl AY L),(19,vi (L.map AY).length),(20,vi i)],[(7,.tok 2 ((DW (L.take i)).map Ae).length),(9,.cells (AY L[i]))],Aa⟩ (Yi ⟨Z5,Z2,Fh,Tv⟩ ?_)
     refine Yi (Nz rfl) ?_;refine Xi _ (Yi (zk L[i]) ?_);refine Yi (Nz rfl) ?_;refine Xi _ (Yi (zk L[i]) ?_);refine Yi (by show A9 (plc L[i].ver+1);unfold A9;omega) ?_;have GL:BW 2 [[vi (plc L[i].ver),vi (plc L[i].ver+1)]]∧((DW (L.take i)).map Ae).length=((DW (L.take i)).map Ae).length∧(((DW (L.take i)).map Ae).length+[[vi (plc L[i].ver),vi (plc L[i].ver+1)]].length)*16≤140737488355328∧((DW (L.take i)).map Ae).length+[[vi (plc L[i].ver),vi (plc L[i].ver+1)]].length≤9223372036854775807 :=
      ⟨⟨rfl,trivial⟩,rfl,by rw[Lm,AB];omega,by rw[Lm,AB];omega⟩
     refine Yi GL ?_;refine Yi (by kernel_rfl) ?_;refine Yi (Ii i (by omega)) ?_;have es:DW (L.take (i+1))=DW (L.take i)++[(plc L[i].ver,plc L[i].ver+1)]:=by rw[U3 L i h,hy];simp
     have e1:AV.slice (.id 7 2) ((DW (L.take i)).map Ae++[[vi (plc L[i].ver),vi (plc L[i].ver+1)]])=.slice (.id 7 2) ((DW (L.take (i+1))).map Ae):=by rw[es,Az];rfl
     have e2:HO.tok 2 (((DW (L.take i)).map Ae).length+[[vi (plc L[i].ver),vi (plc L[i].ver+1)]].length)=.tok 2 ((DW (L.take (i+1))).map Ae).length:=by rw[es,Az,Ad];rfl
     refine Xi ⟨i+1,by omega⟩ ?_;exact⟨Dl L.length i (by omega),⟨⟨e1,rfl⟩,Zr,Zr,Zr,Tv⟩,⟨⟨e2,rfl⟩,Tv⟩,Fh,Tv⟩
   ·intro h;have h:¬(i:Int)<(L.map AY).length:=h;have h:¬i<L.length:=by simpa using h
    have et:L.take i=L:=AC (by omega);refine Xi ⟨[(7,.slice (.id 7 2) ((DW (L.take i)).map Ae))],[(7,.tok 2 ((DW (L.take i)).map Ae).length)],Aa⟩ (Yi ⟨Z1,Z1,Fh,Tv⟩ ?_)
    have hc:PC 116 [sl Ae (DW (L.take i))] (sl Ae (canon (DW (L.take i)))):=Xs _ (by unfold CL;omega);refine Xi .pure (Xi _ (Yi (hc) ?_));exact .of_eq (show sl Ae (canon (DW (L.take i)))=sl Ae (Cf x p) by rw[et];unfold Cf;rw[hL])
  ·intro hn;have hL:Kn x p=[]:=by
    rw[hL,tY,Hw];intro r hr he;have he:=Cq he;exact hn _ (Ar.2 ⟨p,(Hs x [] p).2 (.inr ⟨r,hr,he⟩),rfl⟩)
   refine Xi Unit (Xi (fun _=>⟨[(7,.slice (.id 7 2) []),(19,vi 0),(20,vi 0)],[(7,.tok 2 0)],Aa⟩) (Xi (fun _=>0) (Yi (Xi () ?_) ?_)))
   ·exact⟨Z3,Z1,Fh,Tv⟩
   intro _;refine Yi ?_ ?_
   ·intro h;exact absurd (show(0:Int)<0 from h) (by decide)
   intro _;refine Xi ⟨[(7,.slice (.id 7 2) [])],[(7,.tok 2 0)],Aa⟩ (Yi ⟨Z1,Z1,Fh,Tv⟩ ?_)
   have hc:PC 116 [sl Ae []] (sl Ae (canon [])):=Xs [] (by unfold CL;simp);refine Xi .pure (Xi _ (Yi (hc) ?_));exact .of_eq (show sl Ae (canon [])=sl Ae (Cf x p) by unfold Cf;rw[hL];rfl)
 ·have p5:PC 95 [L6 x ifs] (.tup [.agg [.cmap Xd [],.cmap DQ []],vi (Ba x)]):=by
   have:=p5;unfold mN aK at this;rw[Aq h0]at this;exact this
  have hL:Kn x p=[]:=by unfold Kn;rw[Ax h0]
  refine Ps ns Tryz.func61 rfl (Nz rfl) ?_;refine Yi (Nz rfl) ?_;refine Xi .pure (Xi _ (Yi (p5) ?_));refine Yi (Nz rfl) ?_;refine Xi ⟨[(1,vs p),(5,.ref 5 0)],[(5,.cells [.cmap Xd [],.cmap DQ []])],Aa⟩ (Yi ⟨Z2,Z1,Fh,Tv⟩ ?_)
  refine Xi ⟨[(1,vs p),(5,.ref 5 0),(7,.slice (.id 7 2) [])],[(5,.cells [.cmap Xd [],.cmap DQ []]),(7,.tok 2 0)],Aa⟩ (Yi ⟨Z3,Z2,Fh,Tv⟩ ?_)
  refine Yi ?_ ?_
  ·intro a ha;cases ha
  ·intro _;refine Xi Unit (Xi (fun _=>⟨[(7,.slice (.id 7 2) []),(19,vi 0),(20,vi 0)],[(7,.tok 2 0)],Aa⟩) (Xi (fun _=>0) (Yi (Xi () ?_) ?_)))
   ·exact⟨Z3,Z1,Fh,Tv⟩
   intro _;refine Yi ?_ ?_
   ·intro h;exact absurd (show(0:Int)<0 from h) (by decide)
   intro _;refine Xi ⟨[(7,.slice (.id 7 2) [])],[(7,.tok 2 0)],Aa⟩ (Yi ⟨Z1,Z1,Fh,Tv⟩ ?_)
   have hc:PC 116 [sl Ae []] (sl Ae (canon [])):=Xs [] (by unfold CL;simp);refine Xi .pure (Xi _ (Yi (hc) ?_));exact .of_eq (show sl Ae (canon [])=sl Ae (Cf x p) by unfold Cf;rw[hL];rfl)
end Go.Eng

namespace Go.Eng
open Go.Proofs
theorem Sw(x:List Rl)(p:ByteArray):CL (Cf x p):=by
 unfold Cf CL
 have:=Ig (Cs (((Kn x p).filter fun r=>!r.yanked).map fun r=>(plc r.ver,plc r.ver+1)));omega
end Go.Eng

namespace Go.Eng
open Go.Proofs
end Go.Eng

namespace Go.Eng
open Go.Proofs
end Go.Eng

namespace Go.Eng
open Go.Proofs
end Go.Eng

namespace Go.Eng
open Go.Proofs
end Go.Eng

namespace Go.Eng
open Go.Proofs
theorem Lw:∀(y:List Rl) (acc:List ByteArray) (r:Rl),AP (y++[r]) acc=if(AP y acc).any (fun p=>decide (p=r.path))then AP y acc else AP y acc++[r.path]
 | [],acc,r=>rfl
 |s::y,acc,r=>by rw[D7,AP,AP,Lw y]
theorem E2:∀(y:List Rl) (acc:List ByteArray),acc.Nodup→(AP y acc).Nodup
 | [],_,h=>h
 |s::y,acc,h=>by
  rw[AP];refine E2 y _ ?_;split
  ·exact h
  ·rename_i hn;rw[Gz];refine⟨h,by simp,fun a ha b hb e=>?_⟩;rw[As]at hb;exact hn (Oy.2 (by rw[←hb,←e];exact ha))
abbrev NG(y:List Rl)(p:ByteArray):List (List AV):=(y.filter fun r=>decide (r.path=p)).map AY
abbrev gq(y:List Rl)(q:ByteArray×Nat):Value×AV:=(.string q.1,.slice (.id (q.2+50) 9) (NG y q.1))
abbrev RL(y:List Rl):List (Value×AV):=(AP y []).zipIdx.map (gq y)
def JP(y:List Rl)(l:Nat):HO:=match(AP y [])[l]? with
 |some q=>.tok 9 (NG y q).length
 |none=>.free
def Vk(y:List Rl)(j:Nat):HO:=bif Nat.ble 50 j then JP y (j-50)else .free
theorem HL(y:List Rl)(l:Nat):Vk y (l+50)=JP y l:=by
 unfold Vk;rw[show Nat.ble 50 (l+50)=true by rw[Dn];omega,Nat.add_sub_cancel];rfl
theorem oF(y:List Rl){j:Nat}(h:j<50):Vk y j=.free:=by
 unfold Vk;rw[show Nat.ble 50 j=false by rw[AI];intro hc;rw[Dn]at hc;omega];rfl
theorem II(y:List Rl)(r:Rl)(q:ByteArray):NG (y++[r]) q=if r.path=q then NG y q++[AY r]else NG y q:=by
 unfold NG;rw[D0]
 by_cases h:r.path=q
 ·rw[Ax h,JV (by simpa using h)];simp
 ·rw[Aq h,G0 (by simpa using h)];simp
theorem Is{l:List ByteArray}{q:ByteArray×Nat}(h:q∈l.zipIdx):l[q.2]?=some q.1:=by
 obtain⟨a,b⟩:=q;exact FO.1 h
open Classical in
theorem Mx{Cb:List (Value×AV)}{k:Value}{a:AV}(h:∀a',(k,a')∉Cb):Fg Cb k a=Cb++[(k,a)]:=by
 unfold Fg;rw[Aq (fun⟨a',h'⟩=>h a' h')]
open Classical in
theorem Yz{Cb:List (Value×AV)}{k:Value}{a a' : AV}(h:(k,a')∈Cb):Fg Cb k a=Cb.map fun p=>if p.1=k then(k,a)else p:=by
 unfold Fg;rw[Ax ⟨a',h⟩]
section
variable {y:List Rl}{r:Rl}{k:Nat}
theorem Jq(h:(AP y [])[k]?=some r.path):AP (y++[r]) []=AP y []:=by
 rw[Lw,Ax (Oy.2 (AA h))]
theorem Jp(h:r.path∉AP y []):AP (y++[r]) []=AP y []++[r.path]:=by
 rw[Lw,Aq (fun hc=>h (Oy.1 hc))]
theorem Jn{l:List ByteArray}(hd:l.Nodup){i j:Nat}{p:ByteArray}(h1:l[i]?=some p)(h2:l[j]?=some p):i=j:=by
 obtain⟨a1,a2⟩:=Aw.1 h1;obtain⟨b1,b2⟩:=Aw.1 h2;exact(List.getElem_inj hd).1 (a2.trans b2.symm)
open Classical in
theorem kR(h:(AP y [])[k]?=some r.path):Fg (RL y) (.string r.path) (.slice (.id (k+50) 9) (NG y r.path++[AY r]))=RL (y++[r]):=by
 have hd:=E2 y [] Ft;have hm:gq y (r.path,k)∈RL y:=Ar.2 ⟨_,FO.2 h,rfl⟩;rw[Yz (a':=.slice (.id (k+50) 9) (NG y r.path)) hm];unfold RL;rw[Jq h,BY];refine A8 fun q hq=>?_;have hg:=Is hq;obtain⟨q,j⟩:=q;show(if Value.string q=Value.string r.path then _ else _)=gq (y++[r]) (q,j);have hg:(AP y [])[j]?=some q:=hg
 by_cases he:q=r.path
 ·subst he
  have:j=k:=Jn hd hg h
  subst this;rw[Ax rfl];show _=(Value.string r.path,AV.slice (.id (j+50) 9) (NG (y++[r]) r.path));rw[II,Ax rfl]
 ·rw[Aq (fun e=>he (by simpa using e))];show(Value.string q,AV.slice (.id (j+50) 9) (NG y q))=(Value.string q,AV.slice (.id (j+50) 9) (NG (y++[r]) q));rw[II,Aq (fun e=>he e.symm)]
theorem bE(h:r.path∉AP y []):NG y r.path=[]:=by
 have:y.filter (fun s=>decide (s.path=r.path))=[]:=by
  rw[Hw];intro s hs he;exact h ((Hs y [] r.path).2 (.inr ⟨s,hs,Cq he⟩))
 unfold NG;rw[this];rfl
theorem XR(h:r.path∉AP y [])(a:AV):(Value.string r.path,a)∉RL y:=by
 intro hc;obtain⟨q,h1,h2⟩:=Ar.1 hc;simp only[gq,FZ,Value.string.injEq]at h2;exact h (by rw[←h2.1];exact AA (Is h1))
theorem kQ(h:r.path∉AP y []):Fg (RL y) (.string r.path) (.slice (.id ((AP y []).length+50) 9) [AY r])=RL (y++[r]):=by
 rw[Mx (fun a=>XR h a)];unfold RL;rw[Jp h,List.zipIdx_append,Az]
 congr 1
 ·refine A8 fun q hq=>?_;have hg:=Is hq
  have:q.1≠r.path:=fun e=>h (by rw[←e];exact AA hg)
  show(Value.string q.1,AV.slice (.id (q.2+50) 9) (NG y q.1))=(Value.string q.1,AV.slice (.id (q.2+50) 9) (NG (y++[r]) q.1));rw[II,Aq (fun e=>this e.symm)]
 ·show [_]=[(Value.string r.path,AV.slice (.id (0+(AP y []).length+50) 9) (NG (y++[r]) r.path))];rw[II,Ax rfl,bE h,Be];rfl
theorem gv{p:ByteArray}{j:Nat}(h:(AP y [])[j]?=some p):(Value.string p,AV.slice (.id (j+50) 9) (NG y p))∈RL y∧∀b,(Value.string p,b)∈RL y→b=AV.slice (.id (j+50) 9) (NG y p):=by
 refine⟨Ar.2 ⟨(p,j),FO.2 h,rfl⟩,fun b hb=>?_⟩;obtain⟨q,h1,h2⟩:=Ar.1 hb;simp only[gq,FZ,Value.string.injEq]at h2;have hg:=Is h1;rw[h2.1]at hg
 have:=Jn (E2 y [] Ft) hg h
 rw[←h2.2,h2.1,this]
theorem jH{p:ByteArray}{j:Nat}(h:(AP y [])[j]?=some p):JP y j=.tok 9 (NG y p).length:=by
 unfold JP;rw[h]
theorem mI(h:(AP y [])[k]?=some r.path)(l:Nat):(bif Nat.beq (l+50) (k+50)then HO.tok 9 ((NG y r.path).length+1)else JP y l)=JP (y++[r]) l:=by
 by_cases he:l=k
 ·subst he;rw[show Nat.beq (l+50) (l+50)=true from Ds _];unfold JP;rw[Jq h,h];show HO.tok 9 _=HO.tok 9 (NG (y++[r]) r.path).length;rw[II,Ax rfl,Ad];rfl
 ·rw[show Nat.beq (l+50) (k+50)=false by rw[AI];intro hc;have:=AU hc;omega];show JP y l=_;unfold JP;rw[Jq h];cases hq:(AP y [])[l]? with
  |none=>rfl
  |some q =>
   show HO.tok 9 (NG y q).length=HO.tok 9 (NG (y++[r]) q).length;rw[II,Aq];intro e;subst e;exact he (Jn (E2 y [] Ft) hq h)
theorem mH(h:r.path∉AP y [])(l:Nat):(bif Nat.beq (l+50) ((AP y []).length+50)then HO.tok 9 1 else JP y l)=JP (y++[r]) l:=by
 by_cases he:l=(AP y []).length
 ·subst he;rw[show Nat.beq ((AP y []).length+50) ((AP y []).length+50)=true from Ds _];unfold JP;rw[Jp h];simp only[AR (Ao _),Fk,Bk];show HO.tok 9 1=HO.tok 9 (NG (y++[r]) r.path).length;rw[II,Ax rfl,bE h];rfl
 ·rw[show Nat.beq (l+50) ((AP y []).length+50)=false by rw[AI];intro hc;have:=AU hc;omega];show JP y l=_;unfold JP;rw[Jp h]
  by_cases hl:l<(AP y []).length
  ·rw[A2 hl,Ge hl];show HO.tok 9 (NG y (AP y [])[l]).length=HO.tok 9 (NG (y++[r]) (AP y [])[l]).length;rw[II,Aq];intro e;exact h (by rw[e];exact Am hl)
  ·rw[A6 (by omega),A6 (by rw[Ad];simp;omega)]
end
theorem PY{h:Nat→HO}:∀{Cb:List (Value×AV)},(∀p∈Cb,WF h p.2=true)→Ra h Cb=true
 | [],_=>rfl
 |p::r,hk=>by
  unfold Ra;rw[hk p (Ab ..)];exact PY (fun q hq=>hk q (Ai _ hq))
theorem Lo(y:List Rl){h:Nat→HO}(hh:∀l,h (l+50)=JP y l):Ra h (RL y)=true:=by
 refine PY fun p hp=>?_;obtain⟨q,h1,rfl⟩:=Ar.1 hp;show RC h (q.2+50)=true;unfold RC;rw[hh,jH (Is h1)]
theorem Jz{y:List Rl}{h h' : Nat→HO}(hh:∀l,h (l+50)=JP y l)(j:Nat):Vk y j=.free∨(h j=Vk y j∧Yc h' (Vk y j)=true):=by
 by_cases hj:j<50
 ·exact .inl (oF y hj)
 ·obtain⟨l,rfl⟩:∃l,j=l+50:=⟨j-50,by omega⟩
  right
  rw[HL];refine⟨hh l,?_⟩;unfold JP;cases (AP y [])[l]?<;>rfl
theorem mp{x:List Rl}(hx:Ba x=0){i:Nat}(hi:i<x.length):Fg ((x.take i).map Vv) (Tx (FF x[i])) (.agg (AY x[i]))=(x.take (i+1)).map Vv:=by
 rw[Mx]
 ·rw[Bd,Ge hi,Az];rfl
 intro a ha;obtain⟨r,hr,he,_⟩:=lK ha;obtain⟨j,hj,e2⟩:=CG.1 hr;rw[AG]at hj;rw[H8]at e2;have hp:=(CQ hx).2
 have:=(Bm.1 hp) j i (by omega) hi (by omega)
 rw[e2]at this;exact N1 this he
abbrev sY:QO:=⟨[],[],[],[],[8,9],[9],[40],[],[],[],[8,9,10,11]⟩
abbrev zT:List AV:=[.v (.map none),.v (.map none)]
theorem kB(x:List Rl)(ifs:List (List AV))(ov:PC 59 [L6 x ifs] (vi (Ba x)))(h0:Ba x≠0):mN x ifs:=by
 have ht:aK x=.tup [.agg [.cmap Xd [],.cmap DQ []],vi (Ba x)]:=by unfold aK;rw[Aq h0]
 unfold mN;rw[ht];refine Ps sY Tryz.func95 rfl (Nz rfl) ?_;refine Xi 0 ?_;refine Xi 0 ?_;refine Yi (Nz rfl) ?_;refine Xi 0 ?_;refine Yi (Nz rfl) ?_;refine Xi .pure (Xi _ (Yi (ov) ?_));refine Xi 0 ?_;refine Yi ?_ ?_
 ·intro _;refine Xi 0 ?_;refine Yi (Nz rfl) ?_;refine Yi (Nz rfl) ?_;refine Yi (Nz rfl) ?_;exact .refl _
 ·intro h;exact absurd h (fun hc=>hc h0)
theorem Hr:∀(y:List Rl) (acc:List ByteArray),(AP y acc).length≤acc.length+y.length
 | [],acc=>by simp[AP]
 |r::y,acc=>by
  rw[AP];refine Bw (Hr y _) ?_;split
  ·simp only[Aj];omega
  ·simp only[Ad,Aj,Ah];omega
section
attribute [local irreducible] Io
theorem oc(x:List Rl)(ifs:List (List AV))(ov:PC 59 [L6 x ifs] (vi (Ba x)))(h0:Ba x=0)(CW:x.length≤256):mN x ifs:=by
 have ht:aK x=.tup [.agg [.cmap Xd (x.map Vv),.cmap DQ ((AP x []).map (nl x))],vi 0]:=by unfold aK;rw[Ax h0]
 unfold mN;rw[ht];rw[h0]at ov;refine Ps sY Tryz.func95 rfl (Nz rfl) ?_;refine Xi 0 ?_;refine Xi 0 ?_;refine Yi (Nz rfl) ?_;refine Xi 0 ?_;refine Yi (Nz rfl) ?_;refine Xi .pure (Xi _ (Yi (ov) ?_));refine Xi 0 ?_;refine Yi ?_ ?_
 ·intro hc;exact absurd (show(0:Int)≠0 from hc) (by decide)
 intro _;refine Xi 0 ?_;refine Xi {i:Nat // i≤x.length} (Xi (fun i=>⟨[(2,.ref 2 0),(4,.ref 4 0),(18,sl AY x),(19,vi (x.map AY).length),(20,vi i.1)],[(2,.cells zT),(4,.cells [.mref 8,.mref 9]),(8,.map Xd ((x.take i.1).map Vv)),(9,.mapU DQ (RL (x.take i.1)))],Vk (x.take i.1)⟩) (Xi (fun i=>x.length-i.1) (Yi (Xi ⟨0,AL _⟩ ?_) ?_)))
 ·refine⟨Z5,Z4,fun j=>.inl ?_,Tv⟩;show Vk [] j=.free;unfold Vk;cases Nat.ble 50 j<;>rfl
 intro⟨i,i1⟩;have i1:i≤x.length:=i1;refine Xi 0 ?_;refine Yi ?_ ?_
 ·intro h;have h:(i:Int)<(x.map AY).length:=h;have h:i<x.length:=by simpa using h
  have hg:x[i]?=some x[i]:=Ge h;have KM:x.take (i+1)=x.take i++[x[i]]:=by rw[Bd,hg];rfl
  refine Xi 0 ?_;refine Xi (AY x[i]) (Yi (Yi (Nn i) (by simp[hg])) (Yi rfl ?_));refine Yi (Nz rfl) (Yi (Nz rfl) ?_);refine Xi ⟨[(2,.ref 2 0),(4,.ref 4 0),(7,.ref 7 0),(18,sl AY x),(19,vi (x.map AY).length),(20,vi i)],[(2,.cells zT),(4,.cells [.mref 8,.mref 9]),(7,.cells (AY x[i])),(8,.map Xd ((x.take i).map Vv)),(9,.mapU DQ (RL (x.take i)))],Vk (x.take i)⟩ (Yi ?_ ?_)
  ·exact⟨Z6,⟨Zr,Zr,Zr,Zr,⟨rfl,Lo _ (HL _)⟩,Tv⟩,Jz (HL _),Tv⟩
  refine Xi 0 ?_;refine Yi (Nz rfl) ?_;refine Xi _ (Yi (nR x[i]) ?_);refine Yi (Nz rfl) ?_;refine Yi (by kernel_rfl) ?_;have e8:Fg ((x.take i).map Vv) (Tx (FF x[i])) (.agg (AY x[i]))=(x.take (i+1)).map Vv:=mp h0 h;refine Xi ⟨[(2,.ref 2 0),(4,.ref 4 0),(7,.ref 7 0),(18,sl AY x),(19,vi (x.map AY).length),(20,vi i)],[(2,.cells zT),(4,.cells [.mref 8,.mref 9]),(7,.cells (AY x[i])),(8,.map Xd ((x.take (i+1)).map Vv)),(9,.mapU DQ (RL (x.take i)))],Vk (x.take i)⟩ (Yi ?_ ?_)
  ·exact⟨Z6,⟨Zr,Zr,Zr,⟨Ac (HO.map Xd) e8,rfl⟩,⟨rfl,Lo _ (HL _)⟩,Tv⟩,Jz (HL _),Tv⟩
  have hL:((x.take i).filter (fun r=>decide (r.path=x[i].path))).length≤256:=by
   have:=Bp (fun r:Rl=>decide (r.path=x[i].path)) (x.take i)
   rw[AG]at this;omega
  have hP:∀l,Vk (x.take i) (l+50)=JP (x.take i) l:=HL _;refine BO (Classical.em (x[i].path∈AP (x.take i) [])) (fun hp=>?_) (fun hp=>?_)
  ·refine Bb (Cj.1 hp) (fun k hk=>?_);have hu:=gv hk;refine Xi 0 ?_;refine Or.inl (Xi (.slice (.id (k+50) 9) (NG (x.take i) x[i].path)) (Yi hu ?_));refine Yi (Nz rfl) ?_;have hr:Vk (x.take i) (k+50)=.tok 9 (NG (x.take i) x[i].path).length:=by rw[hP,jH hk]
   have hl:(NG (x.take i) x[i].path).length≤256:=by rw[Lm];exact hL
   refine QR (e:=67) (m:=8) (es2:=[AY x[i]]) rfl rfl rfl (fun _ h=>h) hr ⟨rfl,trivial⟩ (by show(_+1)*120≤_;omega) (by show _+1≤_;omega) ?_;have r9:k<256:=by
    have:=(Aw.1 hk).1
    have:=Hr (x.take i) []
    rw[AG]at this;simp only[Ah]at this;omega
   have oZ:=hk;refine Yi (Jb ⟨A3 _,A3 _,A3 _,A3 _,A3 _,A3 _,A3 _,A3 _,A3 _,A3 _,Ei (show 39<10000000 by decide),Ei (by show _+50<10000000;omega),Ei (show 9<10000000 by decide),trivial⟩ (by kernel_rfl)) ?_;have e9:Fg (RL (x.take i)) (.string x[i].path) (.slice (.id (k+50) 9) (NG (x.take i) x[i].path++[AY x[i]]))=RL (x.take (i+1)):=by rw[KM];exact kR oZ
   have hG:∀l,(bif Nat.beq (l+50) (k+50)then HO.tok 9 ((NG (x.take i) x[i].path).length+1)else JP (x.take i) l)=JP (x.take (i+1)) l:=by rw[KM];exact mI oZ
   refine Xi ⟨[(2,.ref 2 0),(4,.ref 4 0),(18,sl AY x),(19,vi (x.map AY).length),(20,vi i)],[(2,.cells zT),(4,.cells [.mref 8,.mref 9]),(8,.map Xd ((x.take (i+1)).map Vv)),(9,.mapU DQ (RL (x.take (i+1))))],Vk (x.take (i+1))⟩ (Yi ?_ ?_)
   ·refine⟨Z5,⟨Zr,Zr,Zr,⟨Ac (HO.mapU DQ) e9,Lo _ (HL _)⟩,Tv⟩,Jz (fun l=>?_),Tv⟩;show(bif Nat.beq (l+50) (k+50)then HO.tok 9 ((NG (x.take i) x[i].path).length+1)else Vk (x.take i) (l+50))=_;rw[hP];exact hG l
   refine Xi 0 ?_;refine Yi (Ii i (by omega)) ?_;refine Xi ⟨i+1,by omega⟩ ?_;exact⟨Dl x.length i (by omega),Z5,⟨Zr,Zr,Zr,⟨rfl,Lo _ (HL _)⟩,Tv⟩,Jz (HL _),Tv⟩
  ·have oZ:=hp;have Tl:(AP (x.take i) []).length≤256:=by
    have:=Hr (x.take i) []
    rw[AG]at this;simp only[Ah]at this;omega
   have hn:=XR hp;refine Xi ((AP (x.take i) []).length+50) ?_;refine Or.inr (Yi hn ?_);refine Yi (Nz rfl) ?_;have hr:Vk (x.take i) ((AP (x.take i) []).length+50)=.free:=by
    rw[hP];unfold JP;rw[A6 (Ao _)]
   refine QQ (e:=67) (m:=8) (es2:=[AY x[i]]) rfl rfl rfl (fun _ h=>h) hr rfl ⟨rfl,trivial⟩ (by show 1*120≤_;omega) (by show 1≤_;omega) ?_;refine Yi (Jb ⟨A3 _,A3 _,A3 _,A3 _,A3 _,A3 _,A3 _,A3 _,A3 _,A3 _,Ei (show 39<10000000 by decide),Ei (by show _+50<10000000;omega),Ei (show 9<10000000 by decide),trivial⟩ (by kernel_rfl)) ?_;have e9:Fg (RL (x.take i)) (.string x[i].path) (.slice (.id ((AP (x.take i) []).length+50) 9) [AY x[i]])=RL (x.take (i+1)):=by rw[KM];exact kQ oZ
   have hG:∀l,(bif Nat.beq (l+50) ((AP (x.take i) []).length+50)then HO.tok 9 1 else JP (x.take i) l)=JP (x.take (i+1)) l:=by rw[KM];exact mH oZ
   refine Xi ⟨[(2,.ref 2 0),(4,.ref 4 0),(18,sl AY x),(19,vi (x.map AY).length),(20,vi i)],[(2,.cells zT),(4,.cells [.mref 8,.mref 9]),(8,.map Xd ((x.take (i+1)).map Vv)),(9,.mapU DQ (RL (x.take (i+1))))],Vk (x.take (i+1))⟩ (Yi ?_ ?_)
   ·refine⟨Z5,⟨Zr,Zr,Zr,⟨Ac (HO.mapU DQ) e9,Lo _ (HL _)⟩,Tv⟩,Jz (fun l=>?_),Tv⟩;show(bif Nat.beq (l+50) ((AP (x.take i) []).length+50)then HO.tok 9 1 else Vk (x.take i) (l+50))=_;rw[hP];exact hG l
   refine Xi 0 ?_;refine Yi (Ii i (by omega)) ?_;refine Xi ⟨i+1,by omega⟩ ?_;exact⟨Dl x.length i (by omega),Z5,⟨Zr,Zr,Zr,⟨rfl,Lo _ (HL _)⟩,Tv⟩,Jz (HL _),Tv⟩
 ·intro h;have h:¬(i:Int)<(x.map AY).length:=h;have h:¬i<x.length:=by simpa using h
  have et:x.take i=x:=AC (by omega);refine Xi ⟨[(2,.ref 2 0),(4,.ref 4 0)],[(2,.cells zT),(4,.cells [.mref 8,.mref 9]),(8,.map Xd ((x.take i).map Vv)),(9,.mapU DQ (RL (x.take i)))],Vk (x.take i)⟩ (Yi ?_ ?_)
  ·exact⟨Z2,⟨Zr,Zr,Zr,⟨rfl,Lo _ (HL _)⟩,Tv⟩,Jz (HL _),Tv⟩
  refine Xi 0 ?_;refine Yi (Nz rfl) ?_;refine Yi (Nz rfl) ?_;refine Yi (Nz rfl) ?_;have es:∀h:Nat→HO,RH h (RL (x.take i))=(AP x []).map (nl x):=fun h=>by
   rw[et];unfold RH RL;rw[BY];refine Dr fun j=>?_;rw[AJ,AJ,List.getElem?_zipIdx];cases (AP x [])[j]?<;>rfl
  have e1:(x.take i).map Vv=x.map Vv:=by rw[et]
  exact .of_eq (show AV.tup [.agg [.cmap Xd ((x.take i).map Vv),.cmap DQ (RH _ (RL (x.take i)))],vi 0]=_ by rw[e1,es])
end
theorem c84(x:List Rl)(ifs:List (List AV))(hx:∀r∈x,Gj r):mN x ifs:=by
 by_cases h0:Ba x=0
 ·exact oc x ifs (vX kw x ifs hx) h0 (Ls h0).1
 ·exact kB x ifs (vX kw x ifs hx) h0
end Go.Eng

namespace Go.Eng
open Go.Proofs
abbrev sZ(n:Nat):QO:=⟨[],[(2,n)],[],[],[],[],[5],[],[],[],[2,3]⟩
theorem vY(l:List Rq)(hl:CL l):Bo Tryz.prog 25 [sl Al l] (Ag [] Aa) fun r h'=>r=.slice (.id 2000 2) (l.map Al)∧h'=Ag [(2000,.tok 2 (l.map Al).length)] Aa:=by
 refine CH (MN (sZ 2)) [(2,2000)] rfl CI hm rfl Tryz.func25 (by kernel_rfl) rfl (Nz rfl) (by kernel_rfl) rfl ?_;have GL:BW 2 (l.map Al)∧([]:List (List AV)).length=0∧(([]:List (List AV)).length+(l.map Al).length)*40≤140737488355328∧([]:List (List AV)).length+(l.map Al).length≤9223372036854775807:=by
  refine⟨Du (enc:=Al) (n:=2) (fun _=>rfl) l,rfl,?_,?_⟩<;>simp only[Ah,Lm]<;>unfold CL at hl<;>omega
 have e2:HO.tok 2 (([]:List (List AV)).length+(l.map Al).length)=.tok 2 (l.map Al).length:=by rw[Ah,Be]
 have e3:AV.slice (.id 2000 2) ([]++l.map Al)=.slice (.id 2000 2) (l.map Al):=rfl;have full:∀st:St,(∃s:LS,St.le (MN (sZ 2)) st s∧True)→True:=fun _ _=>trivial;refine Xi 0 ?_;refine Xi 0 ?_;refine Yi ?_ ?_
 ·intro _;refine Xi ⟨[(0,sl Al l)],[],Aa⟩ (Yi ⟨Z1,Tv,Fh,At (by kernel_rfl)⟩ ?_)
  refine Xi 2 ?_;refine Yi GL ?_;exact Xi _ (Yi (.refl _) (Yi e3 (Ac (fun o=>Ag [(2000,o)] Aa) e2)))
 ·intro h;have h:l.map Al=[]:=h;refine Yi ?_ ?_
  ·refine Xi ⟨[],[],Aa⟩ (Yi ⟨trivial,trivial,fun _=>.inl rfl,At (by kernel_rfl)⟩ ?_)
   refine Xi 0 ?_;exact Xi _ (Yi (.refl _) (Yi (show AV.slice (.id 2000 2) []=_ by rw[h]) (show Ag [(2000,HO.tok 2 0)] Aa=_ by rw[h];rfl)))
  ·refine Xi ⟨[(0,sl Al l)],[],Aa⟩ (Yi ⟨Z1,Tv,Fh,At (by kernel_rfl)⟩ ?_)
   refine Xi 2 ?_;refine Yi GL ?_;exact Xi _ (Yi (.refl _) (Yi e3 (Ac (fun o=>Ag [(2000,o)] Aa) e2)))
end Go.Eng

namespace Go.Eng
open Go.Proofs
theorem rb(l:List Sl)(hl:CL l):Bo Tryz.prog 46 [sl Ak l] (Ag [] Aa) fun r h'=>r=.slice (.id 2000 4) (l.map Ak)∧h'=Ag [(2000,.tok 4 (l.map Ak).length)] Aa:=by
 refine CH (MN (sZ 4)) [(2,2000)] rfl CI hm rfl Tryz.func46 (by kernel_rfl) rfl (Nz rfl) (by kernel_rfl) rfl ?_;have GL:BW 4 (l.map Ak)∧([]:List (List AV)).length=0∧(([]:List (List AV)).length+(l.map Ak).length)*40≤140737488355328∧([]:List (List AV)).length+(l.map Ak).length≤9223372036854775807:=by
  refine⟨Du (enc:=Ak) (n:=4) (fun _=>rfl) l,rfl,?_,?_⟩<;>simp only[Ah,Lm]<;>unfold CL at hl<;>omega
 have e2:HO.tok 4 (([]:List (List AV)).length+(l.map Ak).length)=.tok 4 (l.map Ak).length:=by rw[Ah,Be]
 have e3:AV.slice (.id 2000 4) ([]++l.map Ak)=.slice (.id 2000 4) (l.map Ak):=rfl;refine Xi 0 ?_;refine Xi 0 ?_;refine Yi ?_ ?_
 ·intro _;refine Xi ⟨[(0,sl Ak l)],[],Aa⟩ (Yi ⟨Z1,Tv,Fh,At (by kernel_rfl)⟩ ?_)
  refine Xi 2 ?_;refine Yi GL ?_;exact Xi _ (Yi (.refl _) (Yi e3 (Ac (fun o=>Ag [(2000,o)] Aa) e2)))
 ·intro h;have h:l.map Ak=[]:=h;refine Yi ?_ ?_
  ·refine Xi ⟨[],[],Aa⟩ (Yi ⟨trivial,trivial,fun _=>.inl rfl,At (by kernel_rfl)⟩ ?_)
   refine Xi 0 ?_;exact Xi _ (Yi (.refl _) (Yi (show AV.slice (.id 2000 4) []=_ by rw[h]) (show Ag [(2000,HO.tok 4 0)] Aa=_ by rw[h];rfl)))
  ·refine Xi ⟨[(0,sl Ak l)],[],Aa⟩ (Yi ⟨Z1,Tv,Fh,At (by kernel_rfl)⟩ ?_)
   refine Xi 2 ?_;refine Yi GL ?_;exact Xi _ (Yi (.refl _) (Yi e3 (Ac (fun o=>Ag [(2000,o)] Aa) e2)))
end Go.Eng

namespace Go.Eng
open Go.Proofs
end Go.Eng

namespace Go.Eng
open Go.Proofs
def HU(before:List Sl)(acc:Option ByteArray)(q:Rq):Option ByteArray:=if Cv before q.path then acc else match acc with
  |none=>some q.path
  |some p=>if EN q.path p then some q.path else some p
theorem NF(before:List Sl):∀(a b:List Rq) (acc:Option ByteArray),CC before (a++b) acc=CC before b (CC before a acc)
 | [],_,_=>rfl
 |q::a,b,acc=>NF before a b (if Cv before q.path then acc else match acc with |none=>some q.path |some p=>if EN q.path p then some q.path else some p)
theorem IG(before:List Sl)(l:List Rq)(acc:Option ByteArray){j:Nat}(h:j<l.length):CC before (l.take (j+1)) acc=HU before (CC before (l.take j) acc) l[j]:=by
 rw[Bd,Ge h];show CC before (l.take j++[l[j]]) acc=_;rw[NF];rfl
section
variable {S:Type}{x:List Rl}{roots:List Rq}{s:List Sl}{step:S→Vis→S}{st0:S}{before:List Sl}{needs:List Rq}{n:Nat}{st:S}
end
end Go.Eng

namespace Go.Eng
open Go.Proofs
def ME(q:Rq):Bool:=decide (q.path.size≤100)&&decide (q.set.length≤8)
def EZ(l:List Rq):Bool:=l.all ME&&decide (l.length≤20)
theorem zd(l:List Rq)(hl:CL l):PC 27 [sl Al l] (vb (EZ l)):=by
 unfold CL at hl;refine Ps EP Tryz.func27 rfl (Nz rfl) ?_;refine Xi {i:Nat // i≤l.length∧∀j (hj:j<l.length),j<i→ME l[j]=true} (Xi (fun i=>⟨[(0,sl Al l),(3,vi i.1)],[],Aa⟩) (Xi (fun i=>l.length-i.1) (Yi (Xi ⟨0,AL _,fun j _ h=>by omega⟩ ?_) ?_)))
 ·exact⟨Z2,Tv,Fh,Tv⟩
 intro⟨i,h1,h2⟩;refine Yi ?_ ?_
 ·intro h;have h:(i:Int)<(l.map Al).length:=h;have h:i<l.length:=by simpa using h
  have hg:l[i]?=some l[i]:=Ge h;have no:ME l[i]=false→false=EZ l:=fun e=>by
   unfold EZ
   have:l.all ME=false:=by
    rw[AI];intro ha
    have:=AW.1 ha _ (Am h)
    rw[e]at this;cases this
   rw[this];rfl
  refine Xi (Al l[i]) (Yi (Yi (Nn i) (by simp[hg])) (Yi rfl ?_));refine Yi ?_ ?_
  ·intro h3;have h3:(100:Int)<((l[i].path.size:Nat):Int):=h3;exact .of_eq (Ac vb (no (by unfold ME;rw[Au (by omega)];rfl)))
  intro h3;have h3:¬(100:Int)<((l[i].path.size:Nat):Int):=h3;refine Xi (Al l[i]) (Yi (Yi (Nn i) (by simp[hg])) (Yi rfl ?_));refine Yi ?_ ?_
  ·intro h4;have h4:(8:Int)<((l[i].set.map Ae).length:Int):=h4;rw[Lm]at h4;exact .of_eq (Ac vb (no (by unfold ME;rw[Au (by omega:¬l[i].set.length≤8),Ct])))
  intro h4;have h4:¬(8:Int)<((l[i].set.map Ae).length:Int):=h4;have h5:l[i].set.length≤8:=by rw[Lm]at h4;omega
  refine Yi (Ii i (by omega)) ?_;refine Xi ⟨i+1,by omega,fun j hj IL=>?_⟩ ?_
  ·rcases BZ j i with z | z
   ·exact h2 j hj z
   ·have:j=i:=by omega
    subst this;unfold ME;rw[Av (by omega),Av h5];rfl
  ·exact⟨Dl l.length i (by omega),Z2,Tv,Fh,Tv⟩
 ·intro h;have h:¬(i:Int)<(l.map Al).length:=h;have h:¬i<l.length:=by simpa using h
  have ha:l.all ME=true:=AW.2 fun q hq=>by
   obtain⟨j,hj,rfl⟩:=B1 hq;exact h2 j hj (by omega)
  refine Yi ?_ ?_
  ·intro h3;have h3:((l.map Al).length:Int)≤20:=h3;rw[Lm]at h3;exact .of_eq (Ac vb (show true=EZ l by unfold EZ;rw[ha,Av (by omega)];rfl))
  ·intro h3;have h3:¬((l.map Al).length:Int)≤20:=h3;rw[Lm]at h3;exact .of_eq (Ac vb (show false=EZ l by unfold EZ;rw[Au (by omega),Ct]))
end Go.Eng

namespace Go.Eng
open Go.Proofs
def JM(r:Rl):Bool:=decide (r.path.size≤100)&&decide (r.arch.size≤100)&&decide (r.ifc.size≤100)&&decide (r.cert.size≤100)&&EZ r.reqs
def Gm(x:List Rl)(n:Nat):Bool:=x.all JM&&decide (x.length≤n)
theorem c34(x:List Rl)(n:Nat)(hl:CL x)(hr:∀r∈x,CL r.reqs):PC 26 [sl AY x,vi n] (vb (Gm x n)):=by
 unfold CL at hl;refine Ps EP Tryz.func26 rfl (Nz rfl) ?_;refine Xi {i:Nat // i≤x.length∧∀j (hj:j<x.length),j<i→JM x[j]=true} (Xi (fun i=>⟨[(0,sl AY x),(1,vi n),(5,vi i.1)],[],Aa⟩) (Xi (fun i=>x.length-i.1) (Yi (Xi ⟨0,AL _,fun j _ h=>by omega⟩ ?_) ?_)))
 ·exact⟨Z3,Tv,Fh,Tv⟩
 intro⟨i,h1,h2⟩;refine Yi ?_ ?_
 ·intro h;have h:(i:Int)<(x.map AY).length:=h;have h:i<x.length:=by simpa using h
  have hg:x[i]?=some x[i]:=Ge h;have no:JM x[i]=false→false=Gm x n:=fun e=>by
   unfold Gm
   have:x.all JM=false:=by
    rw[AI];intro ha
    have:=AW.1 ha _ (Am h)
    rw[e]at this;cases this
   rw[this];rfl
  have hc:=zd x[i].reqs (hr _ (Am h));refine Xi (AY x[i]) (Yi (Yi (Nn i) (by simp[hg])) (Yi rfl ?_));refine Yi ?_ ?_
  ·intro h3;have h3:(100:Int)<((x[i].path.size:Nat):Int):=h3;exact .of_eq (Ac vb (no (by unfold JM;rw[Au (by omega:¬x[i].path.size≤100)];simp)))
  intro h3;have h3:¬(100:Int)<((x[i].path.size:Nat):Int):=h3;refine Xi (AY x[i]) (Yi (Yi (Nn i) (by simp[hg])) (Yi rfl ?_));refine Yi ?_ ?_
  ·intro h4;have h4:(100:Int)<((x[i].arch.size:Nat):Int):=h4;exact .of_eq (Ac vb (no (by unfold JM;rw[Au (by omega:¬x[i].arch.size≤100)];simp)))
  intro h4;have h4:¬(100:Int)<((x[i].arch.size:Nat):Int):=h4;refine Xi (AY x[i]) (Yi (Yi (Nn i) (by simp[hg])) (Yi rfl ?_));refine Yi ?_ ?_
  ·intro h5;have h5:(100:Int)<((x[i].ifc.size:Nat):Int):=h5;exact .of_eq (Ac vb (no (by unfold JM;rw[Au (by omega:¬x[i].ifc.size≤100)];simp)))
  intro h5;have h5:¬(100:Int)<((x[i].ifc.size:Nat):Int):=h5;refine Xi (AY x[i]) (Yi (Yi (Nn i) (by simp[hg])) (Yi rfl ?_));refine Yi ?_ ?_
  ·intro h6;have h6:(100:Int)<((x[i].cert.size:Nat):Int):=h6;exact .of_eq (Ac vb (no (by unfold JM;rw[Au (by omega:¬x[i].cert.size≤100)];simp)))
  intro h6;have h6:¬(100:Int)<((x[i].cert.size:Nat):Int):=h6;refine Xi (AY x[i]) (Yi (Yi (Nn i) (by simp[hg])) (Yi rfl ?_));refine BO (Bt (EZ x[i].reqs)) (fun e=>?_) (fun e=>?_)
  rotate_left
  ·rw[e]at hc;refine Xi .pure (Xi _ (Yi (hc) ?_));exact .of_eq (Ac vb (no (by unfold JM;rw[e,Ct])))
  rw[e]at hc;refine Xi .pure (Xi _ (Yi (hc) ?_));refine Yi (Ii i (by omega)) ?_;refine Xi ⟨i+1,by omega,fun j hj IL=>?_⟩ ?_
  ·rcases BZ j i with z | z
   ·exact h2 j hj z
   ·have:j=i:=by omega
    subst this;unfold JM;rw[Av (by omega:x[j].path.size≤100),Av (by omega:x[j].arch.size≤100),Av (by omega:x[j].ifc.size≤100),Av (by omega:x[j].cert.size≤100),e];rfl
  ·exact⟨Dl x.length i (by omega),Z3,Tv,Fh,Tv⟩
 ·intro h;have h:¬(i:Int)<(x.map AY).length:=h;have h:¬i<x.length:=by simpa using h
  have ha:x.all JM=true:=AW.2 fun q hq=>by
   obtain⟨j,hj,rfl⟩:=B1 hq;exact h2 j hj (by omega)
  refine Yi ?_ ?_
  ·intro h3;have h3:((x.map AY).length:Int)≤n:=h3;rw[Lm]at h3;exact .of_eq (Ac vb (show true=Gm x n by unfold Gm;rw[ha,Av (by omega)];rfl))
  ·intro h3;have h3:¬((x.map AY).length:Int)≤n:=h3;rw[Lm]at h3;exact .of_eq (Ac vb (show false=Gm x n by unfold Gm;rw[Au (by omega),Ct]))
theorem c11(x:List Rl)(ifs:List (List AV))(roots:List Rq)(hl:CL x)(hr:∀r∈x,CL r.reqs)(hq:CL roots):PC 9 [L6 x ifs,sl Al roots] (vb (Gm x 16&&EZ roots)):=by
 have h1:=c34 x 16 hl hr;have h2:=zd roots hq;cases e:Gm x 16 with
 |true =>
  rw[e]at h1;refine Ps EP Tryz.func9 rfl (Nz rfl) ?_;refine Xi .pure (Xi _ (Yi (h1) ?_));refine Xi .pure (Xi _ (Yi (h2) ?_));exact .refl _
 |false =>
  rw[e]at h1;refine Ps EP Tryz.func9 rfl (Nz rfl) ?_;refine Xi .pure (Xi _ (Yi (h1) ?_));exact .refl _
end Go.Eng

namespace Go.Eng
open Go.Proofs
abbrev sT:AV:=.v (.slice none 0 0)
end Go.Eng

namespace Go.Eng
open Go.Proofs
end Go.Eng

namespace Go.Eng
open Go.Proofs
end Go.Eng

namespace Go.Eng
open Go.Proofs
section
variable {l:List Rl}{roots t:List Rq}{d:List ByteArray}{n:Nat}
end
end Go.Eng

namespace Go.Eng
open Go.Proofs
end Go.Eng

namespace Go.Eng
open Go.Proofs
structure pV(x:List Rl)(roots:List Rq):Prop where
 ix:CL x
 rs:CL roots
 rel:∀r∈x,CL r.reqs∧Gj r
 rq:∀q∈roots,H4 q
theorem pV.x{x:List Rl}{roots:List Rq}(h:pV x roots):∀r∈x,Gj r:=fun r hr=>(h.rel r hr).2
theorem cE{x:List Rl}{roots:List Rq}(h:(Gm x 16&&EZ roots)=true):roots.length≤20:=by
 simp only[Af,EZ,AD]at h;exact h.2.2
theorem pV.c11{x:List Rl}{roots:List Rq}(h:pV x roots)(ifs:List (List AV)):PC 9 [L6 x ifs,sl Al roots] (vb (Gm x 16&&EZ roots)) :=
 Go.Eng.c11 x ifs roots h.ix (fun r hr=>(h.rel r hr).1) h.rs
end Go.Eng

namespace Go.Proofs.YtkmnnpmneamgoaaGreatDoor.joins
open Go Go.Eng Go.Proofs Go.ChangeShapes Go.WideShapes Go.ChangeAt Go.RowKit

section
variable {H:Type}{enc:TypeId×Value→H}{w:World}
theorem all_le{d:DataW H}{l:List (DataW H)}(h:d∈l):Rows.uptoBulk d≤Rows.uptoBulkAll l:=by
 induction l with
 |nil=>cases h
 |cons x r ih =>
  simp only[Rows.uptoBulkAll]
  cases AF.1 h with
  |inl e=>subst e;omega
  |inr e=>have:=ih e;omega
theorem one_le(d:DataW H):1≤Rows.uptoBulk d:=by
 cases d with
 |lit l=>cases l<;>simp[Rows.uptoBulk]
 |nil=>simp[Rows.uptoBulk]
 |ptr d=>simp[Rows.uptoBulk]
 |slice mS spare=>simp[Rows.uptoBulk]
 |agg parts=>simp[Rows.uptoBulk]
 |iface t d=>simp[Rows.uptoBulk]
 |map entries=>simp[Rows.uptoBulk]
 |held h=>simp[Rows.uptoBulk]
theorem len_le(l:List (DataW H)):l.length≤Rows.uptoBulkAll l:=by
 induction l with
 |nil=>simp[Rows.uptoBulkAll]
 |cons x r ih=>have:=one_le x;simp only[Rows.uptoBulkAll,Aj];omega
theorem bulk_ok:V6 (H:=H) Rows.uptoBulk where
 slice es sp:=by
  have h1:=len_le es
  refine⟨by simp only[Rows.uptoBulk];omega,fun d hd=>?_⟩
  have:=all_le hd
  simp only[Rows.uptoBulk];omega
 agg ps d hd:=by
  have:=all_le hd
  simp only[Rows.uptoBulk];omega
 str b:=by simp only[Rows.uptoBulk];omega
theorem app_all(l r:List (DataW H)):Rows.uptoBulkAll (l++r)=Rows.uptoBulkAll l+Rows.uptoBulkAll r:=by
 induction l with
 |nil=>simp[Rows.uptoBulkAll]
 |cons x l ih=>simp only[D7,Rows.uptoBulkAll,ih];omega

abbrev NB:Nat:=1048576
abbrev Op(enc:TypeId×Value→H)(w:World)(t:TypeId){α:Type}(e:α→List AV)(ok:α→Prop):Prop:=JW enc Tryz.prog w Rows.uptoBulk NB t e ok
theorem oI:Op enc w 3 (fun n:Int=>[vi n]) (fun _=>True):=(dO Tryz.underlying3).to id (fun _ _=>⟨rfl,trivial⟩)
theorem oB:Op enc w 4 (fun b:Bool=>[vb b]) (fun _=>True):=aj Tryz.underlying4
theorem oS:Op enc w 9 (fun s:ByteArray=>[vs s]) (fun s=>s.size≤NB):=WR bulk_ok Tryz.underlying9
theorem oVer:Op enc w 49 Gl (fun _=>True) :=
 (Ey bulk_ok Tryz.underlying49 (L:=3) (by kernel_rfl) (BC rfl (n:=1) (by kernel_rfl) oI (BC rfl (n:=1) (by kernel_rfl) oI (BC rfl (n:=1) (by kernel_rfl) oI FG)))).to
  (fun p=>(⟨p.1,p.2.1,p.2.2.1⟩:Ver)) (fun _ _=>⟨rfl,trivial⟩)
theorem oSpan:Op enc w 65 Ae (fun _=>True) :=
 (Ey bulk_ok Tryz.underlying65 (L:=2) (by kernel_rfl) (BC rfl (n:=1) (by kernel_rfl) oI (BC rfl (n:=1) (by kernel_rfl) oI FG))).to
  (fun p=>(p.1,p.2.1)) (fun _ _=>⟨rfl,trivial⟩)
theorem oSet:Op enc w 43 (fun l:Bc=>[sl Ae l]) (fun l=>l.length≤NB) :=
 (GF bulk_ok Tryz.underlying43 (m:=1) (by kernel_rfl) (fun _=>rfl) oSpan).to id (fun _ h=>⟨rfl,h.1⟩)
abbrev OkRq(q:Rq):Prop:=q.path.size≤NB∧q.set.length≤NB
theorem oRq:Op enc w 45 Al OkRq :=
 (Ey bulk_ok Tryz.underlying45 (L:=2) (by kernel_rfl) (BC rfl (n:=1) (by kernel_rfl) oS (BC rfl (n:=1) (by kernel_rfl) oSet FG))).to
  (fun p=>(⟨p.1,p.2.1⟩:Rq)) (fun _ h=>⟨rfl,h.1,h.2.1⟩)
abbrev OkRqs(l:List Rq):Prop:=l.length≤NB∧∀q∈l,OkRq q
theorem oRqs:Op enc w 26 (fun l:List Rq=>[sl Al l]) OkRqs :=
 GF bulk_ok Tryz.underlying26 (m:=1) (by kernel_rfl) (fun _=>rfl) oRq
abbrev OkRl(r:Rl):Prop:=r.path.size≤NB∧OkRqs r.reqs
theorem oRl:Op enc w 67 AY OkRl :=
 (Ey bulk_ok Tryz.underlying67 (L:=9) (by kernel_rfl) (BC rfl (n:=1) (by kernel_rfl) oS (BC rfl (n:=3) (by kernel_rfl) oVer (BC rfl (n:=1) (by kernel_rfl) oRqs
  (BC rfl (n:=1) (by kernel_rfl) oS (BC rfl (n:=1) (by kernel_rfl) oS (BC rfl (n:=1) (by kernel_rfl) oS (BC rfl (n:=1) (by kernel_rfl) oB FG)))))))).to
  (fun p=>(⟨p.1,p.2.1,p.2.2.1,p.2.2.2.1,p.2.2.2.2.1,p.2.2.2.2.2.1,p.2.2.2.2.2.2.1⟩:Rl)) (fun _ h=>⟨rfl,h.1,h.2.2.1⟩)
theorem oRls:Op enc w 22 (fun l:List Rl=>[sl AY l]) (fun l=>l.length≤NB∧∀r∈l,OkRl r) :=
 GF bulk_ok Tryz.underlying22 (m:=8) (by kernel_rfl) (fun _=>rfl) oRl
theorem oIfc:Op enc w 349 (fun s:ByteArray=>[vs s,.junk,.junk,.junk,.junk]) (fun _=>True) :=
 (Ey bulk_ok Tryz.underlying349 (L:=5) (by kernel_rfl) (BC rfl (n:=1) (by kernel_rfl) oS (BC rfl (n:=1) (by kernel_rfl) (M1 Tryz.underlying344) (BC rfl (n:=1) (by kernel_rfl) (M1 Tryz.underlying345)
  (BC rfl (n:=1) (by kernel_rfl) (M1 Tryz.underlying346) (BC rfl (n:=1) (by kernel_rfl) (M1 Tryz.underlying347) FG)))))).to (fun p=>p.1) (fun _ _=>⟨rfl,trivial⟩)
theorem oIfs:Op enc w 23 (fun l:List ByteArray=>[sl (fun s=>[vs s,.junk,.junk,.junk,.junk]) l]) (fun _=>True) :=
 (GF bulk_ok Tryz.underlying23 (m:=4) (by kernel_rfl) (fun _=>rfl) oIfc).to id (fun _ _=>⟨rfl,trivial⟩)
theorem oIx:Op enc w 25 (fun p:List Rl×List (List AV)=>[sl AY p.1,.slice .none p.2]) (fun p=>p.1.length≤NB∧∀r∈p.1,OkRl r) :=
 (Ey bulk_ok Tryz.underlying25 (L:=2) (by kernel_rfl) (BC rfl (n:=1) (by kernel_rfl) oRls (BC rfl (n:=1) (by kernel_rfl) oIfs FG))).to
  (fun p=>(p.1,p.2.1.map (fun s=>[vs s,.junk,.junk,.junk,.junk]))) (fun _ h=>⟨rfl,h.1⟩)
theorem oSl:Op enc w 51 Ak (fun y=>y.path.size≤NB) :=
 (Ey bulk_ok Tryz.underlying51 (L:=4) (by kernel_rfl) (BC rfl (n:=1) (by kernel_rfl) oS (BC rfl (n:=3) (by kernel_rfl) oVer FG))).to
  (fun p=>(⟨p.1,p.2.1⟩:Sl)) (fun _ h=>⟨rfl,h.1⟩)
theorem oSls:Op enc w 39 (fun l:List Sl=>[sl Ak l]) (fun l=>l.length≤NB∧∀y∈l,y.path.size≤NB) :=
 GF bulk_ok Tryz.underlying39 (m:=3) (by kernel_rfl) (fun _=>rfl) oSl
theorem oNf:Op enc w 136 BQ (fun i=>i.path.size≤NB) :=
 (Ey bulk_ok Tryz.underlying136 (L:=6) (by kernel_rfl) (BC rfl (n:=1) (by kernel_rfl) oI (BC rfl (n:=1) (by kernel_rfl) oS (BC rfl (n:=1) (by kernel_rfl) oI
  (BC rfl (n:=1) (by kernel_rfl) oI (BC rfl (n:=1) (by kernel_rfl) oI (BC rfl (n:=1) (by kernel_rfl) oI FG))))))).to
  (fun p=>(⟨p.1,p.2.1,p.2.2.1,p.2.2.2.1,p.2.2.2.2.1,p.2.2.2.2.2.1⟩:Nf)) (fun _ h=>⟨rfl,h.2.1⟩)
theorem oNfs:Op enc w 56 (fun l:List Nf=>[sl BQ l]) (fun l=>l.length≤NB∧∀i∈l,i.path.size≤NB) :=
 GF bulk_ok Tryz.underlying56 (m:=5) (by kernel_rfl) (fun _=>rfl) oNf
theorem oSk:Op enc w 151 BE (fun y=>y.path.size≤NB) :=
 (Ey bulk_ok Tryz.underlying151 (L:=3) (by kernel_rfl) (BC rfl (n:=1) (by kernel_rfl) oS (BC rfl (n:=1) (by kernel_rfl) oI (BC rfl (n:=1) (by kernel_rfl) oI FG)))).to
  (fun p=>(⟨p.1,p.2.1,p.2.2.1⟩:Sk)) (fun _ h=>⟨rfl,h.1⟩)
theorem oSks:Op enc w 57 (fun l:List Sk=>[sl BE l]) (fun l=>l.length≤NB∧∀y∈l,y.path.size≤NB) :=
 GF bulk_ok Tryz.underlying57 (m:=2) (by kernel_rfl) (fun _=>rfl) oSk
abbrev OkAn(a:An):Prop:=a.sel.length≤NB∧a.infs.length≤NB∧a.skips.length≤NB
theorem oAn:Op enc w 59 Jw OkAn :=
 (Ey bulk_ok Tryz.underlying59 (L:=4) (by kernel_rfl) (BC rfl (n:=1) (by kernel_rfl) oB (BC rfl (n:=1) (by kernel_rfl) oSls (BC rfl (n:=1) (by kernel_rfl) oNfs
  (BC rfl (n:=1) (by kernel_rfl) oSks FG))))).to
  (fun p=>(⟨p.1,p.2.1,p.2.2.1,p.2.2.2.1⟩:An)) (fun _ h=>⟨rfl,h.2.1.1,h.2.2.1.1,h.2.2.2.1.1⟩)
theorem few_of{n:Nat}(h:n≤NB):n≤1073741824:=Bw h (by decide)
theorem lim_of{x:List Rl}{roots:List Rq}(h:x.length≤NB∧∀r∈x,OkRl r)(k:OkRqs roots):pV x roots where
 ix:=few_of h.1
 rs:=few_of k.1
 rel r hr:=⟨few_of (h.2 r hr).2.1,few_of (h.2 r hr).1,fun q hq=>⟨few_of ((h.2 r hr).2.2 q hq).2,few_of ((h.2 r hr).2.2 q hq).1⟩⟩
 rq q hq:=⟨few_of (k.2 q hq).2,few_of (k.2 q hq).1⟩
end

theorem ok_agg{P:Program}{W:World}{base:Nat}{t:TypeId}{v:Value}{fs:Array Field}(hu:P.underlying t=some (.struct fs))(h:Value.okWide P W .any base t v):∃cs,v=.agg cs:=by
 unfold Value.okWide at h
 rw[hu]at h
 obtain⟨cs,e,_⟩:=h
 exact⟨cs,e⟩
theorem ok_slice{P:Program}{W:World}{base:Nat}{t e:TypeId}{v:Value}(hu:P.underlying t=some (.slice e))(h:Value.okWide P W .any base t v):v.oneCell'=true:=by
 unfold Value.okWide at h
 rw[hu]at h
 unfold Cell.okWide Cell.ok at h
 rw[hu]at h
 cases v<;>first | rfl | simp at h
theorem ok_int{P:Program}{W:World}{base:Nat}{t:TypeId}{k:IntKind}{v:Value}(hu:P.underlying t=some (.int k))(h:Value.okWide P W .any base t v):v.oneCell'=true:=by
 unfold Value.okWide at h
 rw[hu]at h
 unfold Cell.okWide Cell.ok at h
 rw[hu]at h
 cases v<;>first | rfl | simp at h
theorem int_of_shape{P:Program}{w:World}{g:Nat}{t:TypeId}{k:IntKind}{zero:Array Value}(h:w.ShapedOpen P)(hg:g<P.globals.size)
  (h0:((begin P (fun _ _=>0) default).world.heap[g]?).bind Obj.row?=some (zero,t)) (hz:zero.size=1)
  (hb:P.buildable t=true) (hc:P.cellTypes P.depth t=some [t]) (hu:P.underlying t=some (.int k)):∃p,w.cell? ⟨g,0,none⟩=some (.int k p):=by
 obtain⟨cs,hh,hs,hr⟩:=h.1 g zero t hg h0
 obtain⟨ts,hts,_,GM⟩:=hr hb
 rw[hc]at hts
 cases hts
 have h1:0<cs.size:=by omega
 obtain⟨u,hZ,FV⟩:=GM 0 cs[0] (by simp[h1])
 have:u=t:=by simpa using hZ.symm
 subst this
 have Dk:w.cell? ⟨g,0,none⟩=some cs[0]:=by simp[World.cell?,hh,h1]
 rw[Dk]
 unfold Cell.ok at FV
 rw[hu]at FV
 cases hv:cs[0]<;>rw[hv]at FV<;>simp at FV
 obtain⟨rfl,_⟩:=FV
 exact⟨_,rfl⟩
theorem maxLen_cell{W:World}(h:W.ShapedOpen Tryz.prog):∃m,W.cell? ⟨0,0,none⟩=some (.int .i64 m) :=
 int_of_shape (t:=3) (zero:=#[.int .i64 0]) h (Cq (by kernel_rfl)) (by kernel_rfl) rfl (by kernel_rfl) (by kernel_rfl) Tryz.underlying3

def Still(W W' : World):Prop:=W'.os=W.os∧W'.output=W.output∧W.heap.size≤W'.heap.size∧∀b,b<W.heap.size→W'.heap[b]?=W.heap[b]?
theorem run_true{f:Nat}{args:List AV}{vals:Array Value}{W:World}(hc:PC f args (vb true))(hM:∃m,W.cell? ⟨0,0,none⟩=some (.int .i64 m))(hs:vals.size=args.length)
  (hr:∀(i:Nat) (av:AV) (x:Value),args[i]?=some av→vals[i]?=some x→BK (gn W) W Fp av x):Calls Tryz.prog f vals W fun e W'=>e=.returned (.bool true)∧Still W W':=by
 refine(hc.2 (gn W) W vals hs (fun i av x q1 q2=>(hr i av x q1 q2).up _) (sK hM (fun _ h=>by cases h))).mono fun e W' ⟨v,r,h',g',e1,e2,e3,e4,_⟩=>?_
 subst e1
 obtain⟨rfl,rfl⟩:=e2
 obtain rfl:=e3.v_eq
 exact⟨rfl,e4.os,e4.output,e4.size,fun b hb=>e4.frame b hb (fun r h=>h.elim)⟩
theorem Still.kept{W W' : World}(h:Still W W')(may:MemPlace→Prop):W.keptBut W' may:=by
 refine⟨h.1,h.2.1,fun i hi=>?_⟩
 rw[h.2.2.2 i hi]
 cases hh:W.heap[i]? with
 |none=>rfl
 |some o=>cases o<;>simp
theorem Still.same{W W' : World}(h:Still W W'){p:MemPlace}(hp:p.block<W.heap.size):W.sameAt W' p:=by
 cases p with
 |cell b off =>
  show W'.cell? ⟨b,off,none⟩=W.cell? ⟨b,off,none⟩
  unfold World.cell?
  rw[h.2.2.2 b hp]
 |map b=>exact h.2.2.2 b hp
theorem kids:Kids Tryz.prog (· < Tryz.prog.types.size):=kids_rows (by kernel_rfl) (by kernel_rfl)
theorem full:∀t e,t<Tryz.prog.types.size→Tryz.prog.underlying t=some (.slice e)→0<Tryz.prog.cellsOf e:=slices_full_of Tryz.prog (by kernel_rfl)
theorem carry{H:Type}{enc:TypeId×Value→H}{W W' : World}(h:Still W W'):∀{ts:List TypeId} {vs:List Value} {ds:List (DataW H)} {ps:List MemPlace},DataW.TrodAll enc Tryz.prog W 0 (fun _=>true) true ts vs ds ps→DataW.TrodAll enc Tryz.prog W' 0 (fun _=>true) true ts vs ds ps
 | [],[],[],_,e=>e
 |t::ts,v::vs,d::ds,ps,k=>by
  have Dy:=k.lt
  obtain⟨p,q,⟨n,h1⟩,h2,rfl⟩:=k
  exact⟨p,q,⟨n,DataW.trod_carry n _ _ _ h1 (fun x hx=>h.same (Dy x (Bz _ hx)))⟩,carry h h2,rfl⟩
 | [],[],_::_,_,k=>k.elim
 | [],_::_,_,_,k=>k.elim
 |_::_,[],_,_,k=>k.elim
 |_::_,_::_,[],_,k=>k.elim
theorem post_true{H:Type}{enc:TypeId×Value→H}{W W' : World}{f:Func}{s:ChangeSpec}{args:Array Value}{ds:List (DataW H)}{before:List MemPlace}(GD:Still W W')(hv:s.vars=[])
  (hW:DataW.Whole enc Tryz.prog f.params.toList s.vars false W args.toList ds [] before) (hr:f.resultTypes=#[4]) (hT:∀t∈f.params.toList,t<Tryz.prog.types.size) (hs:s.fn H ds={ results:=[.lit (.bool true)],args:=ds }) :
  s.post enc Tryz.prog f false true false false W args (.bool true) W':=by
 have zA:=hW
 obtain⟨p,q,hA,hV,rfl,hz,_⟩:=hW
 rw[hv]at hV
 have hq:q=[]:=hV
 subst hq
 have Dy:=zA.lt
 have qk:s.fn H (ds++[])={ results:=[.lit (.bool true)],args:=ds }:=by rw[CV];exact hs
 refine⟨ds,[],p++[],[],p,[],zA,?_,?_,?_,GD.kept _,fun h=>by cases h⟩
 ·rw[qk,hr]
  exact⟨[],[],⟨1,by rw[show(Value.bool true).cells.toList=[.bool true]from rfl,DataW.trod_step];unfold DataW.trodStep;rw[Tryz.underlying4]⟩,rfl,rfl⟩
 ·rw[qk]
  exact(carry GD hA).respare kids full hT (fun x hx=>by simpa using Dy x (Bz _ hx))
 ·rw[qk,hv];rfl
end Go.Proofs.YtkmnnpmneamgoaaGreatDoor.joins

namespace Go.Proofs.YtkmnnpmneamgoaaGreatDoor.joins
open Go Go.Eng Go.Proofs Go.ChangeShapes Go.WideShapes Go.ChangeAt Go.RowKit
theorem own:ownKnob Tryz.prog.godebug=none:=by kernel_rfl
def flatD:Nat→DataW Unit→List Value
 |0,_=>[]
 |n+1,.agg l=>l.flatMap (flatD n)
 |_+1,.lit (.int k i)=>[.int k i]
 |_+1,_=>[]
def layIn(d:DataW Unit):Obj→Obj
 |.cells _ t frozen=>.cells (flatD 4 d).toArray t frozen
 |o=>o
noncomputable def laidWorld(os:Os):World :=
 { World.holding Tryz.prog os ⟨#[],#[],[]⟩with heap:=((World.holding Tryz.prog os ⟨#[],#[],[]⟩).heap.modify 1 (layIn Rows.laid_unicode_utf8_first)).modify 2 (layIn Rows.laid_unicode_utf8_acceptRanges) }
abbrev nilV:Value:=.slice none 0 0
theorem arr2{args:Array Value}{a b:Value}(h:args.toList=[a,b]):args=#[a,b]:=by
 cases args;simp_all
theorem arr3{args:Array Value}{a b c:Value}(h:args.toList=[a,b,c]):args=#[a,b,c]:=by
 cases args;simp_all
theorem arr4{args:Array Value}{a b c d:Value}(h:args.toList=[a,b,c,d]):args=#[a,b,c,d]:=by
 cases args;simp_all
theorem arr5{args:Array Value}{a b c d e:Value}(h:args.toList=[a,b,c,d,e]):args=#[a,b,c,d,e]:=by
 cases args;simp_all
theorem looksOff:false=Tryz.pinned.checked.prog.looks []:=by kernel_rfl
theorem noStand:∀t∈([25,26,3]:List Nat),Tryz.pinned.checked.prog.wantsStandIn t=false:=by
 intro t ht
 simp only[AF,LW,or_false]at ht
 rcases ht with rfl | rfl | rfl<;>exact(show Tryz.prog.wantsStandIn _=false by kernel_rfl)
end Go.Proofs.YtkmnnpmneamgoaaGreatDoor.joins
