/- Lemmas for the claims of this seat, without a condition: part 21 (C50, C51, C52, C53, C54, C55, C65, C66, C67, C68, C69, C56, C57, C58, C59, C70, C71, C72, C73, J1, J2). -/
import Derived.Test.YtkmnnpmneamgoaaGreatDoorA20
import Derived.Test.YtkmnnpmneamgoaaGreatDoorCards
import Derived.Test.YtkmnnpmneamgoaaGreatDoorTie
import Derived.ProofKit
import Derived.OpenShut
import Derived.Deep.DeepHandedRow
import Derived.Lib.LaidTab
namespace Go.Eng
open Go.Proofs
abbrev DO(l:List Rl):A9:=(l.filter fun r=>!r.yanked).map fun r=>(plc r.ver,plc r.ver+1)
theorem ac(l:List Rl):(DO l).length≤l.length:=by
 unfold DO;rw[Lm];exact By _ _
theorem kY{x:List Rl}{ps:List ByteArray}{p:ByteArray}{a:AV}(h:(Value.string p,a)∈ps.map (mB x)):a=sl AY (x.filter fun r=>decide (r.path=p)):=by
 obtain⟨q,_,h2⟩:=Aq.1 h;simp only[mB,FV,Value.string.injEq]at h2;rw[←h2.2,h2.1]
theorem Ok{acc:List ByteArray}{p:ByteArray}:(acc.any fun q=>decide (q=p))=true↔p∈acc:=by
 rw[A3];constructor
 ·rintro⟨q,h1,h2⟩;rw[←Cm h2];exact h1
 ·intro h;exact⟨p,h,by simp⟩
theorem Hk:∀(x:List Rl) (acc:List ByteArray) (p:ByteArray),p∈AP x acc↔p∈acc∨∃r∈x,r.path=p
 | [],acc,p=>by simp[AP]
 |r::x,acc,p=>by
  rw[AP,Hk x];constructor
  ·rintro(h | ⟨s,h1,h2⟩)
   ·split at h
    ·exact .inl h
    ·rcases A5.1 h with h | h
     ·exact .inl h
     ·exact .inr ⟨r,Ab ..,(Au.1 h).symm⟩
   ·exact .inr ⟨s,Ai _ h1,h2⟩
  ·rintro(h | ⟨s,h1,h2⟩)
   ·left
    split
    ·exact h
    ·exact Bz _ h
   ·rcases AF.1 h1 with rfl | h1
    ·left
     split
     ·rename_i hh;rw[←h2];exact Ok.1 hh
     ·rw[←h2];exact Bp _ (Au.2 rfl)
    ·exact .inr ⟨s,h1,h2⟩
abbrev mF:QA:=⟨[],[(7,2)],[],[],[],[],[],[],[],[],[2,3,6,7,9]⟩
theorem UK(L:List Rl)(i:Nat)(h:i<L.length):DO (L.take (i+1))=DO (L.take i)++(if L[i].yanked then []else [(plc L[i].ver,plc L[i].ver+1)]):=by
 unfold DO;rw[Bb,Ge h,E8,AA]
 congr 1
 cases hy:L[i].yanked<;>simp[hy]
theorem uF(x:List Rl)(ifs:List (List AV))(p:ByteArray)(po:l5 x ifs):PC 61 [Mm x ifs,vs p] (sl Ae (Ce x p)):=by
 by_cases h0:A7 x=0
 ·have po:PC 95 [Mm x ifs] (.tup [.agg [.cmap WS (x.map Vc),.cmap DI ((AP x []).map (mB x))],vi 0]):=by
   have:=po;unfold l5 af at this;rw[AB h0]at this;exact this
  have QO:=(Kd h0).1;obtain⟨L,tg⟩:∃L,L=x.filter fun r=>decide (r.path=p):=⟨_,rfl⟩;have hL:Kh x p=L:=by unfold Kh;rw[Ar (by omega),tg]
  have vJ:L.length≤256:=by have:=By (fun r:Rl=>decide (r.path=p)) x;rw[tg];omega
  refine Ps mF Tryz.func61 rfl (Nz rfl) ?_;refine Yi (Nz rfl) ?_;refine Xi .pure (Xi _ (Yi (po) ?_));refine Yi (Nz rfl) ?_;refine Xi ⟨[(1,vs p),(5,.ref 5 0)],[(5,.cells [.cmap WS (x.map Vc),.cmap DI ((AP x []).map (mB x))])],Aa⟩ (Yi ⟨Z2,Z1,Fh,Tv⟩ ?_)
  refine Xi ⟨[(1,vs p),(5,.ref 5 0),(7,.slice (.id 7 2) [])],[(5,.cells [.cmap WS (x.map Vc),.cmap DI ((AP x []).map (mB x))]),(7,.tok 2 0)],Aa⟩ (Yi ⟨Z3,Z2,Fh,Tv⟩ ?_)
  refine Yi ?_ ?_
  ·intro a ha;have ea:a=sl AY L:=by rw[tg];exact kY ha
   subst ea;refine Xi {i:Nat // i≤L.length} (Xi (fun i=>⟨[(7,.slice (.id 7 2) ((DO (L.take i.1)).map Ae)),(18,sl AY L),(19,vi (L.map AY).length),(20,vi i.1)],[(7,.tok 2 ((DO (L.take i.1)).map Ae).length)],Aa⟩) (Xi (fun i=>L.length-i.1) (Yi (Xi ⟨0,AL _⟩ ?_) ?_)))
   ·exact⟨Z4,Z1,Fh,Tv⟩
   intro⟨i,i1⟩;have T5:=ac (L.take i);rw[AK]at T5;refine Yi ?_ ?_
   ·intro h;have h:(i:Int)<(L.map AY).length:=h;have h:i<L.length:=by simpa using h
    have hg:L[i]?=some L[i]:=Ge h;refine Xi (AY L[i]) (Yi (Yi (Nn i) (by simp[hg])) (Yi rfl ?_));refine Yi (Nz rfl) (Yi (Nz rfl) ?_);refine Xi ⟨[(7,.slice (.id 7 2) ((DO (L.take i)).map Ae)),(9,.ref 9 0),(18,sl AY L),(19,vi (L.map AY).length),(20,vi i)],[(7,.tok 2 ((DO (L.take i)).map Ae).length),(9,.cells (AY L[i]))],Aa⟩ (Yi ⟨Z5,Z2,Fh,Tv⟩ ?_)
    refine Yi ?_ ?_
    ·intro hy;have hy:L[i].yanked=true:=hy;refine Yi (Ii i (by omega)) ?_;have es:DO (L.take (i+1))=DO (L.take i):=by rw[UK L i h,hy];simp
     have e1:AV.slice (.id 7 2) ((DO (L.take i)).map Ae)=.slice (.id 7 2) ((DO (L.take (i+1))).map Ae):=by rw[es]
     have e2:HO.tok 2 ((DO (L.take i)).map Ae).length=.tok 2 ((DO (L.take (i+1))).map Ae).length:=by rw[es]
     refine Xi ⟨i+1,by omega⟩ ?_;exact⟨Dl L.length i (by omega),⟨⟨e1,rfl⟩,Zr,Zr,Zr,Tv⟩,⟨⟨e2,rfl⟩,Tv⟩,Fh,Tv⟩
    ·intro hy;have hy:L[i].yanked=false:=hy;have mo:=lC L[i].ver;refine Xi ⟨[(7,.slice (.id 7 2) ((DO (L.take i)).map Ae)),(9,.ref 9 0),(18,sl AY L),(19,vi (L.map AY).length),(20,vi i)],[(7,.tok 2 ((DO (L.take i)).map Ae).length),(9,.cells (AY L[i]))],Aa⟩ (Yi ⟨Z5,Z2,Fh,Tv⟩ ?_)
     refine Yi (Nz rfl) ?_;refine Xi _ (Yi (yF L[i]) ?_);refine Yi (Nz rfl) ?_;refine Xi _ (Yi (yF L[i]) ?_);refine Yi (by show Bf (plc L[i].ver+1);unfold Bf;omega) ?_;have GI:B1 2 [[vi (plc L[i].ver),vi (plc L[i].ver+1)]]∧((DO (L.take i)).map Ae).length=((DO (L.take i)).map Ae).length∧(((DO (L.take i)).map Ae).length+[[vi (plc L[i].ver),vi (plc L[i].ver+1)]].length)*16≤140737488355328∧((DO (L.take i)).map Ae).length+[[vi (plc L[i].ver),vi (plc L[i].ver+1)]].length≤9223372036854775807 :=
      ⟨⟨rfl,trivial⟩,rfl,by rw[Lm,AC];omega,by rw[Lm,AC];omega⟩
     refine Yi GI ?_;refine Yi (by kernel_rfl) ?_;refine Yi (Ii i (by omega)) ?_;have es:DO (L.take (i+1))=DO (L.take i)++[(plc L[i].ver,plc L[i].ver+1)]:=by rw[UK L i h,hy];simp
     have e1:AV.slice (.id 7 2) ((DO (L.take i)).map Ae++[[vi (plc L[i].ver),vi (plc L[i].ver+1)]])=.slice (.id 7 2) ((DO (L.take (i+1))).map Ae):=by rw[es,AA];rfl
     have e2:HO.tok 2 (((DO (L.take i)).map Ae).length+[[vi (plc L[i].ver),vi (plc L[i].ver+1)]].length)=.tok 2 ((DO (L.take (i+1))).map Ae).length:=by rw[es,AA,Ad];rfl
     refine Xi ⟨i+1,by omega⟩ ?_;exact⟨Dl L.length i (by omega),⟨⟨e1,rfl⟩,Zr,Zr,Zr,Tv⟩,⟨⟨e2,rfl⟩,Tv⟩,Fh,Tv⟩
   ·intro h;have h:¬(i:Int)<(L.map AY).length:=h;have h:¬i<L.length:=by simpa using h
    have et:L.take i=L:=Az (by omega);refine Xi ⟨[(7,.slice (.id 7 2) ((DO (L.take i)).map Ae))],[(7,.tok 2 ((DO (L.take i)).map Ae).length)],Aa⟩ (Yi ⟨Z1,Z1,Fh,Tv⟩ ?_)
    have hc:PC 116 [sl Ae (DO (L.take i))] (sl Ae (canon (DO (L.take i)))):=W5 _ (by unfold CK;omega);refine Xi .pure (Xi _ (Yi (hc) ?_));exact .of_eq (show sl Ae (canon (DO (L.take i)))=sl Ae (Ce x p) by rw[et];unfold Ce;rw[hL])
  ·intro hn;have hL:Kh x p=[]:=by
    rw[hL,tg,Hp];intro r hr he;have he:=Cm he;exact hn _ (Aq.2 ⟨p,(Hk x [] p).2 (.inr ⟨r,hr,he⟩),rfl⟩)
   refine Xi Unit (Xi (fun _=>⟨[(7,.slice (.id 7 2) []),(19,vi 0),(20,vi 0)],[(7,.tok 2 0)],Aa⟩) (Xi (fun _=>0) (Yi (Xi () ?_) ?_)))
   ·exact⟨Z3,Z1,Fh,Tv⟩
   intro _;refine Yi ?_ ?_
   ·intro h;exact absurd (show(0:Int)<0 from h) (by decide)
   intro _;refine Xi ⟨[(7,.slice (.id 7 2) [])],[(7,.tok 2 0)],Aa⟩ (Yi ⟨Z1,Z1,Fh,Tv⟩ ?_)
   have hc:PC 116 [sl Ae []] (sl Ae (canon [])):=W5 [] (by unfold CK;simp);refine Xi .pure (Xi _ (Yi (hc) ?_));exact .of_eq (show sl Ae (canon [])=sl Ae (Ce x p) by unfold Ce;rw[hL];rfl)
 ·have po:PC 95 [Mm x ifs] (.tup [.agg [.cmap WS [],.cmap DI []],vi (A7 x)]):=by
   have:=po;unfold l5 af at this;rw[Ar h0]at this;exact this
  have hL:Kh x p=[]:=by unfold Kh;rw[AB h0]
  refine Ps mF Tryz.func61 rfl (Nz rfl) ?_;refine Yi (Nz rfl) ?_;refine Xi .pure (Xi _ (Yi (po) ?_));refine Yi (Nz rfl) ?_;refine Xi ⟨[(1,vs p),(5,.ref 5 0)],[(5,.cells [.cmap WS [],.cmap DI []])],Aa⟩ (Yi ⟨Z2,Z1,Fh,Tv⟩ ?_)
  refine Xi ⟨[(1,vs p),(5,.ref 5 0),(7,.slice (.id 7 2) [])],[(5,.cells [.cmap WS [],.cmap DI []]),(7,.tok 2 0)],Aa⟩ (Yi ⟨Z3,Z2,Fh,Tv⟩ ?_)
  refine Yi ?_ ?_
  ·intro a ha;cases ha
  ·intro _;refine Xi Unit (Xi (fun _=>⟨[(7,.slice (.id 7 2) []),(19,vi 0),(20,vi 0)],[(7,.tok 2 0)],Aa⟩) (Xi (fun _=>0) (Yi (Xi () ?_) ?_)))
   ·exact⟨Z3,Z1,Fh,Tv⟩
   intro _;refine Yi ?_ ?_
   ·intro h;exact absurd (show(0:Int)<0 from h) (by decide)
   intro _;refine Xi ⟨[(7,.slice (.id 7 2) [])],[(7,.tok 2 0)],Aa⟩ (Yi ⟨Z1,Z1,Fh,Tv⟩ ?_)
   have hc:PC 116 [sl Ae []] (sl Ae (canon [])):=W5 [] (by unfold CK;simp);refine Xi .pure (Xi _ (Yi (hc) ?_));exact .of_eq (show sl Ae (canon [])=sl Ae (Ce x p) by unfold Ce;rw[hL];rfl)
end Go.Eng

namespace Go.Eng
open Go.Proofs
theorem Sc(x:List Rl)(p:ByteArray):CK (Ce x p):=by
 unfold Ce CK
 have:=H8 (Cq (((Kh x p).filter fun r=>!r.yanked).map fun r=>(plc r.ver,plc r.ver+1)));omega
end Go.Eng

namespace Go.Eng
open Go.Proofs
end Go.Eng

namespace Go.Eng
open Go.Proofs
end Go.Eng

namespace Go.Eng
open Go.Proofs
end Go.Eng

namespace Go.Eng
open Go.Proofs
end Go.Eng

namespace Go.Eng
open Go.Proofs
theorem Lp:∀(y:List Rl) (acc:List ByteArray) (r:Rl),AP (y++[r]) acc=if(AP y acc).any (fun p=>decide (p=r.path))then AP y acc else AP y acc++[r.path]
 | [],acc,r=>rfl
 |s::y,acc,r=>by rw[DZ,AP,AP,Lp y]
theorem EW:∀(y:List Rl) (acc:List ByteArray),acc.Nodup→(AP y acc).Nodup
 | [],_,h=>h
 |s::y,acc,h=>by
  rw[AP];refine EW y _ ?_;split
  ·exact h
  ·rename_i hn;rw[Gt];refine⟨h,by simp,fun a ha b hb e=>?_⟩;rw[Au]at hb;exact hn (Ok.2 (by rw[←hb,←e];exact ha))
abbrev Nt(y:List Rl)(p:ByteArray):List (List AV):=(y.filter fun r=>decide (r.path=p)).map AY
abbrev fR(y:List Rl)(q:ByteArray×Nat):Value×AV:=(.string q.1,.slice (.id (q.2+50) 9) (Nt y q.1))
abbrev Rw(y:List Rl):List (Value×AV):=(AP y []).zipIdx.map (fR y)
def JG(y:List Rl)(l:Nat):HO:=match(AP y [])[l]? with
 |some q=>.tok 9 (Nt y q).length
 |none=>.free
def U0(y:List Rl)(j:Nat):HO:=bif Nat.ble 50 j then JG y (j-50)else .free
theorem HE(y:List Rl)(l:Nat):U0 y (l+50)=JG y l:=by
 unfold U0;rw[show Nat.ble 50 (l+50)=true by rw[Dn];omega,Nat.add_sub_cancel];rfl
theorem nL(y:List Rl){j:Nat}(h:j<50):U0 y j=.free:=by
 unfold U0;rw[show Nat.ble 50 j=false by rw[AH];intro hc;rw[Dn]at hc;omega];rfl
theorem Ix(y:List Rl)(r:Rl)(q:ByteArray):Nt (y++[r]) q=if r.path=q then Nt y q++[AY r]else Nt y q:=by
 unfold Nt;rw[E8]
 by_cases h:r.path=q
 ·rw[AB h,JL (by simpa using h)];simp
 ·rw[Ar h,JK (by simpa using h)];simp
theorem Ik{l:List ByteArray}{q:ByteArray×Nat}(h:q∈l.zipIdx):l[q.2]?=some q.1:=by
 obtain⟨a,b⟩:=q;exact FI.1 h
open Classical in
theorem Mp{Cb:List (Value×AV)}{k:Value}{a:AV}(h:∀a',(k,a')∉Cb):Fa Cb k a=Cb++[(k,a)]:=by
 unfold Fa;rw[Ar (fun⟨a',h'⟩=>h a' h')]
open Classical in
theorem Ya{Cb:List (Value×AV)}{k:Value}{a a' : AV}(h:(k,a')∈Cb):Fa Cb k a=Cb.map fun p=>if p.1=k then(k,a)else p:=by
 unfold Fa;rw[AB ⟨a',h⟩]
section
variable {y:List Rl}{r:Rl}{k:Nat}
theorem Jj(h:(AP y [])[k]?=some r.path):AP (y++[r]) []=AP y []:=by
 rw[Lp,AB (Ok.2 (Ay h))]
theorem Ji(h:r.path∉AP y []):AP (y++[r]) []=AP y []++[r.path]:=by
 rw[Lp,Ar (fun hc=>h (Ok.1 hc))]
theorem Jg{l:List ByteArray}(hd:l.Nodup){i j:Nat}{p:ByteArray}(h1:l[i]?=some p)(h2:l[j]?=some p):i=j:=by
 obtain⟨a1,a2⟩:=Aw.1 h1;obtain⟨b1,b2⟩:=Aw.1 h2;exact(List.getElem_inj hd).1 (a2.trans b2.symm)
open Classical in
theorem kl(h:(AP y [])[k]?=some r.path):Fa (Rw y) (.string r.path) (.slice (.id (k+50) 9) (Nt y r.path++[AY r]))=Rw (y++[r]):=by
 have hd:=EW y [] Fo;have hm:fR y (r.path,k)∈Rw y:=Aq.2 ⟨_,FI.2 h,rfl⟩;rw[Ya (a':=.slice (.id (k+50) 9) (Nt y r.path)) hm];unfold Rw;rw[Jj h,BX];refine Ba fun q hq=>?_;have hg:=Ik hq;obtain⟨q,j⟩:=q;show(if Value.string q=Value.string r.path then _ else _)=fR (y++[r]) (q,j);have hg:(AP y [])[j]?=some q:=hg
 by_cases he:q=r.path
 ·subst he
  have:j=k:=Jg hd hg h
  subst this;rw[AB rfl];show _=(Value.string r.path,AV.slice (.id (j+50) 9) (Nt (y++[r]) r.path));rw[Ix,AB rfl]
 ·rw[Ar (fun e=>he (by simpa using e))];show(Value.string q,AV.slice (.id (j+50) 9) (Nt y q))=(Value.string q,AV.slice (.id (j+50) 9) (Nt (y++[r]) q));rw[Ix,Ar (fun e=>he e.symm)]
theorem aX(h:r.path∉AP y []):Nt y r.path=[]:=by
 have:y.filter (fun s=>decide (s.path=r.path))=[]:=by
  rw[Hp];intro s hs he;exact h ((Hk y [] r.path).2 (.inr ⟨s,hs,Cm he⟩))
 unfold Nt;rw[this];rfl
theorem Xt(h:r.path∉AP y [])(a:AV):(Value.string r.path,a)∉Rw y:=by
 intro hc;obtain⟨q,h1,h2⟩:=Aq.1 hc;simp only[fR,FV,Value.string.injEq]at h2;exact h (by rw[←h2.1];exact Ay (Ik h1))
theorem kk(h:r.path∉AP y []):Fa (Rw y) (.string r.path) (.slice (.id ((AP y []).length+50) 9) [AY r])=Rw (y++[r]):=by
 rw[Mp (fun a=>Xt h a)];unfold Rw;rw[Ji h,List.zipIdx_append,AA]
 congr 1
 ·refine Ba fun q hq=>?_;have hg:=Ik hq
  have:q.1≠r.path:=fun e=>h (by rw[←e];exact Ay hg)
  show(Value.string q.1,AV.slice (.id (q.2+50) 9) (Nt y q.1))=(Value.string q.1,AV.slice (.id (q.2+50) 9) (Nt (y++[r]) q.1));rw[Ix,Ar (fun e=>this e.symm)]
 ·show [_]=[(Value.string r.path,AV.slice (.id (0+(AP y []).length+50) 9) (Nt (y++[r]) r.path))];rw[Ix,AB rfl,aX h,Bc];rfl
theorem fU{p:ByteArray}{j:Nat}(h:(AP y [])[j]?=some p):(Value.string p,AV.slice (.id (j+50) 9) (Nt y p))∈Rw y∧∀b,(Value.string p,b)∈Rw y→b=AV.slice (.id (j+50) 9) (Nt y p):=by
 refine⟨Aq.2 ⟨(p,j),FI.2 h,rfl⟩,fun b hb=>?_⟩;obtain⟨q,h1,h2⟩:=Aq.1 hb;simp only[fR,FV,Value.string.injEq]at h2;have hg:=Ik h1;rw[h2.1]at hg
 have:=Jg (EW y [] Fo) hg h
 rw[←h2.2,h2.1,this]
theorem jm{p:ByteArray}{j:Nat}(h:(AP y [])[j]?=some p):JG y j=.tok 9 (Nt y p).length:=by
 unfold JG;rw[h]
theorem lV(h:(AP y [])[k]?=some r.path)(l:Nat):(bif Nat.beq (l+50) (k+50)then HO.tok 9 ((Nt y r.path).length+1)else JG y l)=JG (y++[r]) l:=by
 by_cases he:l=k
 ·subst he;rw[show Nat.beq (l+50) (l+50)=true from Dc _];unfold JG;rw[Jj h,h];show HO.tok 9 _=HO.tok 9 (Nt (y++[r]) r.path).length;rw[Ix,AB rfl,Ad];rfl
 ·rw[show Nat.beq (l+50) (k+50)=false by rw[AH];intro hc;have:=AU hc;omega];show JG y l=_;unfold JG;rw[Jj h];cases hq:(AP y [])[l]? with
  |none=>rfl
  |some q =>
   show HO.tok 9 (Nt y q).length=HO.tok 9 (Nt (y++[r]) q).length;rw[Ix,Ar];intro e;subst e;exact he (Jg (EW y [] Fo) hq h)
theorem lU(h:r.path∉AP y [])(l:Nat):(bif Nat.beq (l+50) ((AP y []).length+50)then HO.tok 9 1 else JG y l)=JG (y++[r]) l:=by
 by_cases he:l=(AP y []).length
 ·subst he;rw[show Nat.beq ((AP y []).length+50) ((AP y []).length+50)=true from Dc _];unfold JG;rw[Ji h];simp only[AR (Ao _),Ff,Bj];show HO.tok 9 1=HO.tok 9 (Nt (y++[r]) r.path).length;rw[Ix,AB rfl,aX h];rfl
 ·rw[show Nat.beq (l+50) ((AP y []).length+50)=false by rw[AH];intro hc;have:=AU hc;omega];show JG y l=_;unfold JG;rw[Ji h]
  by_cases hl:l<(AP y []).length
  ·rw[AZ hl,Ge hl];show HO.tok 9 (Nt y (AP y [])[l]).length=HO.tok 9 (Nt (y++[r]) (AP y [])[l]).length;rw[Ix,Ar];intro e;exact h (by rw[e];exact Aj hl)
  ·rw[A4 (by omega),A4 (by rw[Ad];simp;omega)]
end
theorem PM{h:Nat→HO}:∀{Cb:List (Value×AV)},(∀p∈Cb,Wm h p.2=true)→QP h Cb=true
 | [],_=>rfl
 |p::r,hk=>by
  unfold QP;rw[hk p (Ab ..)];exact PM (fun q hq=>hk q (Ai _ hq))
theorem Lh(y:List Rl){h:Nat→HO}(hh:∀l,h (l+50)=JG y l):QP h (Rw y)=true:=by
 refine PM fun p hp=>?_;obtain⟨q,h1,rfl⟩:=Aq.1 hp;show Rn h (q.2+50)=true;unfold Rn;rw[hh,jm (Ik h1)]
theorem Jr{y:List Rl}{h h' : Nat→HO}(hh:∀l,h (l+50)=JG y l)(j:Nat):U0 y j=.free∨(h j=U0 y j∧XO h' (U0 y j)=true):=by
 by_cases hj:j<50
 ·exact .inl (nL y hj)
 ·obtain⟨l,rfl⟩:∃l,j=l+50:=⟨j-50,by omega⟩
  right
  rw[HE];refine⟨hh l,?_⟩;unfold JG;cases (AP y [])[l]?<;>rfl
theorem lH{x:List Rl}(hx:A7 x=0){i:Nat}(hi:i<x.length):Fa ((x.take i).map Vc) (Te (Fz x[i])) (.agg (AY x[i]))=(x.take (i+1)).map Vc:=by
 rw[Mp]
 ·rw[Bb,Ge hi,AA];rfl
 intro a ha;obtain⟨r,hr,he,_⟩:=kZ ha;obtain⟨j,hj,e2⟩:=CE.1 hr;rw[AK]at hj;rw[HY]at e2;have hp:=(CN hx).2
 have:=(Bl.1 hp) j i (by omega) hi (by omega)
 rw[e2]at this;exact NP this he
abbrev so:QA:=⟨[],[],[],[],[8,9],[9],[40],[],[],[],[8,9,10,11]⟩
abbrev zT:List AV:=[.v (.map none),.v (.map none)]
theorem j8(x:List Rl)(ifs:List (List AV))(nD:PC 59 [Mm x ifs] (vi (A7 x)))(h0:A7 x≠0):l5 x ifs:=by
 have ht:af x=.tup [.agg [.cmap WS [],.cmap DI []],vi (A7 x)]:=by unfold af;rw[Ar h0]
 unfold l5;rw[ht];refine Ps so Tryz.func95 rfl (Nz rfl) ?_;refine Xi 0 ?_;refine Xi 0 ?_;refine Yi (Nz rfl) ?_;refine Xi 0 ?_;refine Yi (Nz rfl) ?_;refine Xi .pure (Xi _ (Yi (nD) ?_));refine Xi 0 ?_;refine Yi ?_ ?_
 ·intro _;refine Xi 0 ?_;refine Yi (Nz rfl) ?_;refine Yi (Nz rfl) ?_;refine Yi (Nz rfl) ?_;exact .refl _
 ·intro h;exact absurd h (fun hc=>hc h0)
theorem Hj:∀(y:List Rl) (acc:List ByteArray),(AP y acc).length≤acc.length+y.length
 | [],acc=>by simp[AP]
 |r::y,acc=>by
  rw[AP];refine Bu (Hj y _) ?_;split
  ·simp only[Ak];omega
  ·simp only[Ad,Ak,Al];omega
section
attribute [local irreducible] If
theorem ns(x:List Rl)(ifs:List (List AV))(nD:PC 59 [Mm x ifs] (vi (A7 x)))(h0:A7 x=0)(CW:x.length≤256):l5 x ifs:=by
 have ht:af x=.tup [.agg [.cmap WS (x.map Vc),.cmap DI ((AP x []).map (mB x))],vi 0]:=by unfold af;rw[AB h0]
 unfold l5;rw[ht];rw[h0]at nD;refine Ps so Tryz.func95 rfl (Nz rfl) ?_;refine Xi 0 ?_;refine Xi 0 ?_;refine Yi (Nz rfl) ?_;refine Xi 0 ?_;refine Yi (Nz rfl) ?_;refine Xi .pure (Xi _ (Yi (nD) ?_));refine Xi 0 ?_;refine Yi ?_ ?_
 ·intro hc;exact absurd (show(0:Int)≠0 from hc) (by decide)
 intro _;refine Xi 0 ?_;refine Xi {i:Nat // i≤x.length} (Xi (fun i=>⟨[(2,.ref 2 0),(4,.ref 4 0),(18,sl AY x),(19,vi (x.map AY).length),(20,vi i.1)],[(2,.cells zT),(4,.cells [.mref 8,.mref 9]),(8,.map WS ((x.take i.1).map Vc)),(9,.mapU DI (Rw (x.take i.1)))],U0 (x.take i.1)⟩) (Xi (fun i=>x.length-i.1) (Yi (Xi ⟨0,AL _⟩ ?_) ?_)))
 ·refine⟨Z5,Z4,fun j=>.inl ?_,Tv⟩;show U0 [] j=.free;unfold U0;cases Nat.ble 50 j<;>rfl
 intro⟨i,i1⟩;have i1:i≤x.length:=i1;refine Xi 0 ?_;refine Yi ?_ ?_
 ·intro h;have h:(i:Int)<(x.map AY).length:=h;have h:i<x.length:=by simpa using h
  have hg:x[i]?=some x[i]:=Ge h;have KG:x.take (i+1)=x.take i++[x[i]]:=by rw[Bb,hg];rfl
  refine Xi 0 ?_;refine Xi (AY x[i]) (Yi (Yi (Nn i) (by simp[hg])) (Yi rfl ?_));refine Yi (Nz rfl) (Yi (Nz rfl) ?_);refine Xi ⟨[(2,.ref 2 0),(4,.ref 4 0),(7,.ref 7 0),(18,sl AY x),(19,vi (x.map AY).length),(20,vi i)],[(2,.cells zT),(4,.cells [.mref 8,.mref 9]),(7,.cells (AY x[i])),(8,.map WS ((x.take i).map Vc)),(9,.mapU DI (Rw (x.take i)))],U0 (x.take i)⟩ (Yi ?_ ?_)
  ·exact⟨Z6,⟨Zr,Zr,Zr,Zr,⟨rfl,Lh _ (HE _)⟩,Tv⟩,Jr (HE _),Tv⟩
  refine Xi 0 ?_;refine Yi (Nz rfl) ?_;refine Xi _ (Yi (m7 x[i]) ?_);refine Yi (Nz rfl) ?_;refine Yi (by kernel_rfl) ?_;have e8:Fa ((x.take i).map Vc) (Te (Fz x[i])) (.agg (AY x[i]))=(x.take (i+1)).map Vc:=lH h0 h;refine Xi ⟨[(2,.ref 2 0),(4,.ref 4 0),(7,.ref 7 0),(18,sl AY x),(19,vi (x.map AY).length),(20,vi i)],[(2,.cells zT),(4,.cells [.mref 8,.mref 9]),(7,.cells (AY x[i])),(8,.map WS ((x.take (i+1)).map Vc)),(9,.mapU DI (Rw (x.take i)))],U0 (x.take i)⟩ (Yi ?_ ?_)
  ·exact⟨Z6,⟨Zr,Zr,Zr,⟨Ac (HO.map WS) e8,rfl⟩,⟨rfl,Lh _ (HE _)⟩,Tv⟩,Jr (HE _),Tv⟩
  have hL:((x.take i).filter (fun r=>decide (r.path=x[i].path))).length≤256:=by
   have:=By (fun r:Rl=>decide (r.path=x[i].path)) (x.take i)
   rw[AK]at this;omega
  have hP:∀l,U0 (x.take i) (l+50)=JG (x.take i) l:=HE _;refine BG (Classical.em (x[i].path∈AP (x.take i) [])) (fun hp=>?_) (fun hp=>?_)
  ·refine A8 (Cg.1 hp) (fun k hk=>?_);have hu:=fU hk;refine Xi 0 ?_;refine Or.inl (Xi (.slice (.id (k+50) 9) (Nt (x.take i) x[i].path)) (Yi hu ?_));refine Yi (Nz rfl) ?_;have hr:U0 (x.take i) (k+50)=.tok 9 (Nt (x.take i) x[i].path).length:=by rw[hP,jm hk]
   have hl:(Nt (x.take i) x[i].path).length≤256:=by rw[Lm];exact hL
   refine QD (e:=67) (m:=8) (es2:=[AY x[i]]) rfl rfl rfl (fun _ h=>h) hr ⟨rfl,trivial⟩ (by show(_+1)*120≤_;omega) (by show _+1≤_;omega) ?_;have rz:k<256:=by
    have:=(Aw.1 hk).1
    have:=Hj (x.take i) []
    rw[AK]at this;simp only[Al]at this;omega
   have n9:=hk;refine Yi (IZ ⟨A2 _,A2 _,A2 _,A2 _,A2 _,A2 _,A2 _,A2 _,A2 _,A2 _,Eb (show 39<10000000 by decide),Eb (by show _+50<10000000;omega),Eb (show 9<10000000 by decide),trivial⟩ (by kernel_rfl)) ?_;have e9:Fa (Rw (x.take i)) (.string x[i].path) (.slice (.id (k+50) 9) (Nt (x.take i) x[i].path++[AY x[i]]))=Rw (x.take (i+1)):=by rw[KG];exact kl n9
   have hG:∀l,(bif Nat.beq (l+50) (k+50)then HO.tok 9 ((Nt (x.take i) x[i].path).length+1)else JG (x.take i) l)=JG (x.take (i+1)) l:=by rw[KG];exact lV n9
   refine Xi ⟨[(2,.ref 2 0),(4,.ref 4 0),(18,sl AY x),(19,vi (x.map AY).length),(20,vi i)],[(2,.cells zT),(4,.cells [.mref 8,.mref 9]),(8,.map WS ((x.take (i+1)).map Vc)),(9,.mapU DI (Rw (x.take (i+1))))],U0 (x.take (i+1))⟩ (Yi ?_ ?_)
   ·refine⟨Z5,⟨Zr,Zr,Zr,⟨Ac (HO.mapU DI) e9,Lh _ (HE _)⟩,Tv⟩,Jr (fun l=>?_),Tv⟩;show(bif Nat.beq (l+50) (k+50)then HO.tok 9 ((Nt (x.take i) x[i].path).length+1)else U0 (x.take i) (l+50))=_;rw[hP];exact hG l
   refine Xi 0 ?_;refine Yi (Ii i (by omega)) ?_;refine Xi ⟨i+1,by omega⟩ ?_;exact⟨Dl x.length i (by omega),Z5,⟨Zr,Zr,Zr,⟨rfl,Lh _ (HE _)⟩,Tv⟩,Jr (HE _),Tv⟩
  ·have n9:=hp;have ST:(AP (x.take i) []).length≤256:=by
    have:=Hj (x.take i) []
    rw[AK]at this;simp only[Al]at this;omega
   have hn:=Xt hp;refine Xi ((AP (x.take i) []).length+50) ?_;refine Or.inr (Yi hn ?_);refine Yi (Nz rfl) ?_;have hr:U0 (x.take i) ((AP (x.take i) []).length+50)=.free:=by
    rw[hP];unfold JG;rw[A4 (Ao _)]
   refine QC (e:=67) (m:=8) (es2:=[AY x[i]]) rfl rfl rfl (fun _ h=>h) hr rfl ⟨rfl,trivial⟩ (by show 1*120≤_;omega) (by show 1≤_;omega) ?_;refine Yi (IZ ⟨A2 _,A2 _,A2 _,A2 _,A2 _,A2 _,A2 _,A2 _,A2 _,A2 _,Eb (show 39<10000000 by decide),Eb (by show _+50<10000000;omega),Eb (show 9<10000000 by decide),trivial⟩ (by kernel_rfl)) ?_;have e9:Fa (Rw (x.take i)) (.string x[i].path) (.slice (.id ((AP (x.take i) []).length+50) 9) [AY x[i]])=Rw (x.take (i+1)):=by rw[KG];exact kk n9
   have hG:∀l,(bif Nat.beq (l+50) ((AP (x.take i) []).length+50)then HO.tok 9 1 else JG (x.take i) l)=JG (x.take (i+1)) l:=by rw[KG];exact lU n9
   refine Xi ⟨[(2,.ref 2 0),(4,.ref 4 0),(18,sl AY x),(19,vi (x.map AY).length),(20,vi i)],[(2,.cells zT),(4,.cells [.mref 8,.mref 9]),(8,.map WS ((x.take (i+1)).map Vc)),(9,.mapU DI (Rw (x.take (i+1))))],U0 (x.take (i+1))⟩ (Yi ?_ ?_)
   ·refine⟨Z5,⟨Zr,Zr,Zr,⟨Ac (HO.mapU DI) e9,Lh _ (HE _)⟩,Tv⟩,Jr (fun l=>?_),Tv⟩;show(bif Nat.beq (l+50) ((AP (x.take i) []).length+50)then HO.tok 9 1 else U0 (x.take i) (l+50))=_;rw[hP];exact hG l
   refine Xi 0 ?_;refine Yi (Ii i (by omega)) ?_;refine Xi ⟨i+1,by omega⟩ ?_;exact⟨Dl x.length i (by omega),Z5,⟨Zr,Zr,Zr,⟨rfl,Lh _ (HE _)⟩,Tv⟩,Jr (HE _),Tv⟩
 ·intro h;have h:¬(i:Int)<(x.map AY).length:=h;have h:¬i<x.length:=by simpa using h
  have et:x.take i=x:=Az (by omega);refine Xi ⟨[(2,.ref 2 0),(4,.ref 4 0)],[(2,.cells zT),(4,.cells [.mref 8,.mref 9]),(8,.map WS ((x.take i).map Vc)),(9,.mapU DI (Rw (x.take i)))],U0 (x.take i)⟩ (Yi ?_ ?_)
  ·exact⟨Z2,⟨Zr,Zr,Zr,⟨rfl,Lh _ (HE _)⟩,Tv⟩,Jr (HE _),Tv⟩
  refine Xi 0 ?_;refine Yi (Nz rfl) ?_;refine Yi (Nz rfl) ?_;refine Yi (Nz rfl) ?_;have es:∀h:Nat→HO,Rs h (Rw (x.take i))=(AP x []).map (mB x):=fun h=>by
   rw[et];unfold Rs Rw;rw[BX];refine Dq fun j=>?_;rw[AI,AI,List.getElem?_zipIdx];cases (AP x [])[j]?<;>rfl
  have e1:(x.take i).map Vc=x.map Vc:=by rw[et]
  exact .of_eq (show AV.tup [.agg [.cmap WS ((x.take i).map Vc),.cmap DI (Rs _ (Rw (x.take i)))],vi 0]=_ by rw[e1,es])
end
theorem c84(x:List Rl)(ifs:List (List AV))(hx:∀r∈x,Gf r):l5 x ifs:=by
 by_cases h0:A7 x=0
 ·exact ns x ifs (vh jY x ifs hx) h0 (Kd h0).1
 ·exact j8 x ifs (vh jY x ifs hx) h0
end Go.Eng

namespace Go.Eng
open Go.Proofs
abbrev sq(n:Nat):QA:=⟨[],[(2,n)],[],[],[],[],[5],[],[],[],[2,3]⟩
theorem vl(l:List Rq)(hl:CK l):Bo Tryz.prog 25 [sl Ap l] (Af [] Aa) fun r h'=>r=.slice (.id 2000 2) (l.map Ap)∧h'=Af [(2000,.tok 2 (l.map Ap).length)] Aa:=by
 refine CF (MG (sq 2)) [(2,2000)] rfl CG hm rfl Tryz.func25 (by kernel_rfl) rfl (Nz rfl) (by kernel_rfl) rfl ?_;have GI:B1 2 (l.map Ap)∧([]:List (List AV)).length=0∧(([]:List (List AV)).length+(l.map Ap).length)*40≤140737488355328∧([]:List (List AV)).length+(l.map Ap).length≤9223372036854775807:=by
  refine⟨DQ (enc:=Ap) (n:=2) (fun _=>rfl) l,rfl,?_,?_⟩<;>simp only[Al,Lm]<;>unfold CK at hl<;>omega
 have e2:HO.tok 2 (([]:List (List AV)).length+(l.map Ap).length)=.tok 2 (l.map Ap).length:=by rw[Al,Bc]
 have e3:AV.slice (.id 2000 2) ([]++l.map Ap)=.slice (.id 2000 2) (l.map Ap):=rfl;have full:∀st:St,(∃s:LS,St.le (MG (sq 2)) st s∧True)→True:=fun _ _=>trivial;refine Xi 0 ?_;refine Xi 0 ?_;refine Yi ?_ ?_
 ·intro _;refine Xi ⟨[(0,sl Ap l)],[],Aa⟩ (Yi ⟨Z1,Tv,Fh,As (by kernel_rfl)⟩ ?_)
  refine Xi 2 ?_;refine Yi GI ?_;exact Xi _ (Yi (.refl _) (Yi e3 (Ac (fun o=>Af [(2000,o)] Aa) e2)))
 ·intro h;have h:l.map Ap=[]:=h;refine Yi ?_ ?_
  ·refine Xi ⟨[],[],Aa⟩ (Yi ⟨trivial,trivial,fun _=>.inl rfl,As (by kernel_rfl)⟩ ?_)
   refine Xi 0 ?_;exact Xi _ (Yi (.refl _) (Yi (show AV.slice (.id 2000 2) []=_ by rw[h]) (show Af [(2000,HO.tok 2 0)] Aa=_ by rw[h];rfl)))
  ·refine Xi ⟨[(0,sl Ap l)],[],Aa⟩ (Yi ⟨Z1,Tv,Fh,As (by kernel_rfl)⟩ ?_)
   refine Xi 2 ?_;refine Yi GI ?_;exact Xi _ (Yi (.refl _) (Yi e3 (Ac (fun o=>Af [(2000,o)] Aa) e2)))
end Go.Eng

namespace Go.Eng
open Go.Proofs
theorem qv(l:List Sl)(hl:CK l):Bo Tryz.prog 46 [sl Ah l] (Af [] Aa) fun r h'=>r=.slice (.id 2000 4) (l.map Ah)∧h'=Af [(2000,.tok 4 (l.map Ah).length)] Aa:=by
 refine CF (MG (sq 4)) [(2,2000)] rfl CG hm rfl Tryz.func46 (by kernel_rfl) rfl (Nz rfl) (by kernel_rfl) rfl ?_;have GI:B1 4 (l.map Ah)∧([]:List (List AV)).length=0∧(([]:List (List AV)).length+(l.map Ah).length)*40≤140737488355328∧([]:List (List AV)).length+(l.map Ah).length≤9223372036854775807:=by
  refine⟨DQ (enc:=Ah) (n:=4) (fun _=>rfl) l,rfl,?_,?_⟩<;>simp only[Al,Lm]<;>unfold CK at hl<;>omega
 have e2:HO.tok 4 (([]:List (List AV)).length+(l.map Ah).length)=.tok 4 (l.map Ah).length:=by rw[Al,Bc]
 have e3:AV.slice (.id 2000 4) ([]++l.map Ah)=.slice (.id 2000 4) (l.map Ah):=rfl;refine Xi 0 ?_;refine Xi 0 ?_;refine Yi ?_ ?_
 ·intro _;refine Xi ⟨[(0,sl Ah l)],[],Aa⟩ (Yi ⟨Z1,Tv,Fh,As (by kernel_rfl)⟩ ?_)
  refine Xi 2 ?_;refine Yi GI ?_;exact Xi _ (Yi (.refl _) (Yi e3 (Ac (fun o=>Af [(2000,o)] Aa) e2)))
 ·intro h;have h:l.map Ah=[]:=h;refine Yi ?_ ?_
  ·refine Xi ⟨[],[],Aa⟩ (Yi ⟨trivial,trivial,fun _=>.inl rfl,As (by kernel_rfl)⟩ ?_)
   refine Xi 0 ?_;exact Xi _ (Yi (.refl _) (Yi (show AV.slice (.id 2000 4) []=_ by rw[h]) (show Af [(2000,HO.tok 4 0)] Aa=_ by rw[h];rfl)))
  ·refine Xi ⟨[(0,sl Ah l)],[],Aa⟩ (Yi ⟨Z1,Tv,Fh,As (by kernel_rfl)⟩ ?_)
   refine Xi 2 ?_;refine Yi GI ?_;exact Xi _ (Yi (.refl _) (Yi e3 (Ac (fun o=>Af [(2000,o)] Aa) e2)))
end Go.Eng

namespace Go.Eng
open Go.Proofs
end Go.Eng

namespace Go.Eng
open Go.Proofs
def HL(before:List Sl)(acc:Option ByteArray)(q:Rq):Option ByteArray:=if Cv before q.path then acc else match acc with
  |none=>some q.path
  |some p=>if EH q.path p then some q.path else some p
theorem Ns(before:List Sl):∀(a b:List Rq) (acc:Option ByteArray),CA before (a++b) acc=CA before b (CA before a acc)
 | [],_,_=>rfl
 |q::a,b,acc=>Ns before a b (if Cv before q.path then acc else match acc with |none=>some q.path |some p=>if EH q.path p then some q.path else some p)
theorem Iw(before:List Sl)(l:List Rq)(acc:Option ByteArray){j:Nat}(h:j<l.length):CA before (l.take (j+1)) acc=HL before (CA before (l.take j) acc) l[j]:=by
 rw[Bb,Ge h];show CA before (l.take j++[l[j]]) acc=_;rw[Ns];rfl
section
variable {S:Type}{x:List Rl}{roots:List Rq}{s:List Sl}{step:S→z7→S}{st0:S}{before:List Sl}{needs:List Rq}{n:Nat}{st:S}
end
end Go.Eng

namespace Go.Eng
open Go.Proofs
def Mw(q:Rq):Bool:=decide (q.path.size≤100)&&decide (q.set.length≤8)
def FJ(l:List Rq):Bool:=l.all Mw&&decide (l.length≤20)
theorem yy(l:List Rq)(hl:CK l):PC 27 [sl Ap l] (vb (FJ l)):=by
 unfold CK at hl;refine Ps EI Tryz.func27 rfl (Nz rfl) ?_;refine Xi {i:Nat // i≤l.length∧∀j (hj:j<l.length),j<i→Mw l[j]=true} (Xi (fun i=>⟨[(0,sl Ap l),(3,vi i.1)],[],Aa⟩) (Xi (fun i=>l.length-i.1) (Yi (Xi ⟨0,AL _,fun j _ h=>by omega⟩ ?_) ?_)))
 ·exact⟨Z2,Tv,Fh,Tv⟩
 intro⟨i,h1,h2⟩;refine Yi ?_ ?_
 ·intro h;have h:(i:Int)<(l.map Ap).length:=h;have h:i<l.length:=by simpa using h
  have hg:l[i]?=some l[i]:=Ge h;have no:Mw l[i]=false→false=FJ l:=fun e=>by
   unfold FJ
   have:l.all Mw=false:=by
    rw[AH];intro ha
    have:=AX.1 ha _ (Aj h)
    rw[e]at this;cases this
   rw[this];rfl
  refine Xi (Ap l[i]) (Yi (Yi (Nn i) (by simp[hg])) (Yi rfl ?_));refine Yi ?_ ?_
  ·intro h3;have h3:(100:Int)<((l[i].path.size:Nat):Int):=h3;exact .of_eq (Ac vb (no (by unfold Mw;rw[At (by omega)];rfl)))
  intro h3;have h3:¬(100:Int)<((l[i].path.size:Nat):Int):=h3;refine Xi (Ap l[i]) (Yi (Yi (Nn i) (by simp[hg])) (Yi rfl ?_));refine Yi ?_ ?_
  ·intro h4;have h4:(8:Int)<((l[i].set.map Ae).length:Int):=h4;rw[Lm]at h4;exact .of_eq (Ac vb (no (by unfold Mw;rw[At (by omega:¬l[i].set.length≤8),Ct])))
  intro h4;have h4:¬(8:Int)<((l[i].set.map Ae).length:Int):=h4;have h5:l[i].set.length≤8:=by rw[Lm]at h4;omega
  refine Yi (Ii i (by omega)) ?_;refine Xi ⟨i+1,by omega,fun j hj IA=>?_⟩ ?_
  ·rcases BV j i with z | z
   ·exact h2 j hj z
   ·have:j=i:=by omega
    subst this;unfold Mw;rw[Av (by omega),Av h5];rfl
  ·exact⟨Dl l.length i (by omega),Z2,Tv,Fh,Tv⟩
 ·intro h;have h:¬(i:Int)<(l.map Ap).length:=h;have h:¬i<l.length:=by simpa using h
  have ha:l.all Mw=true:=AX.2 fun q hq=>by
   obtain⟨j,hj,rfl⟩:=BY hq;exact h2 j hj (by omega)
  refine Yi ?_ ?_
  ·intro h3;have h3:((l.map Ap).length:Int)≤20:=h3;rw[Lm]at h3;exact .of_eq (Ac vb (show true=FJ l by unfold FJ;rw[ha,Av (by omega)];rfl))
  ·intro h3;have h3:¬((l.map Ap).length:Int)≤20:=h3;rw[Lm]at h3;exact .of_eq (Ac vb (show false=FJ l by unfold FJ;rw[At (by omega),Ct]))
end Go.Eng

namespace Go.Eng
open Go.Proofs
def JD(r:Rl):Bool:=decide (r.path.size≤100)&&decide (r.arch.size≤100)&&decide (r.ifc.size≤100)&&decide (r.cert.size≤100)&&FJ r.reqs
def Hc(x:List Rl)(n:Nat):Bool:=x.all JD&&decide (x.length≤n)
theorem c34(x:List Rl)(n:Nat)(hl:CK x)(hr:∀r∈x,CK r.reqs):PC 26 [sl AY x,vi n] (vb (Hc x n)):=by
 unfold CK at hl;refine Ps EI Tryz.func26 rfl (Nz rfl) ?_;refine Xi {i:Nat // i≤x.length∧∀j (hj:j<x.length),j<i→JD x[j]=true} (Xi (fun i=>⟨[(0,sl AY x),(1,vi n),(5,vi i.1)],[],Aa⟩) (Xi (fun i=>x.length-i.1) (Yi (Xi ⟨0,AL _,fun j _ h=>by omega⟩ ?_) ?_)))
 ·exact⟨Z3,Tv,Fh,Tv⟩
 intro⟨i,h1,h2⟩;refine Yi ?_ ?_
 ·intro h;have h:(i:Int)<(x.map AY).length:=h;have h:i<x.length:=by simpa using h
  have hg:x[i]?=some x[i]:=Ge h;have no:JD x[i]=false→false=Hc x n:=fun e=>by
   unfold Hc
   have:x.all JD=false:=by
    rw[AH];intro ha
    have:=AX.1 ha _ (Aj h)
    rw[e]at this;cases this
   rw[this];rfl
  have hc:=yy x[i].reqs (hr _ (Aj h));refine Xi (AY x[i]) (Yi (Yi (Nn i) (by simp[hg])) (Yi rfl ?_));refine Yi ?_ ?_
  ·intro h3;have h3:(100:Int)<((x[i].path.size:Nat):Int):=h3;exact .of_eq (Ac vb (no (by unfold JD;rw[At (by omega:¬x[i].path.size≤100)];simp)))
  intro h3;have h3:¬(100:Int)<((x[i].path.size:Nat):Int):=h3;refine Xi (AY x[i]) (Yi (Yi (Nn i) (by simp[hg])) (Yi rfl ?_));refine Yi ?_ ?_
  ·intro h4;have h4:(100:Int)<((x[i].arch.size:Nat):Int):=h4;exact .of_eq (Ac vb (no (by unfold JD;rw[At (by omega:¬x[i].arch.size≤100)];simp)))
  intro h4;have h4:¬(100:Int)<((x[i].arch.size:Nat):Int):=h4;refine Xi (AY x[i]) (Yi (Yi (Nn i) (by simp[hg])) (Yi rfl ?_));refine Yi ?_ ?_
  ·intro h5;have h5:(100:Int)<((x[i].ifc.size:Nat):Int):=h5;exact .of_eq (Ac vb (no (by unfold JD;rw[At (by omega:¬x[i].ifc.size≤100)];simp)))
  intro h5;have h5:¬(100:Int)<((x[i].ifc.size:Nat):Int):=h5;refine Xi (AY x[i]) (Yi (Yi (Nn i) (by simp[hg])) (Yi rfl ?_));refine Yi ?_ ?_
  ·intro h6;have h6:(100:Int)<((x[i].cert.size:Nat):Int):=h6;exact .of_eq (Ac vb (no (by unfold JD;rw[At (by omega:¬x[i].cert.size≤100)];simp)))
  intro h6;have h6:¬(100:Int)<((x[i].cert.size:Nat):Int):=h6;refine Xi (AY x[i]) (Yi (Yi (Nn i) (by simp[hg])) (Yi rfl ?_));refine BG (Bt (FJ x[i].reqs)) (fun e=>?_) (fun e=>?_)
  rotate_left
  ·rw[e]at hc;refine Xi .pure (Xi _ (Yi (hc) ?_));exact .of_eq (Ac vb (no (by unfold JD;rw[e,Ct])))
  rw[e]at hc;refine Xi .pure (Xi _ (Yi (hc) ?_));refine Yi (Ii i (by omega)) ?_;refine Xi ⟨i+1,by omega,fun j hj IA=>?_⟩ ?_
  ·rcases BV j i with z | z
   ·exact h2 j hj z
   ·have:j=i:=by omega
    subst this;unfold JD;rw[Av (by omega:x[j].path.size≤100),Av (by omega:x[j].arch.size≤100),Av (by omega:x[j].ifc.size≤100),Av (by omega:x[j].cert.size≤100),e];rfl
  ·exact⟨Dl x.length i (by omega),Z3,Tv,Fh,Tv⟩
 ·intro h;have h:¬(i:Int)<(x.map AY).length:=h;have h:¬i<x.length:=by simpa using h
  have ha:x.all JD=true:=AX.2 fun q hq=>by
   obtain⟨j,hj,rfl⟩:=BY hq;exact h2 j hj (by omega)
  refine Yi ?_ ?_
  ·intro h3;have h3:((x.map AY).length:Int)≤n:=h3;rw[Lm]at h3;exact .of_eq (Ac vb (show true=Hc x n by unfold Hc;rw[ha,Av (by omega)];rfl))
  ·intro h3;have h3:¬((x.map AY).length:Int)≤n:=h3;rw[Lm]at h3;exact .of_eq (Ac vb (show false=Hc x n by unfold Hc;rw[At (by omega),Ct]))
theorem c11(x:List Rl)(ifs:List (List AV))(roots:List Rq)(hl:CK x)(hr:∀r∈x,CK r.reqs)(hq:CK roots):PC 9 [Mm x ifs,sl Ap roots] (vb (Hc x 16&&FJ roots)):=by
 have h1:=c34 x 16 hl hr;have h2:=yy roots hq;cases e:Hc x 16 with
 |true =>
  rw[e]at h1;refine Ps EI Tryz.func9 rfl (Nz rfl) ?_;refine Xi .pure (Xi _ (Yi (h1) ?_));refine Xi .pure (Xi _ (Yi (h2) ?_));exact .refl _
 |false =>
  rw[e]at h1;refine Ps EI Tryz.func9 rfl (Nz rfl) ?_;refine Xi .pure (Xi _ (Yi (h1) ?_));exact .refl _
end Go.Eng

namespace Go.Eng
open Go.Proofs
abbrev sf:AV:=.v (.slice none 0 0)
end Go.Eng

namespace Go.Eng
open Go.Proofs
end Go.Eng

namespace Go.Eng
open Go.Proofs
end Go.Eng

namespace Go.Eng
open Go.Proofs
section
variable {l:List Rl}{roots t:List Rq}{d:List ByteArray}{n:Nat}
end
end Go.Eng

namespace Go.Eng
open Go.Proofs
end Go.Eng

namespace Go.Eng
open Go.Proofs
structure ph(x:List Rl)(roots:List Rq):Prop where
 ix:CK x
 rs:CK roots
 rel:∀r∈x,CK r.reqs∧Gf r
 rq:∀q∈roots,H4 q
theorem ph.x{x:List Rl}{roots:List Rq}(h:ph x roots):∀r∈x,Gf r:=fun r hr=>(h.rel r hr).2
theorem ph.c11{x:List Rl}{roots:List Rq}(h:ph x roots)(ifs:List (List AV)):PC 9 [Mm x ifs,sl Ap roots] (vb (Hc x 16&&FJ roots)) :=
 Go.Eng.c11 x ifs roots h.ix (fun r hr=>(h.rel r hr).1) h.rs
end Go.Eng

namespace Go.Proofs.YtkmnnpmneamgoaaGreatDoor.joins
open Go Go.Eng Go.Proofs Go.ChangeShapes Go.WideShapes Go.ChangeAt Go.RowKit

section
variable {H:Type}{enc:TypeId×Value→H}{w:World}
theorem all_le{d:DataW H}{l:List (DataW H)}(h:d∈l):Rows.uptoBulk d≤Rows.uptoBulkAll l:=by
 induction l with
 |nil=>cases h
 |cons x r ih =>
  simp only[Rows.uptoBulkAll]
  cases AF.1 h with
  |inl e=>subst e;omega
  |inr e=>have:=ih e;omega
theorem one_le(d:DataW H):1≤Rows.uptoBulk d:=by
 cases d with
 |lit l=>cases l<;>simp[Rows.uptoBulk]
 |nil=>simp[Rows.uptoBulk]
 |ptr d=>simp[Rows.uptoBulk]
 |slice ma spare=>simp[Rows.uptoBulk]
 |agg parts=>simp[Rows.uptoBulk]
 |iface t d=>simp[Rows.uptoBulk]
 |map entries=>simp[Rows.uptoBulk]
 |held h=>simp[Rows.uptoBulk]
theorem len_le(l:List (DataW H)):l.length≤Rows.uptoBulkAll l:=by
 induction l with
 |nil=>simp[Rows.uptoBulkAll]
 |cons x r ih=>have:=one_le x;simp only[Rows.uptoBulkAll,Ak];omega
theorem bulk_ok:VL (H:=H) Rows.uptoBulk where
 slice es sp:=by
  have h1:=len_le es
  refine⟨by simp only[Rows.uptoBulk];omega,fun d hd=>?_⟩
  have:=all_le hd
  simp only[Rows.uptoBulk];omega
 agg ps d hd:=by
  have:=all_le hd
  simp only[Rows.uptoBulk];omega
 str b:=by simp only[Rows.uptoBulk];omega
theorem app_all(l r:List (DataW H)):Rows.uptoBulkAll (l++r)=Rows.uptoBulkAll l+Rows.uptoBulkAll r:=by
 induction l with
 |nil=>simp[Rows.uptoBulkAll]
 |cons x l ih=>simp only[DZ,Rows.uptoBulkAll,ih];omega

abbrev NB:Nat:=1048576
abbrev Op(enc:TypeId×Value→H)(w:World)(t:TypeId){α:Type}(e:α→List AV)(ok:α→Prop):Prop:=JM enc Tryz.prog w Rows.uptoBulk NB t e ok
theorem oI:Op enc w 3 (fun n:Int=>[vi n]) (fun _=>True):=(de Tryz.underlying3).to id (fun _ _=>⟨rfl,trivial⟩)
theorem oB:Op enc w 4 (fun b:Bool=>[vb b]) (fun _=>True):=ZJ Tryz.underlying4
theorem oS:Op enc w 9 (fun s:ByteArray=>[vs s]) (fun s=>s.size≤NB):=Ww bulk_ok Tryz.underlying9
theorem oVer:Op enc w 49 Gi (fun _=>True) :=
 (Es bulk_ok Tryz.underlying49 (L:=3) (by kernel_rfl) (BB rfl (n:=1) (by kernel_rfl) oI (BB rfl (n:=1) (by kernel_rfl) oI (BB rfl (n:=1) (by kernel_rfl) oI FA)))).to
  (fun p=>(⟨p.1,p.2.1,p.2.2.1⟩:Ver)) (fun _ _=>⟨rfl,trivial⟩)
theorem oSpan:Op enc w 65 Ae (fun _=>True) :=
 (Es bulk_ok Tryz.underlying65 (L:=2) (by kernel_rfl) (BB rfl (n:=1) (by kernel_rfl) oI (BB rfl (n:=1) (by kernel_rfl) oI FA))).to
  (fun p=>(p.1,p.2.1)) (fun _ _=>⟨rfl,trivial⟩)
theorem oSet:Op enc w 43 (fun l:A9=>[sl Ae l]) (fun l=>l.length≤NB) :=
 (GA bulk_ok Tryz.underlying43 (m:=1) (by kernel_rfl) (fun _=>rfl) oSpan).to id (fun _ h=>⟨rfl,h.1⟩)
abbrev OkRq(q:Rq):Prop:=q.path.size≤NB∧q.set.length≤NB
theorem oRq:Op enc w 45 Ap OkRq :=
 (Es bulk_ok Tryz.underlying45 (L:=2) (by kernel_rfl) (BB rfl (n:=1) (by kernel_rfl) oS (BB rfl (n:=1) (by kernel_rfl) oSet FA))).to
  (fun p=>(⟨p.1,p.2.1⟩:Rq)) (fun _ h=>⟨rfl,h.1,h.2.1⟩)
abbrev OkRqs(l:List Rq):Prop:=l.length≤NB∧∀q∈l,OkRq q
theorem oRqs:Op enc w 26 (fun l:List Rq=>[sl Ap l]) OkRqs :=
 GA bulk_ok Tryz.underlying26 (m:=1) (by kernel_rfl) (fun _=>rfl) oRq
abbrev OkRl(r:Rl):Prop:=r.path.size≤NB∧OkRqs r.reqs
theorem oRl:Op enc w 67 AY OkRl :=
 (Es bulk_ok Tryz.underlying67 (L:=9) (by kernel_rfl) (BB rfl (n:=1) (by kernel_rfl) oS (BB rfl (n:=3) (by kernel_rfl) oVer (BB rfl (n:=1) (by kernel_rfl) oRqs
  (BB rfl (n:=1) (by kernel_rfl) oS (BB rfl (n:=1) (by kernel_rfl) oS (BB rfl (n:=1) (by kernel_rfl) oS (BB rfl (n:=1) (by kernel_rfl) oB FA)))))))).to
  (fun p=>(⟨p.1,p.2.1,p.2.2.1,p.2.2.2.1,p.2.2.2.2.1,p.2.2.2.2.2.1,p.2.2.2.2.2.2.1⟩:Rl)) (fun _ h=>⟨rfl,h.1,h.2.2.1⟩)
theorem oRls:Op enc w 22 (fun l:List Rl=>[sl AY l]) (fun l=>l.length≤NB∧∀r∈l,OkRl r) :=
 GA bulk_ok Tryz.underlying22 (m:=8) (by kernel_rfl) (fun _=>rfl) oRl
theorem oIfc:Op enc w 349 (fun s:ByteArray=>[vs s,.junk,.junk,.junk,.junk]) (fun _=>True) :=
 (Es bulk_ok Tryz.underlying349 (L:=5) (by kernel_rfl) (BB rfl (n:=1) (by kernel_rfl) oS (BB rfl (n:=1) (by kernel_rfl) (MT Tryz.underlying344) (BB rfl (n:=1) (by kernel_rfl) (MT Tryz.underlying345)
  (BB rfl (n:=1) (by kernel_rfl) (MT Tryz.underlying346) (BB rfl (n:=1) (by kernel_rfl) (MT Tryz.underlying347) FA)))))).to (fun p=>p.1) (fun _ _=>⟨rfl,trivial⟩)
theorem oIfs:Op enc w 23 (fun l:List ByteArray=>[sl (fun s=>[vs s,.junk,.junk,.junk,.junk]) l]) (fun _=>True) :=
 (GA bulk_ok Tryz.underlying23 (m:=4) (by kernel_rfl) (fun _=>rfl) oIfc).to id (fun _ _=>⟨rfl,trivial⟩)
theorem oIx:Op enc w 25 (fun p:List Rl×List (List AV)=>[sl AY p.1,.slice .none p.2]) (fun p=>p.1.length≤NB∧∀r∈p.1,OkRl r) :=
 (Es bulk_ok Tryz.underlying25 (L:=2) (by kernel_rfl) (BB rfl (n:=1) (by kernel_rfl) oRls (BB rfl (n:=1) (by kernel_rfl) oIfs FA))).to
  (fun p=>(p.1,p.2.1.map (fun s=>[vs s,.junk,.junk,.junk,.junk]))) (fun _ h=>⟨rfl,h.1⟩)
theorem oSl:Op enc w 51 Ah (fun y=>y.path.size≤NB) :=
 (Es bulk_ok Tryz.underlying51 (L:=4) (by kernel_rfl) (BB rfl (n:=1) (by kernel_rfl) oS (BB rfl (n:=3) (by kernel_rfl) oVer FA))).to
  (fun p=>(⟨p.1,p.2.1⟩:Sl)) (fun _ h=>⟨rfl,h.1⟩)
theorem oSls:Op enc w 39 (fun l:List Sl=>[sl Ah l]) (fun l=>l.length≤NB∧∀y∈l,y.path.size≤NB) :=
 GA bulk_ok Tryz.underlying39 (m:=3) (by kernel_rfl) (fun _=>rfl) oSl
theorem oNf:Op enc w 136 BO (fun i=>i.path.size≤NB) :=
 (Es bulk_ok Tryz.underlying136 (L:=6) (by kernel_rfl) (BB rfl (n:=1) (by kernel_rfl) oI (BB rfl (n:=1) (by kernel_rfl) oS (BB rfl (n:=1) (by kernel_rfl) oI
  (BB rfl (n:=1) (by kernel_rfl) oI (BB rfl (n:=1) (by kernel_rfl) oI (BB rfl (n:=1) (by kernel_rfl) oI FA))))))).to
  (fun p=>(⟨p.1,p.2.1,p.2.2.1,p.2.2.2.1,p.2.2.2.2.1,p.2.2.2.2.2.1⟩:Nf)) (fun _ h=>⟨rfl,h.2.1⟩)
theorem oNfs:Op enc w 56 (fun l:List Nf=>[sl BO l]) (fun l=>l.length≤NB∧∀i∈l,i.path.size≤NB) :=
 GA bulk_ok Tryz.underlying56 (m:=5) (by kernel_rfl) (fun _=>rfl) oNf
theorem oSk:Op enc w 151 BD (fun y=>y.path.size≤NB) :=
 (Es bulk_ok Tryz.underlying151 (L:=3) (by kernel_rfl) (BB rfl (n:=1) (by kernel_rfl) oS (BB rfl (n:=1) (by kernel_rfl) oI (BB rfl (n:=1) (by kernel_rfl) oI FA)))).to
  (fun p=>(⟨p.1,p.2.1,p.2.2.1⟩:Sk)) (fun _ h=>⟨rfl,h.1⟩)
theorem oSks:Op enc w 57 (fun l:List Sk=>[sl BD l]) (fun l=>l.length≤NB∧∀y∈l,y.path.size≤NB) :=
 GA bulk_ok Tryz.underlying57 (m:=2) (by kernel_rfl) (fun _=>rfl) oSk
abbrev OkAn(a:An):Prop:=a.sel.length≤NB∧a.infs.length≤NB∧a.skips.length≤NB
theorem oAn:Op enc w 59 Jo OkAn :=
 (Es bulk_ok Tryz.underlying59 (L:=4) (by kernel_rfl) (BB rfl (n:=1) (by kernel_rfl) oB (BB rfl (n:=1) (by kernel_rfl) oSls (BB rfl (n:=1) (by kernel_rfl) oNfs
  (BB rfl (n:=1) (by kernel_rfl) oSks FA))))).to
  (fun p=>(⟨p.1,p.2.1,p.2.2.1,p.2.2.2.1⟩:An)) (fun _ h=>⟨rfl,h.2.1.1,h.2.2.1.1,h.2.2.2.1.1⟩)
theorem few_of{n:Nat}(h:n≤NB):n≤1073741824:=Bu h (by decide)
theorem lim_of{x:List Rl}{roots:List Rq}(h:x.length≤NB∧∀r∈x,OkRl r)(k:OkRqs roots):ph x roots where
 ix:=few_of h.1
 rs:=few_of k.1
 rel r hr:=⟨few_of (h.2 r hr).2.1,few_of (h.2 r hr).1,fun q hq=>⟨few_of ((h.2 r hr).2.2 q hq).2,few_of ((h.2 r hr).2.2 q hq).1⟩⟩
 rq q hq:=⟨few_of (k.2 q hq).2,few_of (k.2 q hq).1⟩
end

theorem ok_agg{P:Program}{W:World}{base:Nat}{t:TypeId}{v:Value}{fs:Array Field}(hu:P.underlying t=some (.struct fs))(h:Value.okWide P W .any base t v):∃cs,v=.agg cs:=by
 unfold Value.okWide at h
 rw[hu]at h
 obtain⟨cs,e,_⟩:=h
 exact⟨cs,e⟩
theorem ok_slice{P:Program}{W:World}{base:Nat}{t e:TypeId}{v:Value}(hu:P.underlying t=some (.slice e))(h:Value.okWide P W .any base t v):v.oneCell'=true:=by
 unfold Value.okWide at h
 rw[hu]at h
 unfold Cell.okWide Cell.ok at h
 rw[hu]at h
 cases v<;>first | rfl | simp at h
theorem ok_int{P:Program}{W:World}{base:Nat}{t:TypeId}{k:IntKind}{v:Value}(hu:P.underlying t=some (.int k))(h:Value.okWide P W .any base t v):v.oneCell'=true:=by
 unfold Value.okWide at h
 rw[hu]at h
 unfold Cell.okWide Cell.ok at h
 rw[hu]at h
 cases v<;>first | rfl | simp at h
theorem int_of_shape{P:Program}{w:World}{g:Nat}{t:TypeId}{k:IntKind}{zero:Array Value}(h:w.ShapedOpen P)(hg:g<P.globals.size)
  (h0:((begin P (fun _ _=>0) default).world.heap[g]?).bind Obj.row?=some (zero,t)) (hz:zero.size=1)
  (hb:P.buildable t=true) (hc:P.cellTypes P.depth t=some [t]) (hu:P.underlying t=some (.int k)):∃p,w.cell? ⟨g,0,none⟩=some (.int k p):=by
 obtain⟨cs,hh,hs,hr⟩:=h.1 g zero t hg h0
 obtain⟨ts,zt,_,GJ⟩:=hr hb
 rw[hc]at zt
 cases zt
 have h1:0<cs.size:=by omega
 obtain⟨u,gI,FO⟩:=GJ 0 cs[0] (by simp[h1])
 have:u=t:=by simpa using gI.symm
 subst this
 have Di:w.cell? ⟨g,0,none⟩=some cs[0]:=by simp[World.cell?,hh,h1]
 rw[Di]
 unfold Cell.ok at FO
 rw[hu]at FO
 cases hv:cs[0]<;>rw[hv]at FO<;>simp at FO
 obtain⟨rfl,_⟩:=FO
 exact⟨_,rfl⟩
theorem maxLen_cell{W:World}(h:W.ShapedOpen Tryz.prog):∃m,W.cell? ⟨0,0,none⟩=some (.int .i64 m) :=
 int_of_shape (t:=3) (zero:=#[.int .i64 0]) h (Cm (by kernel_rfl)) (by kernel_rfl) rfl (by kernel_rfl) (by kernel_rfl) Tryz.underlying3

def Still(W W' : World):Prop:=W'.os=W.os∧W'.output=W.output∧W.heap.size≤W'.heap.size∧∀b,b<W.heap.size→W'.heap[b]?=W.heap[b]?
theorem run_true{f:Nat}{args:List AV}{vals:Array Value}{W:World}(hc:PC f args (vb true))(hM:∃m,W.cell? ⟨0,0,none⟩=some (.int .i64 m))(hs:vals.size=args.length)
  (hr:∀(i:Nat) (av:AV) (x:Value),args[i]?=some av→vals[i]?=some x→BI (fP W) W Fj av x):Calls Tryz.prog f vals W fun e W'=>e=.returned (.bool true)∧Still W W':=by
 refine(hc.2 (fP W) W vals hs (fun i av x q1 q2=>(hr i av x q1 q2).up _) (r7 hM (fun _ h=>by cases h))).mono fun e W' ⟨v,r,h',g',e1,e2,e3,e4,_⟩=>?_
 subst e1
 obtain⟨rfl,rfl⟩:=e2
 obtain rfl:=e3.v_eq
 exact⟨rfl,e4.os,e4.output,e4.size,fun b hb=>e4.frame b hb (fun r h=>h.elim)⟩
theorem Still.kept{W W' : World}(h:Still W W')(zy:MemPlace→Prop):W.keptBut W' zy:=by
 refine⟨h.1,h.2.1,fun i hi=>?_⟩
 rw[h.2.2.2 i hi]
 cases hh:W.heap[i]? with
 |none=>rfl
 |some o=>cases o<;>simp
theorem Still.same{W W' : World}(h:Still W W'){p:MemPlace}(hp:p.block<W.heap.size):W.sameAt W' p:=by
 cases p with
 |cell b off =>
  show W'.cell? ⟨b,off,none⟩=W.cell? ⟨b,off,none⟩
  unfold World.cell?
  rw[h.2.2.2 b hp]
 |map b=>exact h.2.2.2 b hp
theorem kids:Kids Tryz.prog (· < Tryz.prog.types.size):=kids_rows (by kernel_rfl) (by kernel_rfl)
theorem full:∀t e,t<Tryz.prog.types.size→Tryz.prog.underlying t=some (.slice e)→0<Tryz.prog.cellsOf e:=slices_full_of Tryz.prog (by kernel_rfl)
theorem carry{H:Type}{enc:TypeId×Value→H}{W W' : World}(h:Still W W'):∀{ts:List TypeId} {vs:List Value} {ds:List (DataW H)} {ps:List MemPlace},DataW.TrodAll enc Tryz.prog W 0 (fun _=>true) true ts vs ds ps→DataW.TrodAll enc Tryz.prog W' 0 (fun _=>true) true ts vs ds ps
 | [],[],[],_,e=>e
 |t::ts,v::vs,d::ds,ps,k=>by
  have Dz:=k.lt
  obtain⟨p,q,⟨n,h1⟩,h2,rfl⟩:=k
  exact⟨p,q,⟨n,DataW.trod_carry n _ _ _ h1 (fun x hx=>h.same (Dz x (Bz _ hx)))⟩,carry h h2,rfl⟩
 | [],[],_::_,_,k=>k.elim
 | [],_::_,_,_,k=>k.elim
 |_::_,[],_,_,k=>k.elim
 |_::_,_::_,[],_,k=>k.elim
theorem post_true{H:Type}{enc:TypeId×Value→H}{W W' : World}{f:Func}{s:ChangeSpec}{args:Array Value}{ds:List (DataW H)}{before:List MemPlace}(Gy:Still W W')(hv:s.vars=[])
  (hW:DataW.Whole enc Tryz.prog f.params.toList s.vars false W args.toList ds [] before) (hr:f.resultTypes=#[4]) (hT:∀t∈f.params.toList,t<Tryz.prog.types.size) (hs:s.fn H ds={ results:=[.lit (.bool true)],args:=ds }) :
  s.post enc Tryz.prog f false true false false W args (.bool true) W':=by
 have yT:=hW
 obtain⟨p,q,hA,hV,rfl,hz,_⟩:=hW
 rw[hv]at hV
 have hq:q=[]:=hV
 subst hq
 have Dz:=yT.lt
 have pG:s.fn H (ds++[])={ results:=[.lit (.bool true)],args:=ds }:=by rw[CY];exact hs
 refine⟨ds,[],p++[],[],p,[],yT,?_,?_,?_,Gy.kept _,fun h=>by cases h⟩
 ·rw[pG,hr]
  exact⟨[],[],⟨1,by rw[show(Value.bool true).cells.toList=[.bool true]from rfl,DataW.trod_step];unfold DataW.trodStep;rw[Tryz.underlying4]⟩,rfl,rfl⟩
 ·rw[pG]
  exact(carry Gy hA).respare kids full hT (fun x hx=>by simpa using Dz x (Bz _ hx))
 ·rw[pG,hv];rfl
end Go.Proofs.YtkmnnpmneamgoaaGreatDoor.joins

namespace Go.Proofs.YtkmnnpmneamgoaaGreatDoor.joins
open Go Go.Eng Go.Proofs Go.ChangeShapes Go.WideShapes Go.ChangeAt Go.RowKit
theorem own:ownKnob Tryz.prog.godebug=none:=by kernel_rfl
def flatD:Nat→DataW Unit→List Value
 |0,_=>[]
 |n+1,.agg l=>l.flatMap (flatD n)
 |_+1,.lit (.int k i)=>[.int k i]
 |_+1,_=>[]
def layIn(d:DataW Unit):Obj→Obj
 |.cells _ t frozen=>.cells (flatD 4 d).toArray t frozen
 |o=>o
noncomputable def laidWorld(os:Os):World :=
 { World.holding Tryz.prog os ⟨#[],#[],[]⟩with heap:=((World.holding Tryz.prog os ⟨#[],#[],[]⟩).heap.modify 1 (layIn Rows.laid_unicode_utf8_first)).modify 2 (layIn Rows.laid_unicode_utf8_acceptRanges) }
abbrev nilV:Value:=.slice none 0 0
theorem arr2{args:Array Value}{a b:Value}(h:args.toList=[a,b]):args=#[a,b]:=by
 cases args;simp_all
theorem arr3{args:Array Value}{a b c:Value}(h:args.toList=[a,b,c]):args=#[a,b,c]:=by
 cases args;simp_all
theorem arr4{args:Array Value}{a b c d:Value}(h:args.toList=[a,b,c,d]):args=#[a,b,c,d]:=by
 cases args;simp_all
theorem arr5{args:Array Value}{a b c d e:Value}(h:args.toList=[a,b,c,d,e]):args=#[a,b,c,d,e]:=by
 cases args;simp_all
theorem looksOff:false=Tryz.pinned.checked.prog.looks []:=by kernel_rfl
theorem noStand:∀t∈([25,26,3]:List Nat),Tryz.pinned.checked.prog.wantsStandIn t=false:=by
 intro t ht
 simp only[AF,LN,or_false]at ht
 rcases ht with rfl | rfl | rfl<;>exact(show Tryz.prog.wantsStandIn _=false by kernel_rfl)
end Go.Proofs.YtkmnnpmneamgoaaGreatDoor.joins
