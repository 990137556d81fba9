/- Lemmas for the claims of this seat, without a condition: part 22 (C50, C51, C52, C53, C54, C55, C65, C66, C67, C68, C69). -/
import Derived.Test.YtkmnnpmneamgoaaGreatDoorA21
namespace Go.Eng
open Go.Proofs
abbrev DK(l:List Rl):Bj:=(l.filter fun r=>!r.yanked).map fun r=>(plc r.ver,plc r.ver+1)
theorem Zv(l:List Rl):(DK l).length≤l.length:=by
 unfold DK;rw[Lm];exact By _ _
theorem km{x:List Rl}{ps:List ByteArray}{p:ByteArray}{a:AV}(h:(Value.string p,a)∈ps.map (iW x)):a=sl A5 (x.filter fun r=>decide (r.path=p)):=by
 obtain⟨q,_,h2⟩:=Ao.1 h;simp only[iW,FP,Value.string.injEq]at h2;rw[←h2.2,h2.1]
theorem N6{acc:List ByteArray}{p:ByteArray}:(acc.any fun q=>decide (q=p))=true↔p∈acc:=by
 rw[Bf];constructor
 ·rintro⟨q,h1,h2⟩;rw[←CB h2];exact h1
 ·intro h;exact⟨p,h,by simp⟩
theorem Hc:∀(x:List Rl) (acc:List ByteArray) (p:ByteArray),p∈AO x acc↔p∈acc∨∃r∈x,r.path=p
 | [],acc,p=>by simp[AO]
 |r::x,acc,p=>by
  rw[AO,Hc x];constructor
  ·rintro(h | ⟨s,h1,h2⟩)
   ·split at h
    ·exact .inl h
    ·rcases A2.1 h with h | h
     ·exact .inl h
     ·exact .inr ⟨r,Ab ..,(Ai.1 h).symm⟩
   ·exact .inr ⟨s,Ag _ h1,h2⟩
  ·rintro(h | ⟨s,h1,h2⟩)
   ·left
    split
    ·exact h
    ·exact Bs _ h
   ·rcases AF.1 h1 with rfl | h1
    ·left
     split
     ·rename_i hh;rw[←h2];exact N6.1 hh
     ·rw[←h2];exact Bo _ (Ai.2 rfl)
    ·exact .inr ⟨s,h1,h2⟩
abbrev lO:O3:=⟨[],[(7,2)],[],[],[],[],[],[],[],[],[2,3,6,7,9]⟩
theorem Ur(L:List Rl)(i:Nat)(h:i<L.length):DK (L.take (i+1))=DK (L.take i)++(if L[i].yanked then []else [(plc L[i].ver,plc L[i].ver+1)]):=by
 unfold DK;rw[Bk,Ge h,EZ,AB]
 congr 1
 cases hy:L[i].yanked<;>simp[hy]
theorem po(x:List Rl)(ifs:List (List AV))(p:ByteArray)(TH:Yc x ifs):PC 61 [MQ x ifs,vs p] (sl Ap (BM x p)):=by
 by_cases h0:A6 x=0
 ·have TH:PC 95 [MQ x ifs] (.tup [.agg [.cmap TL (x.map SN),.cmap Dv ((AO x []).map (iW x))],vi 0]):=by
   have:=TH;unfold Yc Wf at this;rw[Aw h0]at this;exact this
  have ZX:=(Iz h0).1;obtain⟨L,rW⟩:∃L,L=x.filter fun r=>decide (r.path=p):=⟨_,rfl⟩;have hL:J6 x p=L:=by unfold J6;rw[Am (by omega),rW]
  have t6:L.length≤256:=by have:=By (fun r:Rl=>decide (r.path=p)) x;rw[rW];omega
  refine Ps lO Tryz.func61 rfl (Nz rfl) ?_;refine Yi (Nz rfl) ?_;refine Xi .pure (Xi _ (Yi (TH) ?_));refine Yi (Nz rfl) ?_;refine Xi ⟨[(1,vs p),(5,.ref 5 0)],[(5,.cells [.cmap TL (x.map SN),.cmap Dv ((AO x []).map (iW x))])],Aa⟩ (Yi ⟨Z2,Z1,Fh,Tv⟩ ?_)
  refine Xi ⟨[(1,vs p),(5,.ref 5 0),(7,.slice (.id 7 2) [])],[(5,.cells [.cmap TL (x.map SN),.cmap Dv ((AO x []).map (iW x))]),(7,.tok 2 0)],Aa⟩ (Yi ⟨Z3,Z2,Fh,Tv⟩ ?_)
  refine Yi ?_ ?_
  ·intro a ha;have ea:a=sl A5 L:=by rw[rW];exact km ha
   subst ea;refine Xi {i:Nat // i≤L.length} (Xi (fun i=>⟨[(7,.slice (.id 7 2) ((DK (L.take i.1)).map Ap)),(18,sl A5 L),(19,vi (L.map A5).length),(20,vi i.1)],[(7,.tok 2 ((DK (L.take i.1)).map Ap).length)],Aa⟩) (Xi (fun i=>L.length-i.1) (Yi (Xi ⟨0,AS _⟩ ?_) ?_)))
   ·exact⟨Z4,Z1,Fh,Tv⟩
   intro⟨i,i1⟩;have UK:=Zv (L.take i);rw[AN]at UK;refine Yi ?_ ?_
   ·intro h;have h:(i:Int)<(L.map A5).length:=h;have h:i<L.length:=by simpa using h
    have hg:L[i]?=some L[i]:=Ge h;refine Xi (A5 L[i]) (Yi (Yi (Nn i) (by simp[hg])) (Yi rfl ?_));refine Yi (Nz rfl) (Yi (Nz rfl) ?_);refine Xi ⟨[(7,.slice (.id 7 2) ((DK (L.take i)).map Ap)),(9,.ref 9 0),(18,sl A5 L),(19,vi (L.map A5).length),(20,vi i)],[(7,.tok 2 ((DK (L.take i)).map Ap).length),(9,.cells (A5 L[i]))],Aa⟩ (Yi ⟨Z5,Z2,Fh,Tv⟩ ?_)
    refine Yi ?_ ?_
    ·intro hy;have hy:L[i].yanked=true:=hy;refine Yi (Ii i (by omega)) ?_;have es:DK (L.take (i+1))=DK (L.take i):=by rw[Ur L i h,hy];simp
     have e1:AV.slice (.id 7 2) ((DK (L.take i)).map Ap)=.slice (.id 7 2) ((DK (L.take (i+1))).map Ap):=by rw[es]
     have e2:HO.tok 2 ((DK (L.take i)).map Ap).length=.tok 2 ((DK (L.take (i+1))).map Ap).length:=by rw[es]
     refine Xi ⟨i+1,by omega⟩ ?_;exact⟨Dl L.length i (by omega),⟨⟨e1,rfl⟩,Zr,Zr,Zr,Tv⟩,⟨⟨e2,rfl⟩,Tv⟩,Fh,Tv⟩
    ·intro hy;have hy:L[i].yanked=false:=hy;have oD:=aw L[i].ver;refine Xi ⟨[(7,.slice (.id 7 2) ((DK (L.take i)).map Ap)),(9,.ref 9 0),(18,sl A5 L),(19,vi (L.map A5).length),(20,vi i)],[(7,.tok 2 ((DK (L.take i)).map Ap).length),(9,.cells (A5 L[i]))],Aa⟩ (Yi ⟨Z5,Z2,Fh,Tv⟩ ?_)
     refine Yi (Nz rfl) ?_;refine Xi _ (Yi (xc L[i]) ?_);refine Yi (Nz rfl) ?_;refine Xi _ (Yi (xc L[i]) ?_);refine Yi (by show BQ (plc L[i].ver+1);unfold BQ;omega) ?_;have Ei:BY 2 [[vi (plc L[i].ver),vi (plc L[i].ver+1)]]∧((DK (L.take i)).map Ap).length=((DK (L.take i)).map Ap).length∧(((DK (L.take i)).map Ap).length+[[vi (plc L[i].ver),vi (plc L[i].ver+1)]].length)*16≤140737488355328∧((DK (L.take i)).map Ap).length+[[vi (plc L[i].ver),vi (plc L[i].ver+1)]].length≤9223372036854775807 :=
      ⟨⟨rfl,trivial⟩,rfl,by rw[Lm,As];omega,by rw[Lm,As];omega⟩
     refine Yi Ei ?_;refine Yi (by kernel_rfl) ?_;refine Yi (Ii i (by omega)) ?_;have es:DK (L.take (i+1))=DK (L.take i)++[(plc L[i].ver,plc L[i].ver+1)]:=by rw[Ur L i h,hy];simp
     have e1:AV.slice (.id 7 2) ((DK (L.take i)).map Ap++[[vi (plc L[i].ver),vi (plc L[i].ver+1)]])=.slice (.id 7 2) ((DK (L.take (i+1))).map Ap):=by rw[es,AB];rfl
     have e2:HO.tok 2 (((DK (L.take i)).map Ap).length+[[vi (plc L[i].ver),vi (plc L[i].ver+1)]].length)=.tok 2 ((DK (L.take (i+1))).map Ap).length:=by rw[es,AB,Ac];rfl
     refine Xi ⟨i+1,by omega⟩ ?_;exact⟨Dl L.length i (by omega),⟨⟨e1,rfl⟩,Zr,Zr,Zr,Tv⟩,⟨⟨e2,rfl⟩,Tv⟩,Fh,Tv⟩
   ·intro h;have h:¬(i:Int)<(L.map A5).length:=h;have h:¬i<L.length:=by simpa using h
    have et:L.take i=L:=AI (by omega);refine Xi ⟨[(7,.slice (.id 7 2) ((DK (L.take i)).map Ap))],[(7,.tok 2 ((DK (L.take i)).map Ap).length)],Aa⟩ (Yi ⟨Z1,Z1,Fh,Tv⟩ ?_)
    have hc:PC 116 [sl Ap (DK (L.take i))] (sl Ap (canon (DK (L.take i)))):=WE _ (by unfold Cv;omega);refine Xi .pure (Xi _ (Yi (hc) ?_));exact .of_eq (show sl Ap (canon (DK (L.take i)))=sl Ap (BM x p) by rw[et];unfold BM;rw[hL])
  ·intro hn;have hL:J6 x p=[]:=by
    rw[hL,rW,Hf];intro r hr he;have he:=CB he;exact hn _ (Ao.2 ⟨p,(Hc x [] p).2 (.inr ⟨r,hr,he⟩),rfl⟩)
   refine Xi Unit (Xi (fun _=>⟨[(7,.slice (.id 7 2) []),(19,vi 0),(20,vi 0)],[(7,.tok 2 0)],Aa⟩) (Xi (fun _=>0) (Yi (Xi () ?_) ?_)))
   ·exact⟨Z3,Z1,Fh,Tv⟩
   intro _;refine Yi ?_ ?_
   ·intro h;exact absurd (show(0:Int)<0 from h) (by decide)
   intro _;refine Xi ⟨[(7,.slice (.id 7 2) [])],[(7,.tok 2 0)],Aa⟩ (Yi ⟨Z1,Z1,Fh,Tv⟩ ?_)
   have hc:PC 116 [sl Ap []] (sl Ap (canon [])):=WE [] (by unfold Cv;simp);refine Xi .pure (Xi _ (Yi (hc) ?_));exact .of_eq (show sl Ap (canon [])=sl Ap (BM x p) by unfold BM;rw[hL];rfl)
 ·have TH:PC 95 [MQ x ifs] (.tup [.agg [.cmap TL [],.cmap Dv []],vi (A6 x)]):=by
   have:=TH;unfold Yc Wf at this;rw[Am h0]at this;exact this
  have hL:J6 x p=[]:=by unfold J6;rw[Aw h0]
  refine Ps lO Tryz.func61 rfl (Nz rfl) ?_;refine Yi (Nz rfl) ?_;refine Xi .pure (Xi _ (Yi (TH) ?_));refine Yi (Nz rfl) ?_;refine Xi ⟨[(1,vs p),(5,.ref 5 0)],[(5,.cells [.cmap TL [],.cmap Dv []])],Aa⟩ (Yi ⟨Z2,Z1,Fh,Tv⟩ ?_)
  refine Xi ⟨[(1,vs p),(5,.ref 5 0),(7,.slice (.id 7 2) [])],[(5,.cells [.cmap TL [],.cmap Dv []]),(7,.tok 2 0)],Aa⟩ (Yi ⟨Z3,Z2,Fh,Tv⟩ ?_)
  refine Yi ?_ ?_
  ·intro a ha;cases ha
  ·intro _;refine Xi Unit (Xi (fun _=>⟨[(7,.slice (.id 7 2) []),(19,vi 0),(20,vi 0)],[(7,.tok 2 0)],Aa⟩) (Xi (fun _=>0) (Yi (Xi () ?_) ?_)))
   ·exact⟨Z3,Z1,Fh,Tv⟩
   intro _;refine Yi ?_ ?_
   ·intro h;exact absurd (show(0:Int)<0 from h) (by decide)
   intro _;refine Xi ⟨[(7,.slice (.id 7 2) [])],[(7,.tok 2 0)],Aa⟩ (Yi ⟨Z1,Z1,Fh,Tv⟩ ?_)
   have hc:PC 116 [sl Ap []] (sl Ap (canon [])):=WE [] (by unfold Cv;simp);refine Xi .pure (Xi _ (Yi (hc) ?_));exact .of_eq (show sl Ap (canon [])=sl Ap (BM x p) by unfold BM;rw[hL];rfl)
end Go.Eng

namespace Go.Eng
open Go.Proofs
theorem Nm(x:List Rl)(p:ByteArray):Cv (BM x p):=by
 unfold BM Cv
 have:=HS (Ci (((J6 x p).filter fun r=>!r.yanked).map fun r=>(plc r.ver,plc r.ver+1)));omega
theorem s7(x:List Rl)(ifs:List (List AV))(roots:List Rq)(TH:Yc x ifs):jc x ifs roots:=by
 intro d i;have h1:=po x ifs i.path TH;have h2:=mw i.path (BM x i.path) (Nm x i.path);refine BD (Iv (EL [2])) [(1000,1000),(1001,1001)] rfl BS hm rfl Tryz.func183 (by kernel_rfl) rfl (Nz rfl) (by kernel_rfl) rfl ?_;refine Yi (Nz rfl) ?_;refine Xi _ (Yi (h1) ?_);refine Xi _ (Yi (h2) ?_);refine Yi (by kernel_rfl) ?_;refine Xi ⟨[(6,sl AA (E5 i.path (BM x i.path)))],[(1000,Iu x ifs roots d),(1001,IE d)],Aa⟩ (Yi ⟨Z1,Z2,Fh,Aj (by kernel_rfl)⟩ ?_)
 refine Yi ?_ ?_
 ·intro h3;have h3:(0:Int)<((E5 i.path (BM x i.path)).map AA).length:=h3;have e:AV.tup [sl AA (E5 i.path (BM x i.path)),vb true]=LC (Ro (E5 i.path (BM x i.path))):=XJ h3;exact Xi _ (Yi (.refl _) (Yi e rfl))
 ·intro h3;have h3:¬(0:Int)<((E5 i.path (BM x i.path)).map AA).length:=h3;have e:AV.tup [sl AA (E5 i.path (BM x i.path)),vb false]=LC (Ro (E5 i.path (BM x i.path))):=ai h3;exact Xi _ (Yi (.refl _) (Yi e rfl))
end Go.Eng

namespace Go.Eng
open Go.Proofs
theorem zf(y:Sl)(q:Rq):PC 81 [.agg (Aq y),.cptr (Ah q)] (vb (decide (y.path=q.path))):=by
 refine Ps FC Tryz.func81 rfl (Nz rfl) ?_;refine Yi ?_ ?_
 ·intro h;have h:y.path=q.path:=h;exact .of_eq (Ae vb (AE h).symm)
 ·intro h;have h:¬y.path=q.path:=h;exact .of_eq (Ae vb (AD h).symm)
theorem zg(y:Sl)(p:ByteArray):PC 83 [.agg (Aq y),.cptr [vs p]] (vb (decide (y.path=p))):=by
 refine Ps FC Tryz.func83 rfl (Nz rfl) ?_;refine Yi ?_ ?_
 ·intro h;have h:y.path=p:=h;exact .of_eq (Ae vb (AE h).symm)
 ·intro h;have h:¬y.path=p:=h;exact .of_eq (Ae vb (AD h).symm)
end Go.Eng

namespace Go.Eng
open Go.Proofs
end Go.Eng

namespace Go.Eng
open Go.Proofs
end Go.Eng

namespace Go.Eng
open Go.Proofs
end Go.Eng

namespace Go.Eng
open Go.Proofs
theorem La:∀(y:List Rl) (acc:List ByteArray) (r:Rl),AO (y++[r]) acc=if(AO y acc).any (fun p=>decide (p=r.path))then AO y acc else AO y acc++[r.path]
 | [],acc,r=>rfl
 |s::y,acc,r=>by rw[Iq,AO,AO,La y]
theorem EK:∀(y:List Rl) (acc:List ByteArray),acc.Nodup→(AO y acc).Nodup
 | [],_,h=>h
 |s::y,acc,h=>by
  rw[AO];refine EK y _ ?_;split
  ·exact h
  ·rename_i hn;rw[Fz];refine⟨h,by simp,fun a ha b hb e=>?_⟩;rw[Ai]at hb;exact hn (N6.2 (by rw[←hb,←e];exact ha))
abbrev Ng(y:List Rl)(p:ByteArray):List (List AV):=(y.filter fun r=>decide (r.path=p)).map A5
abbrev eZ(y:List Rl)(q:ByteArray×Nat):Value×AV:=(.string q.1,.slice (.id (q.2+50) 9) (Ng y q.1))
abbrev Rd(y:List Rl):List (Value×AV):=(AO y []).zipIdx.map (eZ y)
def Jq(y:List Rl)(l:Nat):HO:=match(AO y [])[l]? with
 |some q=>.tok 9 (Ng y q).length
 |none=>.free
def UI(y:List Rl)(j:Nat):HO:=bif Nat.ble 50 j then Jq y (j-50)else .free
theorem Hv(y:List Rl)(l:Nat):UI y (l+50)=Jq y l:=by
 unfold UI;rw[show Nat.ble 50 (l+50)=true by rw[C3];omega,Nat.add_sub_cancel];rfl
theorem mV(y:List Rl){j:Nat}(h:j<50):UI y j=.free:=by
 unfold UI;rw[show Nat.ble 50 j=false by rw[AL];intro hc;rw[C3]at hc;omega];rfl
theorem Im(y:List Rl)(r:Rl)(q:ByteArray):Ng (y++[r]) q=if r.path=q then Ng y q++[A5 r]else Ng y q:=by
 unfold Ng;rw[EZ]
 by_cases h:r.path=q
 ·rw[Aw h,RF (by simpa using h)];simp
 ·rw[Am h,RE (by simpa using h)];simp
theorem H7{l:List ByteArray}{q:ByteArray×Nat}(h:q∈l.zipIdx):l[q.2]?=some q.1:=by
 obtain⟨a,b⟩:=q;exact FH.1 h
open Classical in
theorem Md{B5:List (Value×AV)}{k:Value}{a:AV}(h:∀a',(k,a')∉B5):E1 B5 k a=B5++[(k,a)]:=by
 unfold E1;rw[Am (fun⟨a',h'⟩=>h a' h')]
open Classical in
theorem XI{B5:List (Value×AV)}{k:Value}{a a' : AV}(h:(k,a')∈B5):E1 B5 k a=B5.map fun p=>if p.1=k then(k,a)else p:=by
 unfold E1;rw[Aw ⟨a',h⟩]
section
variable {y:List Rl}{r:Rl}{k:Nat}
theorem I6(h:(AO y [])[k]?=some r.path):AO (y++[r]) []=AO y []:=by
 rw[La,Aw (N6.2 (Av h))]
theorem I5(h:r.path∉AO y []):AO (y++[r]) []=AO y []++[r.path]:=by
 rw[La,Am (fun hc=>h (N6.1 hc))]
theorem I3{l:List ByteArray}(hd:l.Nodup){i j:Nat}{p:ByteArray}(h1:l[i]?=some p)(h2:l[j]?=some p):i=j:=by
 obtain⟨a1,a2⟩:=At.1 h1;obtain⟨b1,b2⟩:=At.1 h2;exact(List.getElem_inj hd).1 (a2.trans b2.symm)
open Classical in
theorem jD(h:(AO y [])[k]?=some r.path):E1 (Rd y) (.string r.path) (.slice (.id (k+50) 9) (Ng y r.path++[A5 r]))=Rd (y++[r]):=by
 have hd:=EK y [] Fd;have hm:eZ y (r.path,k)∈Rd y:=Ao.2 ⟨_,FH.2 h,rfl⟩;rw[XI (a':=.slice (.id (k+50) 9) (Ng y r.path)) hm];unfold Rd;rw[I6 h,BW];refine Be fun q hq=>?_;have hg:=H7 hq;obtain⟨q,j⟩:=q;show(if Value.string q=Value.string r.path then _ else _)=eZ (y++[r]) (q,j);have hg:(AO y [])[j]?=some q:=hg
 by_cases he:q=r.path
 ·subst he
  have:j=k:=I3 hd hg h
  subst this;rw[Aw rfl];show _=(Value.string r.path,AV.slice (.id (j+50) 9) (Ng (y++[r]) r.path));rw[Im,Aw rfl]
 ·rw[Am (fun e=>he (by simpa using e))];show(Value.string q,AV.slice (.id (j+50) 9) (Ng y q))=(Value.string q,AV.slice (.id (j+50) 9) (Ng (y++[r]) q));rw[Im,Am (fun e=>he e.symm)]
theorem ao(h:r.path∉AO y []):Ng y r.path=[]:=by
 have:y.filter (fun s=>decide (s.path=r.path))=[]:=by
  rw[Hf];intro s hs he;exact h ((Hc y [] r.path).2 (.inr ⟨s,hs,CB he⟩))
 unfold Ng;rw[this];rfl
theorem W6(h:r.path∉AO y [])(a:AV):(Value.string r.path,a)∉Rd y:=by
 intro hc;obtain⟨q,h1,h2⟩:=Ao.1 hc;simp only[eZ,FP,Value.string.injEq]at h2;exact h (by rw[←h2.1];exact Av (H7 h1))
theorem jC(h:r.path∉AO y []):E1 (Rd y) (.string r.path) (.slice (.id ((AO y []).length+50) 9) [A5 r])=Rd (y++[r]):=by
 rw[Md (fun a=>W6 h a)];unfold Rd;rw[I5 h,List.zipIdx_append,AB]
 congr 1
 ·refine Be fun q hq=>?_;have hg:=H7 hq
  have:q.1≠r.path:=fun e=>h (by rw[←e];exact Av hg)
  show(Value.string q.1,AV.slice (.id (q.2+50) 9) (Ng y q.1))=(Value.string q.1,AV.slice (.id (q.2+50) 9) (Ng (y++[r]) q.1));rw[Im,Am (fun e=>this e.symm)]
 ·show [_]=[(Value.string r.path,AV.slice (.id (0+(AO y []).length+50) 9) (Ng (y++[r]) r.path))];rw[Im,Aw rfl,ao h,Bd];rfl
theorem fe{p:ByteArray}{j:Nat}(h:(AO y [])[j]?=some p):(Value.string p,AV.slice (.id (j+50) 9) (Ng y p))∈Rd y∧∀b,(Value.string p,b)∈Rd y→b=AV.slice (.id (j+50) 9) (Ng y p):=by
 refine⟨Ao.2 ⟨(p,j),FH.2 h,rfl⟩,fun b hb=>?_⟩;obtain⟨q,h1,h2⟩:=Ao.1 hb;simp only[eZ,FP,Value.string.injEq]at h2;have hg:=H7 h1;rw[h2.1]at hg
 have:=I3 (EK y [] Fd) hg h
 rw[←h2.2,h2.1,this]
theorem iC{p:ByteArray}{j:Nat}(h:(AO y [])[j]?=some p):Jq y j=.tok 9 (Ng y p).length:=by
 unfold Jq;rw[h]
theorem ld(h:(AO y [])[k]?=some r.path)(l:Nat):(bif Nat.beq (l+50) (k+50)then HO.tok 9 ((Ng y r.path).length+1)else Jq y l)=Jq (y++[r]) l:=by
 by_cases he:l=k
 ·subst he;rw[show Nat.beq (l+50) (l+50)=true from CU _];unfold Jq;rw[I6 h,h];show HO.tok 9 _=HO.tok 9 (Ng (y++[r]) r.path).length;rw[Im,Aw rfl,Ac];rfl
 ·rw[show Nat.beq (l+50) (k+50)=false by rw[AL];intro hc;have:=AR hc;omega];show Jq y l=_;unfold Jq;rw[I6 h];cases hq:(AO y [])[l]? with
  |none=>rfl
  |some q =>
   show HO.tok 9 (Ng y q).length=HO.tok 9 (Ng (y++[r]) q).length;rw[Im,Am];intro e;subst e;exact he (I3 (EK y [] Fd) hq h)
theorem lc(h:r.path∉AO y [])(l:Nat):(bif Nat.beq (l+50) ((AO y []).length+50)then HO.tok 9 1 else Jq y l)=Jq (y++[r]) l:=by
 by_cases he:l=(AO y []).length
 ·subst he;rw[show Nat.beq ((AO y []).length+50) ((AO y []).length+50)=true from CU _];unfold Jq;rw[I5 h];simp only[A3 (Ak _),Is,Bi];show HO.tok 9 1=HO.tok 9 (Ng (y++[r]) r.path).length;rw[Im,Aw rfl,ao h];rfl
 ·rw[show Nat.beq (l+50) ((AO y []).length+50)=false by rw[AL];intro hc;have:=AR hc;omega];show Jq y l=_;unfold Jq;rw[I5 h]
  by_cases hl:l<(AO y []).length
  ·rw[AX hl,Ge hl];show HO.tok 9 (Ng y (AO y [])[l]).length=HO.tok 9 (Ng (y++[r]) (AO y [])[l]).length;rw[Im,Am];intro e;exact h (by rw[e];exact AC hl)
  ·rw[AZ (by omega),AZ (by rw[Ac];simp;omega)]
end
theorem Pu{h:Nat→HO}:∀{B5:List (Value×AV)},(∀p∈B5,VW h p.2=true)→Qu h B5=true
 | [],_=>rfl
 |p::r,hk=>by
  unfold Qu;rw[hk p (Ab ..)];exact Pu (fun q hq=>hk q (Ag _ hq))
theorem K4(y:List Rl){h:Nat→HO}(hh:∀l,h (l+50)=Jq y l):Qu h (Rd y)=true:=by
 refine Pu fun p hp=>?_;obtain⟨q,h1,rfl⟩:=Ao.1 hp;show QW h (q.2+50)=true;unfold QW;rw[hh,iC (H7 h1)]
theorem Jd{y:List Rl}{h h' : Nat→HO}(hh:∀l,h (l+50)=Jq y l)(j:Nat):UI y j=.free∨(h j=UI y j∧Xp h' (UI y j)=true):=by
 by_cases hj:j<50
 ·exact .inl (mV y hj)
 ·obtain⟨l,rfl⟩:∃l,j=l+50:=⟨j-50,by omega⟩
  right
  rw[Hv];refine⟨hh l,?_⟩;unfold Jq;cases (AO y [])[l]?<;>rfl
theorem kP{x:List Rl}(hx:A6 x=0){i:Nat}(hi:i<x.length):E1 ((x.take i).map SN) (Qx (Gi x[i])) (.agg (A5 x[i]))=(x.take (i+1)).map SN:=by
 rw[Md]
 ·rw[Bk,Ge hi,AB];rfl
 intro a ha;obtain⟨r,hr,he,_⟩:=Z0 ha;obtain⟨j,hj,e2⟩:=DP.1 hr;rw[AN]at hj;rw[List.getElem_take]at e2;have hp:=(Cj hx).2
 have:=(Bb.1 hp) j i (by omega) hi (by omega)
 rw[e2]at this;exact Ji this he
abbrev rf:O3:=⟨[],[],[],[],[8,9],[9],[40],[],[],[],[8,9,10,11]⟩
abbrev zT:List AV:=[.v (.map none),.v (.map none)]
theorem jp(x:List Rl)(ifs:List (List AV))(mO:PC 59 [MQ x ifs] (vi (A6 x)))(h0:A6 x≠0):Yc x ifs:=by
 have ht:Wf x=.tup [.agg [.cmap TL [],.cmap Dv []],vi (A6 x)]:=by unfold Wf;rw[Am h0]
 unfold Yc;rw[ht];refine Ps rf Tryz.func95 rfl (Nz rfl) ?_;refine Xi 0 ?_;refine Xi 0 ?_;refine Yi (Nz rfl) ?_;refine Xi 0 ?_;refine Yi (Nz rfl) ?_;refine Xi .pure (Xi _ (Yi (mO) ?_));refine Xi 0 ?_;refine Yi ?_ ?_
 ·intro _;refine Xi 0 ?_;refine Yi (Nz rfl) ?_;refine Yi (Nz rfl) ?_;refine Yi (Nz rfl) ?_;exact .refl _
 ·intro h;exact absurd h (fun hc=>hc h0)
theorem Hb:∀(y:List Rl) (acc:List ByteArray),(AO y acc).length≤acc.length+y.length
 | [],acc=>by simp[AO]
 |r::y,acc=>by
  rw[AO];refine Bh (Hb y _) ?_;split
  ·simp only[Al];omega
  ·simp only[Ac,Al,Ar];omega
section
attribute [local irreducible] H2
theorem mE(x:List Rl)(ifs:List (List AV))(mO:PC 59 [MQ x ifs] (vi (A6 x)))(h0:A6 x=0)(CM:x.length≤256):Yc x ifs:=by
 have ht:Wf x=.tup [.agg [.cmap TL (x.map SN),.cmap Dv ((AO x []).map (iW x))],vi 0]:=by unfold Wf;rw[Aw h0]
 unfold Yc;rw[ht];rw[h0]at mO;refine Ps rf Tryz.func95 rfl (Nz rfl) ?_;refine Xi 0 ?_;refine Xi 0 ?_;refine Yi (Nz rfl) ?_;refine Xi 0 ?_;refine Yi (Nz rfl) ?_;refine Xi .pure (Xi _ (Yi (mO) ?_));refine Xi 0 ?_;refine Yi ?_ ?_
 ·intro hc;exact absurd (show(0:Int)≠0 from hc) (by decide)
 intro _;refine Xi 0 ?_;refine Xi {i:Nat // i≤x.length} (Xi (fun i=>⟨[(2,.ref 2 0),(4,.ref 4 0),(18,sl A5 x),(19,vi (x.map A5).length),(20,vi i.1)],[(2,.cells zT),(4,.cells [.mref 8,.mref 9]),(8,.map TL ((x.take i.1).map SN)),(9,.mapU Dv (Rd (x.take i.1)))],UI (x.take i.1)⟩) (Xi (fun i=>x.length-i.1) (Yi (Xi ⟨0,AS _⟩ ?_) ?_)))
 ·refine⟨Z5,Z4,fun j=>.inl ?_,Tv⟩;show UI [] j=.free;unfold UI;cases Nat.ble 50 j<;>rfl
 intro⟨i,i1⟩;have i1:i≤x.length:=i1;refine Xi 0 ?_;refine Yi ?_ ?_
 ·intro h;have h:(i:Int)<(x.map A5).length:=h;have h:i<x.length:=by simpa using h
  have hg:x[i]?=some x[i]:=Ge h;have Kv:x.take (i+1)=x.take i++[x[i]]:=by rw[Bk,hg];rfl
  refine Xi 0 ?_;refine Xi (A5 x[i]) (Yi (Yi (Nn i) (by simp[hg])) (Yi rfl ?_));refine Yi (Nz rfl) (Yi (Nz rfl) ?_);refine Xi ⟨[(2,.ref 2 0),(4,.ref 4 0),(7,.ref 7 0),(18,sl A5 x),(19,vi (x.map A5).length),(20,vi i)],[(2,.cells zT),(4,.cells [.mref 8,.mref 9]),(7,.cells (A5 x[i])),(8,.map TL ((x.take i).map SN)),(9,.mapU Dv (Rd (x.take i)))],UI (x.take i)⟩ (Yi ?_ ?_)
  ·exact⟨Z6,⟨Zr,Zr,Zr,Zr,⟨rfl,K4 _ (Hv _)⟩,Tv⟩,Jd (Hv _),Tv⟩
  refine Xi 0 ?_;refine Yi (Nz rfl) ?_;refine Xi _ (Yi (mj x[i]) ?_);refine Yi (Nz rfl) ?_;refine Yi (by kernel_rfl) ?_;have e8:E1 ((x.take i).map SN) (Qx (Gi x[i])) (.agg (A5 x[i]))=(x.take (i+1)).map SN:=kP h0 h;refine Xi ⟨[(2,.ref 2 0),(4,.ref 4 0),(7,.ref 7 0),(18,sl A5 x),(19,vi (x.map A5).length),(20,vi i)],[(2,.cells zT),(4,.cells [.mref 8,.mref 9]),(7,.cells (A5 x[i])),(8,.map TL ((x.take (i+1)).map SN)),(9,.mapU Dv (Rd (x.take i)))],UI (x.take i)⟩ (Yi ?_ ?_)
  ·exact⟨Z6,⟨Zr,Zr,Zr,⟨Ae (HO.map TL) e8,rfl⟩,⟨rfl,K4 _ (Hv _)⟩,Tv⟩,Jd (Hv _),Tv⟩
  have hL:((x.take i).filter (fun r=>decide (r.path=x[i].path))).length≤256:=by
   have:=By (fun r:Rl=>decide (r.path=x[i].path)) (x.take i)
   rw[AN]at this;omega
  have hP:∀l,UI (x.take i) (l+50)=Jq (x.take i) l:=Hv _;refine Cy (Classical.em (x[i].path∈AO (x.take i) [])) (fun hp=>?_) (fun hp=>?_)
  ·refine BC (Cb.1 hp) (fun k hk=>?_);have hu:=fe hk;refine Xi 0 ?_;refine Or.inl (Xi (.slice (.id (k+50) 9) (Ng (x.take i) x[i].path)) (Yi hu ?_));refine Yi (Nz rfl) ?_;have hr:UI (x.take i) (k+50)=.tok 9 (Ng (x.take i) x[i].path).length:=by rw[hP,iC hk]
   have hl:(Ng (x.take i) x[i].path).length≤256:=by rw[Lm];exact hL
   refine Qj (e:=67) (m:=8) (es2:=[A5 x[i]]) rfl rfl rfl (fun _ h=>h) hr ⟨rfl,trivial⟩ (by show(_+1)*120≤_;omega) (by show _+1≤_;omega) ?_;have qs:k<256:=by
    have:=(At.1 hk).1
    have:=Hb (x.take i) []
    rw[AN]at this;simp only[Ar]at this;omega
   have ng:=hk;refine Yi (IR ⟨AY _,AY _,AY _,AY _,AY _,AY _,AY _,AY _,AY _,AY _,D3 (show 39<10000000 by decide),D3 (by show _+50<10000000;omega),D3 (show 9<10000000 by decide),trivial⟩ (by kernel_rfl)) ?_;have e9:E1 (Rd (x.take i)) (.string x[i].path) (.slice (.id (k+50) 9) (Ng (x.take i) x[i].path++[A5 x[i]]))=Rd (x.take (i+1)):=by rw[Kv];exact jD ng
   have hG:∀l,(bif Nat.beq (l+50) (k+50)then HO.tok 9 ((Ng (x.take i) x[i].path).length+1)else Jq (x.take i) l)=Jq (x.take (i+1)) l:=by rw[Kv];exact ld ng
   refine Xi ⟨[(2,.ref 2 0),(4,.ref 4 0),(18,sl A5 x),(19,vi (x.map A5).length),(20,vi i)],[(2,.cells zT),(4,.cells [.mref 8,.mref 9]),(8,.map TL ((x.take (i+1)).map SN)),(9,.mapU Dv (Rd (x.take (i+1))))],UI (x.take (i+1))⟩ (Yi ?_ ?_)
   ·refine⟨Z5,⟨Zr,Zr,Zr,⟨Ae (HO.mapU Dv) e9,K4 _ (Hv _)⟩,Tv⟩,Jd (fun l=>?_),Tv⟩;show(bif Nat.beq (l+50) (k+50)then HO.tok 9 ((Ng (x.take i) x[i].path).length+1)else UI (x.take i) (l+50))=_;rw[hP];exact hG l
   refine Xi 0 ?_;refine Yi (Ii i (by omega)) ?_;refine Xi ⟨i+1,by omega⟩ ?_;exact⟨Dl x.length i (by omega),Z5,⟨Zr,Zr,Zr,⟨rfl,K4 _ (Hv _)⟩,Tv⟩,Jd (Hv _),Tv⟩
  ·have ng:=hp;have SD:(AO (x.take i) []).length≤256:=by
    have:=Hb (x.take i) []
    rw[AN]at this;simp only[Ar]at this;omega
   have hn:=W6 hp;refine Xi ((AO (x.take i) []).length+50) ?_;refine Or.inr (Yi hn ?_);refine Yi (Nz rfl) ?_;have hr:UI (x.take i) ((AO (x.take i) []).length+50)=.free:=by
    rw[hP];unfold Jq;rw[AZ (Ak _)]
   refine Qi (e:=67) (m:=8) (es2:=[A5 x[i]]) rfl rfl rfl (fun _ h=>h) hr rfl ⟨rfl,trivial⟩ (by show 1*120≤_;omega) (by show 1≤_;omega) ?_;refine Yi (IR ⟨AY _,AY _,AY _,AY _,AY _,AY _,AY _,AY _,AY _,AY _,D3 (show 39<10000000 by decide),D3 (by show _+50<10000000;omega),D3 (show 9<10000000 by decide),trivial⟩ (by kernel_rfl)) ?_;have e9:E1 (Rd (x.take i)) (.string x[i].path) (.slice (.id ((AO (x.take i) []).length+50) 9) [A5 x[i]])=Rd (x.take (i+1)):=by rw[Kv];exact jC ng
   have hG:∀l,(bif Nat.beq (l+50) ((AO (x.take i) []).length+50)then HO.tok 9 1 else Jq (x.take i) l)=Jq (x.take (i+1)) l:=by rw[Kv];exact lc ng
   refine Xi ⟨[(2,.ref 2 0),(4,.ref 4 0),(18,sl A5 x),(19,vi (x.map A5).length),(20,vi i)],[(2,.cells zT),(4,.cells [.mref 8,.mref 9]),(8,.map TL ((x.take (i+1)).map SN)),(9,.mapU Dv (Rd (x.take (i+1))))],UI (x.take (i+1))⟩ (Yi ?_ ?_)
   ·refine⟨Z5,⟨Zr,Zr,Zr,⟨Ae (HO.mapU Dv) e9,K4 _ (Hv _)⟩,Tv⟩,Jd (fun l=>?_),Tv⟩;show(bif Nat.beq (l+50) ((AO (x.take i) []).length+50)then HO.tok 9 1 else UI (x.take i) (l+50))=_;rw[hP];exact hG l
   refine Xi 0 ?_;refine Yi (Ii i (by omega)) ?_;refine Xi ⟨i+1,by omega⟩ ?_;exact⟨Dl x.length i (by omega),Z5,⟨Zr,Zr,Zr,⟨rfl,K4 _ (Hv _)⟩,Tv⟩,Jd (Hv _),Tv⟩
 ·intro h;have h:¬(i:Int)<(x.map A5).length:=h;have h:¬i<x.length:=by simpa using h
  have et:x.take i=x:=AI (by omega);refine Xi ⟨[(2,.ref 2 0),(4,.ref 4 0)],[(2,.cells zT),(4,.cells [.mref 8,.mref 9]),(8,.map TL ((x.take i).map SN)),(9,.mapU Dv (Rd (x.take i)))],UI (x.take i)⟩ (Yi ?_ ?_)
  ·exact⟨Z2,⟨Zr,Zr,Zr,⟨rfl,K4 _ (Hv _)⟩,Tv⟩,Jd (Hv _),Tv⟩
  refine Xi 0 ?_;refine Yi (Nz rfl) ?_;refine Yi (Nz rfl) ?_;refine Yi (Nz rfl) ?_;have es:∀h:Nat→HO,Ra h (Rd (x.take i))=(AO x []).map (iW x):=fun h=>by
   rw[et];unfold Ra Rd;rw[BW];refine Dc fun j=>?_;rw[AH,AH,List.getElem?_zipIdx];cases (AO x [])[j]?<;>rfl
  have e1:(x.take i).map SN=x.map SN:=by rw[et]
  exact .of_eq (show AV.tup [.agg [.cmap TL ((x.take i).map SN),.cmap Dv (Ra _ (Rd (x.take i)))],vi 0]=_ by rw[e1,es])
end
theorem c84(x:List Rl)(ifs:List (List AV))(hx:∀r∈x,Io r):Yc x ifs:=by
 by_cases h0:A6 x=0
 ·exact mE x ifs (rT bj x ifs hx) h0 (Iz h0).1
 ·exact jp x ifs (rT bj x ifs hx) h0
end Go.Eng

namespace Go.Eng
open Go.Proofs
abbrev rg(n:Nat):O3:=⟨[],[(2,n)],[],[],[],[],[5],[],[],[],[2,3]⟩
theorem pE(l:List Rq)(hl:Cv l):Bn Tryz.prog 25 [sl Ah l] (Ad [] Aa) fun r h'=>r=.slice (.id 2000 2) (l.map Ah)∧h'=Ad [(2000,.tok 2 (l.map Ah).length)] Aa:=by
 refine BD (Iv (rg 2)) [(2,2000)] rfl BS hm rfl Tryz.func25 (by kernel_rfl) rfl (Nz rfl) (by kernel_rfl) rfl ?_;have Ei:BY 2 (l.map Ah)∧([]:List (List AV)).length=0∧(([]:List (List AV)).length+(l.map Ah).length)*40≤140737488355328∧([]:List (List AV)).length+(l.map Ah).length≤9223372036854775807:=by
  refine⟨Es (enc:=Ah) (n:=2) (fun _=>rfl) l,rfl,?_,?_⟩<;>simp only[Ar,Lm]<;>unfold Cv at hl<;>omega
 have e2:HO.tok 2 (([]:List (List AV)).length+(l.map Ah).length)=.tok 2 (l.map Ah).length:=by rw[Ar,Bd]
 have e3:AV.slice (.id 2000 2) ([]++l.map Ah)=.slice (.id 2000 2) (l.map Ah):=rfl;have full:∀st:St,(∃s:LS,St.le (Iv (rg 2)) st s∧True)→True:=fun _ _=>trivial;refine Xi 0 ?_;refine Xi 0 ?_;refine Yi ?_ ?_
 ·intro _;refine Xi ⟨[(0,sl Ah l)],[],Aa⟩ (Yi ⟨Z1,Tv,Fh,Aj (by kernel_rfl)⟩ ?_)
  refine Xi 2 ?_;refine Yi Ei ?_;exact Xi _ (Yi (.refl _) (Yi e3 (Ae (fun o=>Ad [(2000,o)] Aa) e2)))
 ·intro h;have h:l.map Ah=[]:=h;refine Yi ?_ ?_
  ·refine Xi ⟨[],[],Aa⟩ (Yi ⟨trivial,trivial,fun _=>.inl rfl,Aj (by kernel_rfl)⟩ ?_)
   refine Xi 0 ?_;exact Xi _ (Yi (.refl _) (Yi (show AV.slice (.id 2000 2) []=_ by rw[h]) (show Ad [(2000,HO.tok 2 0)] Aa=_ by rw[h];rfl)))
  ·refine Xi ⟨[(0,sl Ah l)],[],Aa⟩ (Yi ⟨Z1,Tv,Fh,Aj (by kernel_rfl)⟩ ?_)
   refine Xi 2 ?_;refine Yi Ei ?_;exact Xi _ (Yi (.refl _) (Yi e3 (Ae (fun o=>Ad [(2000,o)] Aa) e2)))
end Go.Eng

namespace Go.Eng
open Go.Proofs
theorem py(l:List Sl)(hl:Cv l):Bn Tryz.prog 46 [sl Aq l] (Ad [] Aa) fun r h'=>r=.slice (.id 2000 4) (l.map Aq)∧h'=Ad [(2000,.tok 4 (l.map Aq).length)] Aa:=by
 refine BD (Iv (rg 4)) [(2,2000)] rfl BS hm rfl Tryz.func46 (by kernel_rfl) rfl (Nz rfl) (by kernel_rfl) rfl ?_;have Ei:BY 4 (l.map Aq)∧([]:List (List AV)).length=0∧(([]:List (List AV)).length+(l.map Aq).length)*40≤140737488355328∧([]:List (List AV)).length+(l.map Aq).length≤9223372036854775807:=by
  refine⟨Es (enc:=Aq) (n:=4) (fun _=>rfl) l,rfl,?_,?_⟩<;>simp only[Ar,Lm]<;>unfold Cv at hl<;>omega
 have e2:HO.tok 4 (([]:List (List AV)).length+(l.map Aq).length)=.tok 4 (l.map Aq).length:=by rw[Ar,Bd]
 have e3:AV.slice (.id 2000 4) ([]++l.map Aq)=.slice (.id 2000 4) (l.map Aq):=rfl;refine Xi 0 ?_;refine Xi 0 ?_;refine Yi ?_ ?_
 ·intro _;refine Xi ⟨[(0,sl Aq l)],[],Aa⟩ (Yi ⟨Z1,Tv,Fh,Aj (by kernel_rfl)⟩ ?_)
  refine Xi 2 ?_;refine Yi Ei ?_;exact Xi _ (Yi (.refl _) (Yi e3 (Ae (fun o=>Ad [(2000,o)] Aa) e2)))
 ·intro h;have h:l.map Aq=[]:=h;refine Yi ?_ ?_
  ·refine Xi ⟨[],[],Aa⟩ (Yi ⟨trivial,trivial,fun _=>.inl rfl,Aj (by kernel_rfl)⟩ ?_)
   refine Xi 0 ?_;exact Xi _ (Yi (.refl _) (Yi (show AV.slice (.id 2000 4) []=_ by rw[h]) (show Ad [(2000,HO.tok 4 0)] Aa=_ by rw[h];rfl)))
  ·refine Xi ⟨[(0,sl Aq l)],[],Aa⟩ (Yi ⟨Z1,Tv,Fh,Aj (by kernel_rfl)⟩ ?_)
   refine Xi 2 ?_;refine Yi Ei ?_;exact Xi _ (Yi (.refl _) (Yi e3 (Ae (fun o=>Ad [(2000,o)] Aa) e2)))
end Go.Eng

namespace Go.Eng
open Go.Proofs
abbrev Bx(p:ByteArray):List AV:=[vs p]
abbrev dH(l:List ByteArray):List (Nat×HO):=[(1000,.cells [.slice (.id 1001 1) (l.map Bx)]),(1001,.tok 1 (l.map Bx).length)]
theorem y6(l:List ByteArray)(before:List Sl)(needs:List Rq)(r:Rl)(hl:l.length≤100000) :
  Bn Tryz.prog 43 [sl Aq before,sl Ah needs,.agg (A5 r),.ref 1000 0] (Ad (dH l) Aa) fun v h'=>v=.tup []∧h'=Ad (dH (l++[r.path])) Aa:=by
 refine BD (Iv FC) [(1000,1000),(1001,1001)] rfl BS hm rfl Tryz.func43 (by kernel_rfl) rfl (Nz rfl) (by kernel_rfl) rfl ?_;have Ei:BY 1 [[vs r.path]]∧(l.map Bx).length=(l.map Bx).length∧((l.map Bx).length+[[vs r.path]].length)*16≤140737488355328∧(l.map Bx).length+[[vs r.path]].length≤9223372036854775807 :=
  ⟨⟨rfl,trivial⟩,rfl,by rw[Lm,As];omega,by rw[Lm,As];omega⟩
 refine Yi Ei ?_;refine Yi (Nz rfl) ?_;refine Xi _ (Yi (.refl _) (Yi rfl ?_));have e:(l++[r.path]).map Bx=l.map Bx++[[vs r.path]]:=by rw[AB];rfl
 have e2:Ad (dH (l++[r.path])) Aa=Ad [(1000,.cells [.slice (.id 1001 1) (l.map Bx++[[vs r.path]])]),(1001,.tok 1 ((l.map Bx).length+[[vs r.path]].length))] Aa:=by
  unfold dH;rw[e,Ac]
 exact Eq.trans rfl e2.symm
end Go.Eng

namespace Go.Eng
open Go.Proofs
def DJ(before:List Sl)(acc:Option ByteArray)(q:Rq):Option ByteArray:=if Co before q.path then acc else match acc with
  |none=>some q.path
  |some p=>if FV q.path p then some q.path else some p
theorem Nc(before:List Sl):∀(a b:List Rq) (acc:Option ByteArray),CG before (a++b) acc=CG before b (CG before a acc)
 | [],_,_=>rfl
 |q::a,b,acc=>Nc before a b (if Co before q.path then acc else match acc with |none=>some q.path |some p=>if FV q.path p then some q.path else some p)
abbrev H6(l:List ByteArray)(v:lZ):List ByteArray:=l++[v.rel.path]
theorem XM(before:List Sl)(l:List Rq)(acc:Option ByteArray){j:Nat}(h:j<l.length):CG before (l.take (j+1)) acc=DJ before (CG before (l.take j) acc) l[j]:=by
 rw[Bk,Ge h];show CG before (l.take j++[l[j]]) acc=_;rw[Nc];rfl
structure DI{S:Type}(x:List Rl)(roots:List Rq)(s:List Sl)(step:S→lZ→S)(Ry:S)(before:List Sl)(needs:List Rq)(n:Nat)(st:S):Prop where
 nd:(before.map (·.path)).Nodup
 sub:∀y∈before,y∈s
 fuel:before.length+n=s.length+1
 few:∀q∈needs,Cv q.set
 len:needs.length≤roots.length+16*before.length
 ok:(visits x roots s).2=(GZ x s n before needs).2
 fold:(visits x roots s).1.foldl step Ry=(GZ x s n before needs).1.foldl step st
section
variable {S:Type}{x:List Rl}{roots:List Rq}{s:List Sl}{step:S→lZ→S}{Ry:S}{before:List Sl}{needs:List Rq}{n:Nat}{st:S}
theorem DI.start(hq:∀q∈roots,Cv q.set)(Ry:S):DI x roots s step Ry [] roots (s.length+1) Ry :=
 ⟨by simp,fun _ h=>(by cases h),by simp,hq,by simp,rfl,rfl⟩
theorem DI.lt(h:DI x roots s step Ry before needs n st):before.length≤s.length:=by
 have:=GV (m:=s.map (·.path)) h.nd fun p hp=>by
  obtain⟨y,hy,e⟩:=Ao.1 hp;exact Ao.2 ⟨y,h.sub y hy,e⟩
 simpa using this
theorem DI.pos(h:DI x roots s step Ry before needs n st):∃m,n=m+1:=by
 have:=h.lt
 have:=h.fuel
 exact⟨n-1,by omega⟩
theorem DI.stop{m:Nat}(h:DI x roots s step Ry before needs (m+1) st)(hp:Gt needs before=none):(visits x roots s).2=true∧(visits x roots s).1.foldl step Ry=st:=by
 have h1:=h.ok;have h2:=h.fold;unfold GZ at h1 h2;rw[hp]at h1 h2;exact⟨h1,h2⟩
theorem DI.lost{m:Nat}(h:DI x roots s step Ry before needs (m+1) st){p:ByteArray}(hp:Gt needs before=some p)(hf:BV s p=none):(visits x roots s).2=false∧(visits x roots s).1.foldl step Ry=st:=by
 have h1:=h.ok;have h2:=h.fold;unfold GZ at h1 h2;rw[hp]at h1 h2;simp only[hf]at h1 h2;exact⟨h1,h2⟩
theorem DI.gone{m:Nat}(h:DI x roots s step Ry before needs (m+1) st){p:ByteArray}{y:Sl}(hp:Gt needs before=some p)(hf:BV s p=some y)(hr:Ej x y=none):(visits x roots s).2=false∧(visits x roots s).1.foldl step Ry=st:=by
 have h1:=h.ok;have h2:=h.fold;unfold GZ at h1 h2;rw[hp]at h1 h2;simp only[hf,hr]at h1 h2;exact⟨h1,h2⟩
theorem DI.next{m:Nat}(h:DI x roots s step Ry before needs (m+1) st){p:ByteArray}{y:Sl}{r:Rl}(hp:Gt needs before=some p)(hf:BV s p=some y)(hr:Ej x y=some r)(hl:r.reqs.length≤16)(hq:∀q∈r.reqs,Cv q.set) :
  DI x roots s step Ry (before++[y]) (needs++r.reqs) m (step st ⟨before,needs,r⟩):=by
 have h1:=h.ok;have h2:=h.fold;unfold GZ at h1 h2;rw[hp]at h1 h2;simp only[hf,hr]at h1 h2;obtain⟨g1,g2⟩:=NJ hp;have hy:=HU hf;have qQ:=JG hf;refine⟨?_,fun z hz=>?_,?_,fun q qG=>?_,?_,h1,h2⟩
 ·rw[AB,Fz];refine⟨h.nd,by simp,fun a ha b hb=>?_⟩;have hb:b=y.path:=by simpa using hb
  intro e;subst e
  have:=Gq.2 ha
  rw[hb,qQ,g1]at this;cases this
 ·rcases A2.1 hz with hz | hz
  ·exact h.sub z hz
  ·rw[Ai.1 hz];exact hy
 ·have:=h.fuel;rw[Ac,As];omega
 ·rcases A2.1 qG with qG | qG
  ·exact h.few q qG
  ·exact hq q qG
 ·have:=h.len;rw[Ac,Ac,As];omega
end
theorem bX(s:List Sl)(p:ByteArray):(Jz (fun y:Sl=>decide (y.path=p)) s 0=-1∧BV s p=none)∨∃i y,Jz (fun y:Sl=>decide (y.path=p)) s 0=(i:Nat)∧s[i]?=some y∧BV s p=some y:=by
 rcases L7 (p:=fun y:Sl=>decide (y.path=p)) s 0 with h | ⟨i,y,h1,h2,h3⟩
 ·exact .inl h
 ·exact .inr ⟨i,y,by omega,h2,h3⟩
abbrev vP:O3:=⟨[12],[(8,4)],[],[(49,[9])],[],[],[],[],[],[],[3,8,9,11,12,14,15,17,18,20,21]⟩
theorem tE(x:List Rl)(ifs:List (List AV))(roots:List Rq)(d:List (List Tm))(s:List Sl)  (Ry:List ByteArray) (TH:Yc x ifs) (h0:A6 x=0) (hx:∀r∈x,Io r) (hrl:roots.length≤1000) (qL:∀q∈roots,Cv q.set) (hs:s.length≤500) (vv:Ry.length=0) :
  Bn Tryz.prog 42 [.cptr (Gp x (.slice .none ifs) roots d),sl Aq s,.clo 43 [.ref 1000 0]] (Ad (dH Ry) Aa) fun r h'=>r=vb (visits x roots s).2∧h'=Ad (dH ((visits x roots s).1.foldl (H6) Ry)) Aa:=by
 have kb:=(Iz h0).2;have hrf:Cv roots:=by unfold Cv;omega
 refine BD (Iv vP) [(1000,1000),(1001,1001)] rfl BS hm rfl Tryz.func42 (by kernel_rfl) rfl (Nz rfl) (by kernel_rfl) rfl ?_;refine Xi (.gen [] 1) (Yi rfl ((pE roots hrf).imp ?_));intro v g q;have q1:=q.1;have q2:=q.2;subst q1;subst q2
 clear q
 refine Xi {p:List Sl×List Rq×Nat×List ByteArray // DI x roots s (H6) Ry p.1 p.2.1 p.2.2.1 p.2.2.2∧p.2.2.2.length=p.1.length} (Xi (fun p=>⟨[(0,.cptr (Gp x (.slice .none ifs) roots d)),(1,sl Aq s),(2,.clo 43 [.ref 1000 0]),(7,.slice (.id 12100 2) (p.1.2.1.map Ah)),(8,.slice (.id 8 4) (p.1.1.map Aq))],[(8,.tok 4 (p.1.1.map Aq).length),(12100,.tok 2 (p.1.2.1.map Ah).length),(1000,.cells [.slice (.id 1001 1) (List.map Bx p.1.2.2.2)]),(1001,.tok 1 (List.map Bx p.1.2.2.2).length)],Aa⟩) (Xi (fun p=>p.1.2.2.1) (Yi (Xi ⟨([],roots,s.length+1,Ry),⟨DI.start qL Ry,vv⟩⟩ ?_) ?_)))
 ·exact⟨Z5,Z4,Fh,Aj (by kernel_rfl)⟩
 intro⟨⟨before,needs,n,st⟩,inv⟩;have ex:st.length=before.length:=inv.2;have inv:DI x roots s (H6) Ry before needs n st:=inv.1;refine BC inv.pos (fun m uR=>?_);have inv:DI x roots s (H6) Ry before needs (m+1) st:=uR▸inv;have zF:=inv.lt;have hnl:=inv.len;have xQ:Cv needs:=by unfold Cv;omega
 have zE:Cv before:=by unfold Cv;omega
 refine Xi ⟨[(0,.cptr (Gp x (.slice .none ifs) roots d)),(1,sl Aq s),(2,.clo 43 [.ref 1000 0]),(7,.slice (.id 12100 2) (needs.map Ah)),(8,.slice (.id 8 4) (before.map Aq))],[(8,.tok 4 (before.map Aq).length),(12100,.tok 2 (needs.map Ah).length),(1000,.cells [.slice (.id 1001 1) (List.map Bx st)]),(1001,.tok 1 (List.map Bx st).length)],Aa⟩ (Yi ⟨Z5,Z4,Fh,Aj (by kernel_rfl)⟩ ?_)
 refine Yi (Nz rfl) ?_;refine Xi {p:Nat×Option ByteArray // p.1≤needs.length∧p.2=CG before (needs.take p.1) none} (Xi (fun p=>⟨[(0,.cptr (Gp x (.slice .none ifs) roots d)),(1,sl Aq s),(2,.clo 43 [.ref 1000 0]),(7,.slice (.id 12100 2) (needs.map Ah)),(8,.slice (.id 8 4) (before.map Aq)),(9,.ref 9 0),(10,vb p.1.2.isSome),(22,.slice (.id 12100 2) (needs.map Ah)),(23,vi (needs.map Ah).length),(24,vi p.1.1)],[(8,.tok 4 (before.map Aq).length),(12100,.tok 2 (needs.map Ah).length),(1000,.cells [.slice (.id 1001 1) (List.map Bx st)]),(1001,.tok 1 (List.map Bx st).length),(9,.cells [vs (p.1.2.getD mt)])],Aa⟩) (Xi (fun p=>needs.length-p.1.1) (Yi (Xi ⟨(0,none),AS _,rfl⟩ ?_) ?_)))
 ·exact⟨Z10,Z5,Fh,Aj (by kernel_rfl)⟩
 intro⟨⟨j,acc⟩,j1,j2⟩;have j1:j≤needs.length:=j1;have j2:acc=CG before (needs.take j) none:=j2;refine Yi ?_ ?_
 ·intro h;have h:(j:Int)<(needs.map Ah).length:=h;have h:j<needs.length:=by simpa using h
  have hg:needs[j]?=some needs[j]:=Ge h;have jV:=XM before needs none h;rw[←j2]at jV;refine Xi (Ah needs[j]) (Yi (Yi (Nn j) (by simp[hg])) (Yi rfl ?_));refine Yi (Nz rfl) (Yi (Nz rfl) ?_);refine Xi ⟨[(0,.cptr (Gp x (.slice .none ifs) roots d)),(1,sl Aq s),(2,.clo 43 [.ref 1000 0]),(7,.slice (.id 12100 2) (needs.map Ah)),(8,.slice (.id 8 4) (before.map Aq)),(9,.ref 9 0),(10,vb acc.isSome),(12,.ref 12 0),(22,.slice (.id 12100 2) (needs.map Ah)),(23,vi (needs.map Ah).length),(24,vi j)],[(8,.tok 4 (before.map Aq).length),(12100,.tok 2 (needs.map Ah).length),(1000,.cells [.slice (.id 1001 1) (List.map Bx st)]),(1001,.tok 1 (List.map Bx st).length),(9,.cells [vs (acc.getD mt)]),(12,.ro (Ah needs[j]))],Aa⟩ (Yi ⟨Z11,Z6,Fh,Aj (by kernel_rfl)⟩ ?_)
  have YO:PC 80 [sl Aq before,.clo 81 [.cptr (Ah needs[j])]] (vb (Co before needs[j].path)):=xa (fF:=81) (caps:=[.cptr (Ah needs[j])]) (fun c hc=>by
   obtain rfl:=Ai.1 hc;intro h;rfl) before (fun y=>decide (y.path=needs[j].path)) (fun y _=>zf y needs[j]) zE
  refine Cy (Bt (Co before needs[j].path)) (fun hd=>?_) (fun hd=>?_)
  ·rw[hd]at YO;refine Xi .pure (Xi _ (Yi (YO) ?_));have FK:DJ before acc needs[j]=acc:=by unfold DJ;rw[Aw hd]
   refine Xi ⟨[(0,.cptr (Gp x (.slice .none ifs) roots d)),(1,sl Aq s),(2,.clo 43 [.ref 1000 0]),(7,.slice (.id 12100 2) (needs.map Ah)),(8,.slice (.id 8 4) (before.map Aq)),(9,.ref 9 0),(10,vb acc.isSome),(13,vb true),(22,.slice (.id 12100 2) (needs.map Ah)),(23,vi (needs.map Ah).length),(24,vi j)],[(8,.tok 4 (before.map Aq).length),(12100,.tok 2 (needs.map Ah).length),(1000,.cells [.slice (.id 1001 1) (List.map Bx st)]),(1001,.tok 1 (List.map Bx st).length),(9,.cells [vs (acc.getD mt)])],Aa⟩ (Yi ⟨Z11,Z5,Fh,Aj (by kernel_rfl)⟩ ?_)
   refine Xi ⟨[(0,.cptr (Gp x (.slice .none ifs) roots d)),(1,sl Aq s),(2,.clo 43 [.ref 1000 0]),(7,.slice (.id 12100 2) (needs.map Ah)),(8,.slice (.id 8 4) (before.map Aq)),(9,.ref 9 0),(10,vb (DJ before acc needs[j]).isSome),(22,.slice (.id 12100 2) (needs.map Ah)),(23,vi (needs.map Ah).length),(24,vi j)],[(8,.tok 4 (before.map Aq).length),(12100,.tok 2 (needs.map Ah).length),(1000,.cells [.slice (.id 1001 1) (List.map Bx st)]),(1001,.tok 1 (List.map Bx st).length),(9,.cells [vs ((DJ before acc needs[j]).getD mt)])],Aa⟩ (Yi ⟨⟨Zr,Zr,Zr,Zr,Zr,Zr,⟨Ae vb (Ae Option.isSome FK.symm),rfl⟩,Zr,Zr,Zr,Tv⟩,⟨Zr,Zr,Zr,Zr,⟨Ae (fun a=>HO.cells [vs (Option.getD a mt)]) FK.symm,rfl⟩,Tv⟩,Fh,Aj (by kernel_rfl)⟩ ?_)
   refine Yi (Ii j (by omega)) ?_;refine Xi ⟨(j+1,DJ before acc needs[j]),by show j+1≤_;omega,jV.symm⟩ ?_;exact⟨Dl needs.length j (by omega),Z10,Z5,Fh,Aj (by kernel_rfl)⟩
  rw[hd]at YO;refine Xi .pure (Xi _ (Yi (YO) ?_));refine Cy (show acc=none∨∃p,acc=some p by cases acc with | none=>exact .inl rfl | some p=>exact .inr ⟨p,rfl⟩) (fun ha=>?_) (fun ha=>?_)
  ·have FK:DJ before acc needs[j]=some needs[j].path:=by unfold DJ;rw[Am (by rw[hd];decide),ha]
   refine Xi ⟨[(0,.cptr (Gp x (.slice .none ifs) roots d)),(1,sl Aq s),(2,.clo 43 [.ref 1000 0]),(7,.slice (.id 12100 2) (needs.map Ah)),(8,.slice (.id 8 4) (before.map Aq)),(9,.ref 9 0),(10,vb false),(12,.ref 12 0),(13,vb false),(22,.slice (.id 12100 2) (needs.map Ah)),(23,vi (needs.map Ah).length),(24,vi j)],[(8,.tok 4 (before.map Aq).length),(12100,.tok 2 (needs.map Ah).length),(1000,.cells [.slice (.id 1001 1) (List.map Bx st)]),(1001,.tok 1 (List.map Bx st).length),(9,.cells [vs mt]),(12,.ro (Ah needs[j]))],Aa⟩ (Yi ⟨⟨Zr,Zr,Zr,Zr,Zr,Zr,⟨by show vb acc.isSome=vb false;rw[ha];rfl,rfl⟩,Zr,Zr,Zr,Zr,Zr,Tv⟩,⟨Zr,Zr,Zr,Zr,⟨by show HO.cells [vs (acc.getD mt)]=HO.cells [vs mt];rw[ha];rfl,rfl⟩,Zr,Tv⟩,Fh,Aj (by kernel_rfl)⟩ ?_)
   refine Yi (Nz rfl) ?_;refine Xi ⟨[(0,.cptr (Gp x (.slice .none ifs) roots d)),(1,sl Aq s),(2,.clo 43 [.ref 1000 0]),(7,.slice (.id 12100 2) (needs.map Ah)),(8,.slice (.id 8 4) (before.map Aq)),(9,.ref 9 0),(10,vb (DJ before acc needs[j]).isSome),(22,.slice (.id 12100 2) (needs.map Ah)),(23,vi (needs.map Ah).length),(24,vi j)],[(8,.tok 4 (before.map Aq).length),(12100,.tok 2 (needs.map Ah).length),(1000,.cells [.slice (.id 1001 1) (List.map Bx st)]),(1001,.tok 1 (List.map Bx st).length),(9,.cells [vs ((DJ before acc needs[j]).getD mt)])],Aa⟩ (Yi ⟨⟨Zr,Zr,Zr,Zr,Zr,Zr,⟨by show vb true=_;rw[FK];rfl,rfl⟩,Zr,Zr,Zr,Tv⟩,⟨Zr,Zr,Zr,Zr,⟨by show HO.cells [vs needs[j].path]=_;rw[FK];rfl,rfl⟩,Tv⟩,Fh,Aj (by kernel_rfl)⟩ ?_)
   refine Yi (Ii j (by omega)) ?_;refine Xi ⟨(j+1,DJ before acc needs[j]),by show j+1≤_;omega,jV.symm⟩ ?_;exact⟨Dl needs.length j (by omega),Z10,Z5,Fh,Aj (by kernel_rfl)⟩
  refine BC ha (fun p ha=>?_);refine Xi ⟨[(0,.cptr (Gp x (.slice .none ifs) roots d)),(1,sl Aq s),(2,.clo 43 [.ref 1000 0]),(7,.slice (.id 12100 2) (needs.map Ah)),(8,.slice (.id 8 4) (before.map Aq)),(9,.ref 9 0),(10,vb true),(12,.ref 12 0),(13,vb false),(22,.slice (.id 12100 2) (needs.map Ah)),(23,vi (needs.map Ah).length),(24,vi j)],[(8,.tok 4 (before.map Aq).length),(12100,.tok 2 (needs.map Ah).length),(1000,.cells [.slice (.id 1001 1) (List.map Bx st)]),(1001,.tok 1 (List.map Bx st).length),(9,.cells [vs p]),(12,.ro (Ah needs[j]))],Aa⟩ (Yi ⟨⟨Zr,Zr,Zr,Zr,Zr,Zr,⟨by show vb acc.isSome=vb true;rw[ha];rfl,rfl⟩,Zr,Zr,Zr,Zr,Zr,Tv⟩,⟨Zr,Zr,Zr,Zr,⟨by show HO.cells [vs (acc.getD mt)]=HO.cells [vs p];rw[ha];rfl,rfl⟩,Zr,Tv⟩,Fh,Aj (by kernel_rfl)⟩ ?_)
  refine Yi ?_ ?_
  ·intro hb;have hb:Op.bytesLess needs[j].path.toList p.toList=true:=hb;rw[←G1]at hb;have FK:DJ before acc needs[j]=some needs[j].path:=by unfold DJ;rw[Am (by rw[hd];decide),ha];show(if _ then _ else _)=_;rw[Aw hb]
   refine Yi (Nz rfl) ?_;refine Xi ⟨[(0,.cptr (Gp x (.slice .none ifs) roots d)),(1,sl Aq s),(2,.clo 43 [.ref 1000 0]),(7,.slice (.id 12100 2) (needs.map Ah)),(8,.slice (.id 8 4) (before.map Aq)),(9,.ref 9 0),(10,vb (DJ before acc needs[j]).isSome),(22,.slice (.id 12100 2) (needs.map Ah)),(23,vi (needs.map Ah).length),(24,vi j)],[(8,.tok 4 (before.map Aq).length),(12100,.tok 2 (needs.map Ah).length),(1000,.cells [.slice (.id 1001 1) (List.map Bx st)]),(1001,.tok 1 (List.map Bx st).length),(9,.cells [vs ((DJ before acc needs[j]).getD mt)])],Aa⟩ (Yi ⟨⟨Zr,Zr,Zr,Zr,Zr,Zr,⟨by show vb true=_;rw[FK];rfl,rfl⟩,Zr,Zr,Zr,Tv⟩,⟨Zr,Zr,Zr,Zr,⟨by show HO.cells [vs needs[j].path]=_;rw[FK];rfl,rfl⟩,Tv⟩,Fh,Aj (by kernel_rfl)⟩ ?_)
   refine Yi (Ii j (by omega)) ?_;refine Xi ⟨(j+1,DJ before acc needs[j]),by show j+1≤_;omega,jV.symm⟩ ?_;exact⟨Dl needs.length j (by omega),Z10,Z5,Fh,Aj (by kernel_rfl)⟩
  ·intro hb;have hb:¬Op.bytesLess needs[j].path.toList p.toList=true:=hb;rw[←G1]at hb;have FK:DJ before acc needs[j]=some p:=by unfold DJ;rw[Am (by rw[hd];decide),ha];show(if _ then _ else _)=_;rw[Am hb]
   refine Xi ⟨[(0,.cptr (Gp x (.slice .none ifs) roots d)),(1,sl Aq s),(2,.clo 43 [.ref 1000 0]),(7,.slice (.id 12100 2) (needs.map Ah)),(8,.slice (.id 8 4) (before.map Aq)),(9,.ref 9 0),(10,vb (DJ before acc needs[j]).isSome),(22,.slice (.id 12100 2) (needs.map Ah)),(23,vi (needs.map Ah).length),(24,vi j)],[(8,.tok 4 (before.map Aq).length),(12100,.tok 2 (needs.map Ah).length),(1000,.cells [.slice (.id 1001 1) (List.map Bx st)]),(1001,.tok 1 (List.map Bx st).length),(9,.cells [vs ((DJ before acc needs[j]).getD mt)])],Aa⟩ (Yi ⟨⟨Zr,Zr,Zr,Zr,Zr,Zr,⟨by show vb true=_;rw[FK];rfl,rfl⟩,Zr,Zr,Zr,Tv⟩,⟨Zr,Zr,Zr,Zr,⟨by show HO.cells [vs p]=_;rw[FK];rfl,rfl⟩,Tv⟩,Fh,Aj (by kernel_rfl)⟩ ?_)
   refine Yi (Ii j (by omega)) ?_;refine Xi ⟨(j+1,DJ before acc needs[j]),by show j+1≤_;omega,jV.symm⟩ ?_;exact⟨Dl needs.length j (by omega),Z10,Z5,Fh,Aj (by kernel_rfl)⟩
 intro h;have h:¬(j:Int)<(needs.map Ah).length:=h;have h:¬j<needs.length:=by simpa using h
 have oq:Gt needs before=acc:=by rw[j2,AI (by omega)];rfl
 refine Cy (show acc=none∨∃p,acc=some p by cases acc with | none=>exact .inl rfl | some p=>exact .inr ⟨p,rfl⟩) (fun ha=>?_) (fun ha=>?_)
 ·have Xa:=inv.stop (oq.trans ha);refine Xi ⟨[(10,vb false)],[(1000,.cells [.slice (.id 1001 1) (List.map Bx st)]),(1001,.tok 1 (List.map Bx st).length)],Aa⟩ (Yi ⟨⟨⟨by show vb acc.isSome=vb false;rw[ha];rfl,rfl⟩,Tv⟩,Z2,Fh,Aj (by kernel_rfl)⟩ ?_)
  exact Xi _ (Yi (.refl _) (Yi (Ae vb Xa.1.symm) (Ae (fun a=>Ad (dH a) Aa) Xa.2.symm)))
 refine BC ha (fun p ha=>?_);have oq:Gt needs before=some p:=oq.trans ha;refine Xi ⟨[(0,.cptr (Gp x (.slice .none ifs) roots d)),(1,sl Aq s),(2,.clo 43 [.ref 1000 0]),(7,.slice (.id 12100 2) (needs.map Ah)),(8,.slice (.id 8 4) (before.map Aq)),(9,.ref 9 0),(10,vb true)],[(8,.tok 4 (before.map Aq).length),(12100,.tok 2 (needs.map Ah).length),(1000,.cells [.slice (.id 1001 1) (List.map Bx st)]),(1001,.tok 1 (List.map Bx st).length),(9,.cells [vs p])],Aa⟩ (Yi ⟨⟨Zr,Zr,Zr,Zr,Zr,Zr,⟨by show vb acc.isSome=vb true;rw[ha];rfl,rfl⟩,Tv⟩,⟨Zr,Zr,Zr,Zr,⟨by show HO.cells [vs (acc.getD mt)]=HO.cells [vs p];rw[ha];rfl,rfl⟩,Tv⟩,Fh,Aj (by kernel_rfl)⟩ ?_)
 refine Xi ⟨[(0,.cptr (Gp x (.slice .none ifs) roots d)),(1,sl Aq s),(2,.clo 43 [.ref 1000 0]),(7,.slice (.id 12100 2) (needs.map Ah)),(8,.slice (.id 8 4) (before.map Aq)),(9,.ref 9 0)],[(8,.tok 4 (before.map Aq).length),(12100,.tok 2 (needs.map Ah).length),(1000,.cells [.slice (.id 1001 1) (List.map Bx st)]),(1001,.tok 1 (List.map Bx st).length),(9,.cells [vs p])],Aa⟩ (Yi ⟨Z6,Z5,Fh,Aj (by kernel_rfl)⟩ ?_)
 have jO:=tH (fF:=83) (caps:=[.cptr [vs p]]) (fun c hc=>by
  obtain rfl:=Ai.1 hc;intro h;rfl) s (fun y=>decide (y.path=p)) (fun y _=>zg y p) (by omega)
 refine Cy (bX s p) (fun hi=>?_) (fun hi=>?_)
 ·rw[hi.1]at jO;have Xa:=inv.lost oq hi.2;refine Xi .pure (Xi _ (Yi (jO) ?_));refine Xi ⟨[(14,vi (-1))],[(1000,.cells [.slice (.id 1001 1) (List.map Bx st)]),(1001,.tok 1 (List.map Bx st).length)],Aa⟩ (Yi ⟨Z1,Z2,Fh,Aj (by kernel_rfl)⟩ ?_)
  refine Yi ?_ ?_
  ·intro _;exact Xi _ (Yi (.refl _) (Yi (Ae vb Xa.1.symm) (Ae (fun a=>Ad (dH a) Aa) Xa.2.symm)))
  ·intro hc;exact absurd (show((-1:Int)<0) by decide) hc
 refine BC hi (fun i hi=>?_);refine BC hi (fun y hi=>?_);have uF:=hi.2.1;have xL:=hi.2.2;rw[hi.1]at jO;refine Xi .pure (Xi _ (Yi (jO) ?_));refine Xi ⟨[(0,.cptr (Gp x (.slice .none ifs) roots d)),(1,sl Aq s),(2,.clo 43 [.ref 1000 0]),(7,.slice (.id 12100 2) (needs.map Ah)),(8,.slice (.id 8 4) (before.map Aq)),(14,vi i)],[(8,.tok 4 (before.map Aq).length),(12100,.tok 2 (needs.map Ah).length),(1000,.cells [.slice (.id 1001 1) (List.map Bx st)]),(1001,.tok 1 (List.map Bx st).length)],Aa⟩ (Yi ⟨Z6,Z4,Fh,Aj (by kernel_rfl)⟩ ?_)
 refine Yi ?_ ?_
 ·intro hc;exact absurd (show((i:Int)<0)from hc) (by omega)
 intro _;refine Xi ⟨[(0,.cptr (Gp x (.slice .none ifs) roots d)),(1,sl Aq s),(2,.clo 43 [.ref 1000 0]),(7,.slice (.id 12100 2) (needs.map Ah)),(8,.slice (.id 8 4) (before.map Aq)),(14,vi i)],[(8,.tok 4 (before.map Aq).length),(12100,.tok 2 (needs.map Ah).length),(1000,.cells [.slice (.id 1001 1) (List.map Bx st)]),(1001,.tok 1 (List.map Bx st).length)],Aa⟩ (Yi ⟨Z6,Z4,Fh,Aj (by kernel_rfl)⟩ ?_)
 have uE:(s.map Aq)[(i:Int).toNat]?=some (Aq y):=by rw[BT,AH,uF];rfl
 have jM:PC 84 [MQ x ifs,vs y.path,.agg (Ix y.ver)] (QG (Ej x y)):=y7 x ifs y.path y.ver TH hx;refine Yi (Nz rfl) ?_;refine Xi (Aq y) (Yi (Yi (Nn i) uE) (Yi rfl ?_));refine Xi (Aq y) (Yi (Yi (Nn i) uE) (Yi rfl ?_));refine Yi (Nz rfl) ?_;refine Cy (show Ej x y=none∨∃r,Ej x y=some r by cases Ej x y with | none=>exact .inl rfl | some r=>exact .inr ⟨r,rfl⟩) (fun hr=>?_) (fun hr=>?_)
 ·rw[hr]at jM;have Xa:=inv.gone oq xL hr;refine Xi _ (Yi (jM) ?_);refine Yi (Nz rfl) ?_;refine Yi (by kernel_rfl) ?_;refine Xi ⟨[(16,vb false)],[(1000,.cells [.slice (.id 1001 1) (List.map Bx st)]),(1001,.tok 1 (List.map Bx st).length)],Aa⟩ (Yi ⟨Z1,Z2,Fh,Aj (by kernel_rfl)⟩ ?_)
  exact Xi _ (Yi (.refl _) (Yi (Ae vb Xa.1.symm) (Ae (fun a=>Ad (dH a) Aa) Xa.2.symm)))
 refine BC hr (fun r hr=>?_);rw[hr]at jM;refine Xi _ (Yi (jM) ?_);refine Yi (Nz rfl) ?_;refine Yi (by kernel_rfl) ?_;have vq:r∈x:=(Kt hr).2.1;have uG:=inv.next oq xL hr (kb r vq) (fun q hq=>((hx r vq).2 q hq).1)
 refine Xi ⟨[(0,.cptr (Gp x (.slice .none ifs) roots d)),(1,sl Aq s),(2,.clo 43 [.ref 1000 0]),(7,.slice (.id 12100 2) (needs.map Ah)),(8,.slice (.id 8 4) (before.map Aq)),(14,vi i),(15,.ref 15 0),(16,vb true)],[(8,.tok 4 (before.map Aq).length),(12100,.tok 2 (needs.map Ah).length),(1000,.cells [.slice (.id 1001 1) (List.map Bx st)]),(1001,.tok 1 (List.map Bx st).length),(15,.cells (A5 r))],Aa⟩ (Yi ⟨Z8,Z5,Fh,Aj (by kernel_rfl)⟩ ?_)
 refine Xi ⟨[(0,.cptr (Gp x (.slice .none ifs) roots d)),(1,sl Aq s),(2,.clo 43 [.ref 1000 0]),(7,.slice (.id 12100 2) (needs.map Ah)),(8,.slice (.id 8 4) (before.map Aq)),(14,vi i),(15,.ref 15 0)],[(8,.tok 4 (before.map Aq).length),(12100,.tok 2 (needs.map Ah).length),(1000,.cells [.slice (.id 1001 1) (List.map Bx st)]),(1001,.tok 1 (List.map Bx st).length),(15,.cells (A5 r))],Aa⟩ (Yi ⟨Z7,Z5,Fh,Aj (by kernel_rfl)⟩ ?_)
 refine Yi (Nz rfl) ?_;have vC:=y6 st before needs r (by omega);refine Xi (.gen [(1000,1000),(1001,1001)] 0) (Yi rfl (vC.imp ?_));intro v g q;have q1:=q.1;have q2:=q.2;subst q1;subst q2
 clear q
 refine Xi ⟨[(0,.cptr (Gp x (.slice .none ifs) roots d)),(1,sl Aq s),(2,.clo 43 [.ref 1000 0]),(7,.slice (.id 12100 2) (needs.map Ah)),(8,.slice (.id 8 4) (before.map Aq)),(14,vi i),(15,.ref 15 0)],[(8,.tok 4 (before.map Aq).length),(12100,.tok 2 (needs.map Ah).length),(1000,.cells [.slice (.id 1001 1) (List.map Bx (H6 st ⟨before,needs,r⟩))]),(1001,.tok 1 (List.map Bx (H6 st ⟨before,needs,r⟩)).length),(15,.cells (A5 r))],Aa⟩ (Yi ⟨Z7,Z5,Fh,Aj (by kernel_rfl)⟩ ?_)
 refine Xi (Aq y) (Yi (Yi (Nn i) uE) (Yi rfl ?_));refine Yi (Nz rfl) ?_;have Ei:BY 4 [Aq y]∧(before.map Aq).length=(before.map Aq).length∧((before.map Aq).length+[Aq y].length)*40≤140737488355328∧(before.map Aq).length+[Aq y].length≤9223372036854775807 :=
  ⟨⟨rfl,trivial⟩,rfl,by rw[Lm,As];omega,by rw[Lm,As];omega⟩
 refine Yi Ei ?_;have ZX:=kb r vq;have lj:BY 2 (r.reqs.map Ah)∧(needs.map Ah).length=(needs.map Ah).length∧((needs.map Ah).length+(r.reqs.map Ah).length)*40≤140737488355328∧(needs.map Ah).length+(r.reqs.map Ah).length≤9223372036854775807 :=
  ⟨Es (enc:=Ah) (n:=2) (fun _=>rfl) r.reqs,rfl,by rw[Lm,Lm];omega,by rw[Lm,Lm];omega⟩
 refine Yi lj ?_;have e7:AV.slice (.id 12100 2) (needs.map Ah++r.reqs.map Ah)=.slice (.id 12100 2) ((needs++r.reqs).map Ah):=by rw[AB]
 have e8:AV.slice (.id 8 4) (before.map Aq++[Aq y])=.slice (.id 8 4) ((before++[y]).map Aq):=by rw[AB];rfl
 have o7:HO.tok 2 ((needs.map Ah).length+(r.reqs.map Ah).length)=.tok 2 ((needs++r.reqs).map Ah).length:=by rw[AB,Ac]
 have o8:HO.tok 4 ((before.map Aq).length+[Aq y].length)=.tok 4 ((before++[y]).map Aq).length:=by rw[AB,Ac];rfl
 refine Xi ⟨(before++[y],needs++r.reqs,m,(H6) st ⟨before,needs,r⟩),⟨uG,by show(st++[r.path]).length=(before++[y]).length;rw[Ac,Ac,ex];rfl⟩⟩ ?_;exact⟨by show m<n;omega,⟨Zr,Zr,Zr,⟨e7,rfl⟩,⟨e8,rfl⟩,Tv⟩,⟨⟨o8,rfl⟩,⟨o7,rfl⟩,Zr,Zr,Tv⟩,Fh,Aj (by kernel_rfl)⟩
end Go.Eng
