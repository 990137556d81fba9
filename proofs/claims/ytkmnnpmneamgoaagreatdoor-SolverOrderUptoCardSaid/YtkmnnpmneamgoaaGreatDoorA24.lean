/- Lemmas for the claims of this seat, without a condition: part 24 (S3, S4, S5, S8a, S9). -/
import Derived.Test.YtkmnnpmneamgoaaGreatDoorA23
import Derived.Test.YtkmnnpmneamgoaaGreatDoorA16
namespace Go.Eng
open Go.Proofs
abbrev Ue:Hh:=[(1000,1000),(1001,1001),(1002,1002),(1003,1003),(1004,1004)]
theorem pM{h2:Nat→HO}{cs:List AV}{o1 o2 o3 o4:HO}(e0:h2 1000=.cells cs)(e1:h2 1001=o1)(e2:h2 1002=o2)(e3:h2 1003=o3)(e4:h2 1004=o4) :
  E3 Ue h2=Ad [(1000,.cells (cs.map (ren1 (Ch Ue) h2))),(1001,o1.ren (Ch Ue) h2),(1002,o2.ren (Ch Ue) h2),(1003,o3.ren (Ch Ue) h2),(1004,o4.ren (Ch Ue) h2)] Aa:=by
 unfold E3;simp only[Wb];rw[e0,e1,e2,e3,e4];rfl
theorem bZ{s:SS}{n:Nd}(h:n.path=mt):DG s ⟨0,mt,0,n.number,0,0⟩ (GJ n.rq)=A8 s n:=by unfold A8 MP Hx;rw[Aw h,Aw h]
theorem fV{s:SS}{n:Nd}(h:¬n.path=mt):DG s ⟨1,n.path,n.place,n.number,0,0⟩ (C0 n.path n.place n.rq)=A8 s n:=by unfold A8 MP Hx;rw[Am h,Am h]
abbrev VB(d:List (List Tm))(S:List Sl):AV:=.tup [vi (((Nr d S).getD 0:Nat):Int),vb (Nr d S).isSome]
theorem WP{S:List Sl}:∀{l:List (List Tm)} {b i:Nat} {t:List Tm},l[i]?=some t→Cr t S=true→(∀j u,j<i→l[j]?=some u→Cr u S=false)→Og S b l=some (b+i)
 | [],_,_,_,h,_,_=>by simp at h
 |u::l,b,0,t,h,he,_=>by cases h;unfold Og;rw[Aw he];rfl
 |u::l,b,i+1,t,h,he,hn=>by
  unfold Og;rw[Am (by rw[hn 0 u (by omega) rfl];decide),WP (i:=i) (by simpa using h) he (fun j v hj hv=>hn (j+1) v (by omega) (by simpa using hv))]
  congr 1;omega
theorem WQ{S:List Sl}:∀{l:List (List Tm)} {b:Nat},(∀t∈l,Cr t S=false)→Og S b l=none
 | [],_,_=>rfl
 |u::l,b,h=>by
  unfold Og;rw[Am (by rw[h u (Ab ..)];decide)];exact WQ fun t ht=>h t (Ag _ ht)
set_option maxHeartbeats 4000000 in
theorem wV(roots:List Rq)(C A:List (Value×AV))(s:SS)(dec:List Cd)(st:List (List Sk))(n:Nd)(hn:s.infs.length≤65536)(hdl:s.drv.length=s.infs.length)(Pq:s.infs.Nodup)(hq:Cv n.rq.set)(hp:BQ (n.place+1)):Bn Tryz.prog 88 [.ref 1000 0,.agg (AQ n)] (Ad (HL roots C A s dec st) Aa) fun r h'=>lS roots C A dec st (A8 s n) r h':=by
 refine BD (Iv ⟨[3],[],[],[],[],[],[],[],[(15,5),(31,5)],[],[2,3]⟩) [(1000,1000),(1001,1001),(1002,1002),(1003,1003),(1004,1004)] rfl BS hm rfl Tryz.func88 (by kernel_rfl) rfl (Nz rfl) (by kernel_rfl) rfl ?_;refine Yi (fun h1=>?_) (fun h1=>?_)
 ·have h1:(n.path:ByteArray)=⟨#[]⟩:=h1;refine Xi ⟨[(0,.ref 1000 0),(3,.ref 3 0)],[(3,.ro (AQ n)),(1000,.cells (srM roots C A s dec 1004 st.length)),(1001,.tok 6 s.infs.length),(1002,.tok 1 s.drv.length),(1003,.map Dj (DT 0 s.infs)),(1004,.arr 1 (st.map AP))],Aa⟩ (Yi ⟨Z2,Z6,Fh,Aj (by kernel_rfl)⟩ ?_)
  refine Yi (Nz rfl) ?_;refine Xi _ (Yi (pm n.rq hq) ?_);refine Xi Ue (Xi [(1000,.cells (srM roots C A s dec 1004 st.length)),(1001,.tok 6 s.infs.length),(1002,.tok 1 s.drv.length),(1003,.map Dj (DT 0 s.infs)),(1004,.arr 1 (st.map AP))] (Xi (HL roots C A (DG s ⟨0,mt,0,n.number,0,0⟩ (GJ n.rq)).2 dec st) (Xi [.ref 1000 0,.agg [vi 0,vs ⟨#[]⟩,vi 0,vi n.number,vi 0,vi 0],sl AA (GJ n.rq)] (Xi (vi (((DG s ⟨0,mt,0,n.number,0,0⟩ (GJ n.rq)).1:Nat):Int):AV) (Yi (fun h2 hh=>Yi ((pM (show h2 1000=.cells (srM roots C A s dec 1004 st.length)from hh 1000 (by decide)) (show h2 1001=.tok 6 s.infs.length from hh 1001 (by decide)) (show h2 1002=.tok 1 s.drv.length from hh 1002 (by decide)) (show h2 1003=.map Dj (DT 0 s.infs)from hh 1003 (by decide)) (show h2 1004=.arr 1 (st.map AP)from hh 1004 (by decide))).trans rfl) rfl) (Yi (by kernel_rfl) (Yi (kT roots C A s dec st ⟨0,mt,0,n.number,0,0⟩ (GJ n.rq) hn hdl Pq) ?_)))))));refine Yi (by kernel_rfl) ?_;have ei:=bZ (s:=s) h1;exact Xi _ (Yi (.refl _) (Yi (show vi (((DG s ⟨0,mt,0,n.number,0,0⟩ (GJ n.rq)).1:Nat):Int)=vi (((A8 s n).1:Nat):Int) by rw[ei]) (show Ad (HL roots C A (DG s ⟨0,mt,0,n.number,0,0⟩ (GJ n.rq)).2 dec st) Aa=Ad (HL roots C A (A8 s n).2 dec st) Aa by rw[ei])))
 have h1:¬(n.path:ByteArray)=⟨#[]⟩:=h1;refine Xi ⟨[(0,.ref 1000 0),(3,.ref 3 0)],[(3,.ro (AQ n)),(1000,.cells (srM roots C A s dec 1004 st.length)),(1001,.tok 6 s.infs.length),(1002,.tok 1 s.drv.length),(1003,.map Dj (DT 0 s.infs)),(1004,.arr 1 (st.map AP))],Aa⟩ (Yi ⟨Z2,Z6,Fh,Aj (by kernel_rfl)⟩ ?_)
 refine Yi (Nz rfl) ?_;refine Xi _ (Yi (pn n.path n.place n.rq hp hq) ?_);refine Xi Ue (Xi [(1000,.cells (srM roots C A s dec 1004 st.length)),(1001,.tok 6 s.infs.length),(1002,.tok 1 s.drv.length),(1003,.map Dj (DT 0 s.infs)),(1004,.arr 1 (st.map AP))] (Xi (HL roots C A (DG s ⟨1,n.path,n.place,n.number,0,0⟩ (C0 n.path n.place n.rq)).2 dec st) (Xi [.ref 1000 0,.agg [vi 1,vs n.path,vi n.place,vi n.number,vi 0,vi 0],sl AA (C0 n.path n.place n.rq)] (Xi (vi (((DG s ⟨1,n.path,n.place,n.number,0,0⟩ (C0 n.path n.place n.rq)).1:Nat):Int):AV) (Yi (fun h2 hh=>Yi ((pM (show h2 1000=.cells (srM roots C A s dec 1004 st.length)from hh 1000 (by decide)) (show h2 1001=.tok 6 s.infs.length from hh 1001 (by decide)) (show h2 1002=.tok 1 s.drv.length from hh 1002 (by decide)) (show h2 1003=.map Dj (DT 0 s.infs)from hh 1003 (by decide)) (show h2 1004=.arr 1 (st.map AP)from hh 1004 (by decide))).trans rfl) rfl) (Yi (by kernel_rfl) (Yi (kT roots C A s dec st ⟨1,n.path,n.place,n.number,0,0⟩ (C0 n.path n.place n.rq) hn hdl Pq) ?_)))))));refine Yi (by kernel_rfl) ?_;have ei:=fV (s:=s) h1;exact Xi _ (Yi (.refl _) (Yi (show vi (((DG s ⟨1,n.path,n.place,n.number,0,0⟩ (C0 n.path n.place n.rq)).1:Nat):Int)=vi (((A8 s n).1:Nat):Int) by rw[ei]) (show Ad (HL roots C A (DG s ⟨1,n.path,n.place,n.number,0,0⟩ (C0 n.path n.place n.rq)).2 dec st) Aa=Ad (HL roots C A (A8 s n).2 dec st) Aa by rw[ei])))
set_option maxHeartbeats 4000000 in
theorem s89(roots:List Rq)(C A:List (Value×AV))(s:SS)(dec:List Cd)(st:List (List Sk))(S:List Sl)(hd:s.drv.length≤65536)(ht:∀t∈s.drv,dD t)(hS:Cv S):Bn Tryz.prog 89 [.ref 1000 0,sl Aq S] (Ad (HL roots C A s dec st) Aa) fun r h'=>r=VB s.drv S∧h'=Ad (HL roots C A s dec st) Aa:=by
 refine BD (Iv ⟨[],[],[],[],[],[],[],[],[],[],[4,6]⟩) [(1000,1000),(1001,1001),(1002,1002),(1003,1003),(1004,1004)] rfl BS hm rfl Tryz.func89 (by kernel_rfl) rfl (Nz rfl) (by kernel_rfl) rfl ?_;refine Xi {i:Nat // i≤s.drv.length∧∀j u,j<i→s.drv[j]?=some u→Cr u S=false} (Xi (fun q=>⟨[(1,sl Aq S),(11,.slice (.id 1002 1) (s.drv.map AG)),(12,vi (s.drv.map AG).length),(13,vi q.1)],[(1000,.cells (srM roots C A s dec 1004 st.length)),(1001,.tok 6 s.infs.length),(1002,.tok 1 s.drv.length),(1003,.map Dj (DT 0 s.infs)),(1004,.arr 1 (st.map AP))],Aa⟩) (Xi (fun q=>s.drv.length-q.1) (Yi (Xi ⟨0,AS _,fun j u h=>absurd h (MJ j)⟩ ?_) ?_)))
 ·exact⟨Z4,Z5,Fh,Aj (by kernel_rfl)⟩
 intro⟨i,i1,i2⟩;have i1:i≤s.drv.length:=i1;have i2:∀j u,j<i→s.drv[j]?=some u→Cr u S=false:=i2;refine Yi (fun h1=>?_) (fun h1=>?_)
 ·have h1:(i:Int)<((s.drv.map AG).length:Int):=h1;have n1:i<s.drv.length:=by have q:=h1;rw[Lm]at q;omega
  have g1:s.drv[i]?=some s.drv[i]:=Ge n1;refine Xi (AG s.drv[i]) (Yi (Yi (Nn i) (Dr g1)) (Yi rfl ?_));refine Xi ⟨[(1,sl Aq S),(6,vi i),(7,sl AA s.drv[i]),(11,.slice (.id 1002 1) (s.drv.map AG)),(12,vi (s.drv.map AG).length),(13,vi i)],[(1000,.cells (srM roots C A s dec 1004 st.length)),(1001,.tok 6 s.infs.length),(1002,.tok 1 s.drv.length),(1003,.map Dj (DT 0 s.infs)),(1004,.arr 1 (st.map AP))],Aa⟩ (Yi ⟨Z6,Z5,Fh,Aj (by kernel_rfl)⟩ ?_)
  refine Cy (Bt (Cr s.drv[i] S)) (fun h2=>?_) (fun h2=>?_)
  ·have h2:(Cr s.drv[i] S)=true:=h2;have qa:=(xd s.drv[i] S (ht _ (AC _)) hS);rw[show(Cr s.drv[i] S)=true from h2]at qa;refine Xi .pure (Xi _ (Yi qa ?_));have eE:Nr s.drv S=some i:=by unfold Nr;rw[WP (Ge n1) h2 i2,Bd]
   exact Xi _ (Yi (.refl _) (Yi (show AV.tup [vi (i:Int),vb true]=VB s.drv S by unfold VB;rw[eE];rfl) rfl))
  have h2:(Cr s.drv[i] S)=false:=h2;have qd:=(xd s.drv[i] S (ht _ (AC _)) hS);rw[show(Cr s.drv[i] S)=false from h2]at qd;refine Xi .pure (Xi _ (Yi qd ?_));refine Xi ⟨[(1,sl Aq S),(11,.slice (.id 1002 1) (s.drv.map AG)),(12,vi (s.drv.map AG).length),(13,vi i)],[(1000,.cells (srM roots C A s dec 1004 st.length)),(1001,.tok 6 s.infs.length),(1002,.tok 1 s.drv.length),(1003,.map Dj (DT 0 s.infs)),(1004,.arr 1 (st.map AP))],Aa⟩ (Yi ⟨Z4,Z5,Fh,Aj (by kernel_rfl)⟩ ?_)
  refine Yi (Ii i (by omega)) ?_;refine Xi ⟨i+1,by omega,fun j u hj hu=>by
    by_cases e:j=i
    ·subst e;rw[Ge n1]at hu;cases hu;exact h2
    ·exact i2 j u (by omega) hu⟩ ?_
  exact⟨Dl s.drv.length i (by omega),Z4,Z5,Fh,Aj (by kernel_rfl)⟩
 have h1:¬((i:Int)<((s.drv.map AG).length:Int)):=h1;have n1:¬i<s.drv.length:=by have q:=h1;rw[Lm]at q;omega
 have eE:Nr s.drv S=none:=WQ fun t ht=>by
  obtain⟨j,hj⟩:=Cb.1 ht
  have:=(At.1 hj).1
  exact i2 j t (by have q:=h1;rw[Lm]at q;omega) hj
 exact Xi _ (Yi (.refl _) (Yi (show AV.tup [vi 0,vb false]=VB s.drv S by unfold VB;rw[eE];rfl) rfl))
end Go.Eng

namespace Go.Eng
open Go.Proofs
def SX(l:List Cd)(q:Rq):Bool:=l.any fun d=>decide (d.rel.path=q.path)&&!has q.set d.place
theorem UE{f:Rq→Nat→Nd}{P:Nd→Bool}:∀{l:List Rq} {b i:Nat} {q:Rq},l[i]?=some q→P (f q (b+i))=true→(∀k u,k<i→l[k]?=some u→P (f u (b+k))=false)→(Me f b l).find? P=some (f q (b+i))
 | [],_,_,_,h,_,_=>by simp at h
 |u::l,b,0,q,h,he,_=>by
  cases h
  unfold Me;rw[FG,show P (f u b)=true from he];rfl
 |u::l,b,i+1,q,h,he,hn=>by
  unfold Me;have h0:P (f u b)=false:=hn 0 u (by omega) rfl;rw[FG,h0]
  have:=UE (f:=f) (P:=P) (l:=l) (b:=b+1) (i:=i) (q:=q) (by simpa using h) (by rw[show b+1+i=b+(i+1) by omega];exact he) (fun k v hk hv=>by
   rw[show b+1+k=b+(k+1) by omega];exact hn (k+1) v (by omega) (by simpa using hv))
  rw[show b+1+i=b+(i+1) by omega]at this;exact this
theorem Ol{f:Rq→Nat→Nd}{P:Nd→Bool}:∀{l:List Rq} {b:Nat},(∀k u,l[k]?=some u→P (f u (b+k))=false)→(Me f b l).find? P=none
 | [],_,_=>rfl
 |u::l,b,h=>by
  unfold Me;have h0:P (f u b)=false:=h 0 u rfl;rw[FG,h0];exact Ol fun k v hv=>by rw[show b+1+k=b+(k+1) by omega];exact h (k+1) v (by simpa using hv)
def yD:AV:=.agg [vs ⟨#[]⟩,.v (.slice none 0 0),vs ⟨#[]⟩,vi 0,vi 0]
def jt(o:Option Nd):AV:=match o with | some n=>.tup [.agg (AQ n),vb true] | none=>.tup [yD,vb false]
section
variable {dec:List Cd}{c:Cd}{i:Nat}
theorem d5(hi:i<c.rel.reqs.length)(hn:∀k q,k<i→c.rel.reqs[k]?=some q→SX (dec++[c]) q=false){j:Nat}(hj:j<(dec++[c]).length)(h1:(dec++[c])[j].rel.path=c.rel.reqs[i].path)(h2:has c.rel.reqs[i].set (dec++[c])[j].place=false) :
  Dw dec c=some ⟨c.rel.reqs[i],c.rel.path,c.place,(i:Nat)⟩:=by
 have:=UE (f:=fun q i=>⟨q,c.rel.path,c.place,(i:Nat)⟩) (P:=ah (dec++[c])) (l:=c.rel.reqs) (b:=0) (i:=i) (q:=c.rel.reqs[i]) (Ge hi)
  (Bf.2 ⟨_,AC hj,by rw[AE h1,h2];rfl⟩) (fun k u hk hu=>hn k u hk hu)
 unfold Dw PJ;rw[this,Bd]
theorem d6(hn:∀(k:Nat) (q:Rq),c.rel.reqs[k]?=some q→SX (dec++[c]) q=false):Dw dec c=none:=by
 unfold Dw PJ;exact Ol fun k u hu=>hn k u hu
theorem gl{q:Rq}(h:∀(m:Nat) (d:Cd),(dec++[c])[m]?=some d→(decide (d.rel.path=q.path)&&!has q.set d.place)=false):SX (dec++[c]) q=false:=by
 unfold SX;rw[Fy];intro d hd;obtain⟨m,hm⟩:=Cb.1 hd;rw[h m d hm];decide
end
theorem s87(n:Nd)(c:Cd)(hq:Cv n.rq.set):PC 87 [.agg (AQ n),.cptr (Au c)] (vb (!has n.rq.set c.place)):=by
 refine Ps ⟨[2],[],[],[],[],[],[],[],[],[],[]⟩ Tryz.func87 rfl (Nz rfl) ?_;refine Cy (Bt (has n.rq.set c.place)) (fun h1=>?_) (fun h1=>?_)
 ·have h1:(has n.rq.set c.place)=true:=h1;have Re:=(mF n.rq.set c.place hq);rw[show(has n.rq.set c.place)=true from h1]at Re;refine Xi .pure (Xi _ (Yi Re ?_));exact .of_eq (show vb false=vb (!has n.rq.set c.place) by rw[h1];rfl)
 have h1:(has n.rq.set c.place)=false:=h1;have fo:=(mF n.rq.set c.place hq);rw[show(has n.rq.set c.place)=false from h1]at fo;refine Xi .pure (Xi _ (Yi fo ?_));exact .of_eq (show vb true=vb (!has n.rq.set c.place) by rw[h1];rfl)
set_option maxHeartbeats 4000000 in
theorem wU(roots:List Rq)(C A:List (Value×AV))(s:SS)(dec:List Cd)(st:List (List Sk))(c:Cd)(hd:dec.length≤1073741823)(hr:c.rel.reqs.length≤1073741824)(hq:∀q∈c.rel.reqs,Cv q.set):Bn Tryz.prog 69 [.ref 1000 0,.agg (Au c)] (Ad (HL roots C A s dec st) Aa) fun r h'=>r=jt (Dw dec c)∧h'=Ad (HL roots C A s dec st) Aa:=by
 have hd:dec.length≤1073741823:=hd;have hdl:(dec++[c]).length=dec.length+1:=by simp
 refine BD (Iv ⟨[3],[],[],[],[],[],[],[],[(23,3)],[],[4,8,9]⟩) [(1000,1000),(1001,1001),(1002,1002),(1003,1003),(1004,1004)] rfl BS hm rfl Tryz.func69 (by kernel_rfl) rfl (Nz rfl) (by kernel_rfl) rfl ?_;refine Xi {i:Nat // i≤c.rel.reqs.length∧∀k q,k<i→c.rel.reqs[k]?=some q→SX (dec++[c]) q=false} (Xi (fun q=>⟨[(0,.ref 1000 0),(3,.ref 3 0),(4,.ref 4 0),(12,sl Ah c.rel.reqs),(13,vi (c.rel.reqs.map Ah).length),(14,vi q.1)],[(3,.ro (Au c)),(4,.cells [vs ⟨#[]⟩,.v (.slice none 0 0),vs ⟨#[]⟩,vi 0,vi 0]),(1000,.cells (srM roots C A s dec 1004 st.length)),(1001,.tok 6 s.infs.length),(1002,.tok 1 s.drv.length),(1003,.map Dj (DT 0 s.infs)),(1004,.arr 1 (st.map AP))],Aa⟩) (Xi (fun q=>c.rel.reqs.length-q.1) (Yi (Xi ⟨0,AS _,fun k q h=>absurd h (MJ k)⟩ ?_) ?_)))
 ·exact⟨Z6,Z7,Fh,Aj (by kernel_rfl)⟩
 intro⟨i,i1,i2⟩;have i1:i≤c.rel.reqs.length:=i1;have i2:∀k q,k<i→c.rel.reqs[k]?=some q→SX (dec++[c]) q=false:=i2;refine Yi (fun h1=>?_) (fun h1=>?_)
 ·have h1:(i:Int)<((c.rel.reqs.map Ah).length:Int):=h1;have n1:i<c.rel.reqs.length:=by have q:=h1;rw[Lm]at q;omega
  have g1:c.rel.reqs[i]?=some c.rel.reqs[i]:=Ge n1;refine Xi (Ah c.rel.reqs[i]) (Yi (Yi (Nn i) (Dr g1)) (Yi rfl ?_));refine Yi (Nz rfl) ?_;refine Yi (Nz rfl) ?_;refine Xi ⟨[(0,.ref 1000 0),(3,.ref 3 0),(4,.ref 4 0),(6,vi i),(7,.ref 7 0),(12,sl Ah c.rel.reqs),(13,vi (c.rel.reqs.map Ah).length),(14,vi i)],[(3,.ro (Au c)),(4,.cells [vs ⟨#[]⟩,.v (.slice none 0 0),vs ⟨#[]⟩,vi 0,vi 0]),(7,.cells (Ah c.rel.reqs[i])),(1000,.cells (srM roots C A s dec 1004 st.length)),(1001,.tok 6 s.infs.length),(1002,.tok 1 s.drv.length),(1003,.map Dj (DT 0 s.infs)),(1004,.arr 1 (st.map AP))],Aa⟩ (Yi ⟨Z8,Z8,Fh,Aj (by kernel_rfl)⟩ ?_)
  refine Xi _ (Xi _ (Yi (by kernel_rfl) (Yi (nX dec (Bh hd (by decide))) ?_)));refine Yi (Nz rfl) ?_;have b2:BY 10 [(Au c)]∧(dec.map Au).length=(dec.map Au).length∧((dec.map Au).length+([(Au c)]:List (List AV)).length)*128≤140737488355328∧(dec.map Au).length+([(Au c)]:List (List AV)).length≤9223372036854775807:=⟨⟨rfl,trivial⟩,rfl,(by simp only[Lm,Al,Ar];omega),(by simp only[Lm,Al,Ar];omega)⟩;refine Yi b2 ?_;refine Yi (by kernel_rfl) ?_;refine Xi {j:Nat // j≤(dec++[c]).length∧∀m d,m<j→(dec++[c])[m]?=some d→(decide (d.rel.path=c.rel.reqs[i].path)&&!has c.rel.reqs[i].set d.place)=false} (Xi (fun q=>⟨[(0,.ref 1000 0),(3,.ref 3 0),(4,.ref 4 0),(6,vi i),(7,.ref 7 0),(12,sl Ah c.rel.reqs),(13,vi (c.rel.reqs.map Ah).length),(14,vi i),(26,.slice (.id 12300 10) ((dec++[c]).map Au)),(27,vi ((dec++[c]).map Au).length),(28,vi q.1)],[(3,.ro (Au c)),(4,.cells [vs ⟨#[]⟩,.v (.slice none 0 0),vs ⟨#[]⟩,vi 0,vi 0]),(7,.cells (Ah c.rel.reqs[i])),(1000,.cells (srM roots C A s dec 1004 st.length)),(1001,.tok 6 s.infs.length),(1002,.tok 1 s.drv.length),(1003,.map Dj (DT 0 s.infs)),(1004,.arr 1 (st.map AP)),(12300,.tok 10 ((dec++[c]).map Au).length)],Aa⟩) (Xi (fun q=>(dec++[c]).length-q.1) (Yi (Xi ⟨0,AS _,fun k q h=>absurd h (MJ k)⟩ ?_) ?_)))
  ·exact⟨⟨Zr,Zr,Zr,Zr,Zr,Zr,Zr,Zr,⟨(show AV.slice (.id 12300 10) (dec.map Au++[Au c])=.slice (.id 12300 10) ((dec++[c]).map Au) by rw[AB];rfl),rfl⟩,⟨(show vi ((dec.map Au++[Au c]:List (List AV)).length:Int)=vi (((dec++[c]).map Au).length:Int) by rw[AB];rfl),rfl⟩,Zr,Tv⟩,⟨Zr,Zr,Zr,Zr,Zr,Zr,Zr,Zr,⟨(show HO.tok 10 ((dec.map Au).length+[Au c].length)=.tok 10 ((dec++[c]).map Au).length by simp),rfl⟩,Tv⟩,Fh,Aj (by kernel_rfl)⟩
  intro⟨j,j1,j2⟩;have j1:j≤(dec++[c]).length:=j1;have j2:∀m d,m<j→(dec++[c])[m]?=some d→(decide (d.rel.path=c.rel.reqs[i].path)&&!has c.rel.reqs[i].set d.place)=false:=j2;refine Yi (fun h3=>?_) (fun h3=>?_)
  ·have h3:(j:Int)<(((dec++[c]).map Au).length:Int):=h3;have n3:j<(dec++[c]).length:=by have q:=h3;rw[Lm]at q;omega
   have g3:(dec++[c])[j]?=some (dec++[c])[j]:=Ge n3;refine Xi (Au ((dec++[c])[j])) (Yi (Yi (Nn j) (Dr g3)) (Yi rfl ?_));refine Yi (Nz rfl) ?_;refine Yi (Nz rfl) ?_;refine Yi (fun h4=>?_) (fun h4=>?_)
   ·have h4:(((dec++[c])[j]).rel.path:ByteArray)=c.rel.reqs[i].path:=h4;refine Cy (Bt (has c.rel.reqs[i].set (dec++[c])[j].place)) (fun h5=>?_) (fun h5=>?_)
    ·have h5:(has c.rel.reqs[i].set (dec++[c])[j].place)=true:=h5;have xx:=(mF c.rel.reqs[i].set (dec++[c])[j].place (hq _ (AC _)));rw[show(has c.rel.reqs[i].set (dec++[c])[j].place)=true from h5]at xx;refine Xi .pure (Xi _ (Yi xx ?_));refine Xi ⟨[(0,.ref 1000 0),(3,.ref 3 0),(4,.ref 4 0),(6,vi i),(7,.ref 7 0),(12,sl Ah c.rel.reqs),(13,vi (c.rel.reqs.map Ah).length),(14,vi i),(26,.slice (.id 12300 10) ((dec++[c]).map Au)),(27,vi ((dec++[c]).map Au).length),(28,vi j)],[(3,.ro (Au c)),(4,.cells [vs ⟨#[]⟩,.v (.slice none 0 0),vs ⟨#[]⟩,vi 0,vi 0]),(7,.cells (Ah c.rel.reqs[i])),(1000,.cells (srM roots C A s dec 1004 st.length)),(1001,.tok 6 s.infs.length),(1002,.tok 1 s.drv.length),(1003,.map Dj (DT 0 s.infs)),(1004,.arr 1 (st.map AP)),(12300,.tok 10 ((dec++[c]).map Au).length)],Aa⟩ (Yi ⟨Z11,Z9,Fh,Aj (by kernel_rfl)⟩ ?_)
     refine Yi (Ii j (by omega)) ?_;refine Xi ⟨j+1,by omega,fun m d hm hd=>by
       by_cases e:m=j
       ·subst e;rw[Ge n3]at hd;cases hd;exact by rw[h5];simp
       ·exact j2 m d (by omega) hd⟩ ?_
     exact⟨by show(dec++[c]).length-(j+1)<(dec++[c]).length-j;omega,Z11,Z9,Fh,Aj (by kernel_rfl)⟩
    have h5:(has c.rel.reqs[i].set (dec++[c])[j].place)=false:=h5;have qf:=(mF c.rel.reqs[i].set (dec++[c])[j].place (hq _ (AC _)));rw[show(has c.rel.reqs[i].set (dec++[c])[j].place)=false from h5]at qf;refine Xi .pure (Xi _ (Yi qf ?_));refine Xi ⟨[(3,.ref 3 0),(4,.ref 4 0),(6,vi i),(7,.ref 7 0)],[(3,.ro (Au c)),(4,.cells [vs ⟨#[]⟩,.v (.slice none 0 0),vs ⟨#[]⟩,vi 0,vi 0]),(7,.cells (Ah c.rel.reqs[i])),(1000,.cells (srM roots C A s dec 1004 st.length)),(1001,.tok 6 s.infs.length),(1002,.tok 1 s.drv.length),(1003,.map Dj (DT 0 s.infs)),(1004,.arr 1 (st.map AP))],Aa⟩ (Yi ⟨Z4,Z8,Fh,Aj (by kernel_rfl)⟩ ?_)
    refine Yi (Nz rfl) ?_;refine Yi (Nz rfl) ?_;refine Yi (Nz rfl) ?_;have eC:=d5 (dec:=dec) (c:=c) n1 i2 n3 h4 h5;exact Xi _ (Yi (.refl _) (Yi (show AV.tup [.agg (AQ ⟨c.rel.reqs[i],c.rel.path,c.place,(i:Nat)⟩),vb true]=jt (Dw dec c) by rw[eC];rfl) rfl))
   have h4:¬(((dec++[c])[j]).rel.path:ByteArray)=c.rel.reqs[i].path:=h4;refine Xi ⟨[(0,.ref 1000 0),(3,.ref 3 0),(4,.ref 4 0),(6,vi i),(7,.ref 7 0),(12,sl Ah c.rel.reqs),(13,vi (c.rel.reqs.map Ah).length),(14,vi i),(26,.slice (.id 12300 10) ((dec++[c]).map Au)),(27,vi ((dec++[c]).map Au).length),(28,vi j)],[(3,.ro (Au c)),(4,.cells [vs ⟨#[]⟩,.v (.slice none 0 0),vs ⟨#[]⟩,vi 0,vi 0]),(7,.cells (Ah c.rel.reqs[i])),(1000,.cells (srM roots C A s dec 1004 st.length)),(1001,.tok 6 s.infs.length),(1002,.tok 1 s.drv.length),(1003,.map Dj (DT 0 s.infs)),(1004,.arr 1 (st.map AP)),(12300,.tok 10 ((dec++[c]).map Au).length)],Aa⟩ (Yi ⟨Z11,Z9,Fh,Aj (by kernel_rfl)⟩ ?_)
   refine Yi (Ii j (by omega)) ?_;refine Xi ⟨j+1,by omega,fun m d hm hd=>by
     by_cases e:m=j
     ·subst e;rw[Ge n3]at hd;cases hd;exact by rw[AD h4];rfl
     ·exact j2 m d (by omega) hd⟩ ?_
   exact⟨by show(dec++[c]).length-(j+1)<(dec++[c]).length-j;omega,Z11,Z9,Fh,Aj (by kernel_rfl)⟩
  have h3:¬((j:Int)<(((dec++[c]).map Au).length:Int)):=h3;have n3:¬j<(dec++[c]).length:=by have q:=h3;rw[Lm]at q;omega
  refine Yi (Ii i (by omega)) ?_;have zW:SX (dec++[c]) c.rel.reqs[i]=false:=gl fun m d hd=>j2 m d (by have:=(At.1 hd).1;have q:=h3;rw[Lm]at q;omega) hd;refine Xi ⟨i+1,by omega,fun k q hk vf=>by
    by_cases e:k=i
    ·subst e;rw[Ge n1]at vf;cases vf;exact zW
    ·exact i2 k q (by omega) vf⟩ ?_
  exact⟨Dl c.rel.reqs.length i (by omega),Z6,Z7,Fh,Aj (by kernel_rfl)⟩
 have h1:¬((i:Int)<((c.rel.reqs.map Ah).length:Int)):=h1;have n1:¬i<c.rel.reqs.length:=by have q:=h1;rw[Lm]at q;omega
 refine Yi (Nz rfl) ?_;refine Yi (Nz rfl) ?_;have eC:=d6 (dec:=dec) (c:=c) fun k q hk=>i2 k q (by have:=(At.1 hk).1;have q:=h1;rw[Lm]at q;omega) hk;exact Xi _ (Yi (.refl _) (Yi (show AV.tup [yD,vb false]=jt (Dw dec c) by rw[eC];rfl) rfl))
end Go.Eng

namespace Go.Eng
open Go.Proofs
theorem Of{x:List Rl}{roots:List Rq}{l0:List Nf}:∀{l:List Nf} {d d' : List (List Tm)},(∀i∈l,i∈l0)→(∀t∈d,TG (IC x roots l0) t)→B8 x roots l d=some d'→∀t∈d',TG (IC x roots l0) t
 | [],d,d',_,hd,h=>by cases h;exact hd
 |i::l,d,d',hl,hd,h=>by
  unfold B8 at h;cases hi:BO x roots d i with
  |none=>rw[hi]at h;cases h
  |some t =>
   rw[hi]at h;refine Of (fun j hj=>hl j (Ag _ hj)) (fun u hu=>?_) h;rcases A2.1 hu with hu | hu
   ·exact hd u hu
   ·rw[Ai.1 hu];exact UM (hl i (Ab ..)) hd hi
section
variable {x:List Rl}{roots:List Rq}{s:SS}
theorem Fx.few(hx:A6 x=0)(hr:BE roots=0)(h:Fx x roots s):∀t∈s.drv,aN t:=fun t ht =>
 (Of (l0:=s.infs) (fun _ h=>h) (fun _ h=>by cases h) h.der t ht).fewI (Te hx hr h.len)
theorem HQ{i:Nf}{l:List Tm}(h:s.infs.Nodup):(DG s i l).2.infs.Nodup:=by
 cases hk:LE i 0 s.infs with
 |some k=>rw[Wx hk];exact h
 |none =>
  by_cases hf:65536≤s.infs.length
  ·rw[Uj hk hf];exact h
  ·rw[Wv hk hf];show(s.infs++[i]).Nodup;rw[Fz];refine⟨h,by simp,fun a ha b hb e=>?_⟩;rw[Ai.1 hb]at e;exact PH hk (e▸ha)
theorem Jv.add(h:Jv x roots s){i:Nf}{l:List Tm}(hi:BO x roots s.drv i=some l):Jv x roots (DG s i l).2∧(DG s i l).1<(DG s i l).2.drv.length∧s.drv.length≤(DG s i l).2.drv.length :=
 ⟨⟨(Ki h.der hi).1,HQ h.nodup⟩,(Ki h.der hi).2.1,(Kj s i l).len⟩
theorem Jv.dl(h:Jv x roots s):s.infs.length≤65536∧s.drv.length=s.infs.length∧s.drv.length≤65536:=by
 have h1:=h.der.dlen;have h2:=h.der.len;exact⟨h2,h1,by omega⟩
theorem gx(hx:A6 x=0)(p:ByteArray):∀d,BO x roots d ⟨2,p,0,0,0,0⟩=some (E5 p (BM x p)):=fun d=>by
 obtain⟨u,u0,u1,hu⟩:=aH hx p;have hV:Gc []:=fun _ h=>by cases h
 have ou:Wr [] p (J7 [] p (O1 u)):=.ver hV (EX ⟨u0,u1⟩);have h1:Bg [(⟨p,false,Ec (BM x p)⟩:Tm)] (J7 [] p (O1 u))=true:=by
  rw[BG];intro t ht;rw[Ai.1 ht];show Df _ (BV (J7 [] p (O1 u)) p)=true;rw[HZ rfl];show(CL (O1 u)&&has (Ec (BM x p)) (place (O1 u)))=true;rw[EX ⟨u0,u1⟩,G6,FJ,hu];unfold LB;simp[u0,u1]
 have h2:Bg [(⟨p,false,Ec (BM x p)⟩:Tm)] []=false:=rfl;have Dn:E5 p (BM x p)≠[]:=by
  have c1:=CX (l:=[(⟨p,false,Ec (BM x p)⟩:Tm)]) ou.val;have c2:=CX (l:=[(⟨p,false,Ec (BM x p)⟩:Tm)]) hV;rw[h1]at c1;rw[h2]at c2;unfold E5 PF;cases hc:CJ [(⟨p,false,Ec (BM x p)⟩:Tm)]with
  |none=>rw[hc]at c1;cases c1
  |some c =>
   rw[hc]at c2;intro e;have e:c=[]:=e;rw[e]at c2;cases c2
 unfold BO;rw[Am (show ¬((2:Int)=0) by decide),Am (show ¬((2:Int)=1) by decide),Aw rfl,Aw ⟨rfl,rfl,rfl,rfl⟩];unfold Ro;rw[Am (by rw[GR];exact Dn)]
theorem EG{k:Nat}(h:k<s.drv.length):s.drv[k]?=some (Do s k):=by
 unfold Do;rw[B1,Ge h];rfl
theorem SP{p:ByteArray}{L:List Nat}{j k:Nat}(hj:j<L.length)(h:s.full=true∨Cq (Do s k) p=false):B7 p (L.drop j) k s=(k,s):=by
 rw[Br hj];unfold B7;rw[Aw h]
theorem Y1{p:ByteArray}{L:List Nat}{j k:Nat}(hj:j<L.length)(h1:¬(s.full=true∨Cq (Do s k) p=false))(h:L[j]=k):B7 p (L.drop j) k s=B7 p (L.drop (j+1)) k s:=by
 rw[Br hj]
 conv=>lhs;unfold B7
 rw[Am h1,Aw h]
theorem ce{p:ByteArray}{L:List Nat}{j k:Nat}(hj:j<L.length)(h1:¬(s.full=true∨Cq (Do s k) p=false))(h2:¬L[j]=k)(h:(A7 (Do s k) (Do s L[j]) p).2≠0):B7 p (L.drop j) k s=B7 p (L.drop (j+1)) k s:=by
 rw[Br hj]
 conv=>lhs;unfold B7
 rw[Am h1,Am h2,Aw h]
theorem cd{p:ByteArray}{L:List Nat}{j k:Nat}(hj:j<L.length)(h1:¬(s.full=true∨Cq (Do s k) p=false))(h2:¬L[j]=k)(h:(A7 (Do s k) (Do s L[j]) p).2=0) :
  B7 p (L.drop j) k s=B7 p (L.drop (j+1)) (DG s ⟨3,p,0,0,(k:Nat),(L[j]:Nat)⟩ (A7 (Do s k) (Do s L[j]) p).1).1 (DG s ⟨3,p,0,0,(k:Nat),(L[j]:Nat)⟩ (A7 (Do s k) (Do s L[j]) p).1).2:=by
 rw[Br hj]
 conv=>lhs;unfold B7
 rw[Am h1,Am h2,Am (fun h3=>h3 h)]
end
theorem Fa{t:List Tm}(h:aN t):Cv t:=by have:=h.1;unfold Cv;omega
set_option maxHeartbeats 4000000 in
theorem yy(x:List Rl)(roots:List Rq)(C A:List (Value×AV))(s:SS)(dec:List Cd)(st:List (List Sk))(p:ByteArray)(n:Nd)(rs:List Nat)(V:AV)(hx:A6 x=0)(hr:BE roots=0)(hs:Jv x roots s)(T0:∀d,BO x roots d (MP n)=some (Hx n))(sd:∀r∈rs,r<s.drv.length)(hrl:rs.length≤1073741823)(hnq:Cv n.rq.set)(hnp:BQ (n.place+1))
  (pT:∀a,(Value.string p,a)∈A→a=V) (pU:(∀a,(Value.string p,a)∉A)→V=.v (.slice none 0 0)) (pV:∀h,PC 137 [vs p,str h V] (sl AA (E5 p (BM x p)))):Bn Tryz.prog 91 [.ref 1000 0,vs p,.agg (AQ n),sl Bz rs] (Ad (HL roots C A s dec st) Aa) fun r h'=>lS roots C A dec st (DD x p n rs s) r h':=by
 have hw:=hs.dl;obtain⟨sf,uI,TZ⟩:=hs.add (T0 s.drv)
 change Jv x roots (A8 s n).2 at sf
 change (A8 s n).1<(A8 s n).2.drv.length at uI
 change s.drv.length≤(A8 s n).2.drv.length at TZ
 have KO:=sf.dl;obtain⟨oF,Je,fA⟩:=sf.add (gx hx p (A8 s n).2.drv)
 change Jv x roots (DY x p (A8 s n).2).2 at oF
 change (DY x p (A8 s n).2).1<(DY x p (A8 s n).2).2.drv.length at Je
 change (A8 s n).2.drv.length≤(DY x p (A8 s n).2).2.drv.length at fA
 obtain⟨L,hL⟩:∃L,L=(DY x p (A8 s n).2).1::rs:=⟨_,rfl⟩;have zx:∀r∈L,r<(DY x p (A8 s n).2).2.drv.length:=fun r fJ=>by
  rw[hL]at fJ;rcases AF.1 fJ with rfl | h
  ·exact Je
  ·have:=sd r h;omega
 have t6:L.length=rs.length+1:=by rw[hL];rfl
 have uI:(A8 s n).1<(DY x p (A8 s n).2).2.drv.length:=by omega
 refine BD (Iv ⟨[6],[],[],[],[],[],[],[],[],[],[2,3,7,8,10,12]⟩) [(1000,1000),(1001,1001),(1002,1002),(1003,1003),(1004,1004)] rfl BS hm rfl Tryz.func91 (by kernel_rfl) rfl (Nz rfl) (by kernel_rfl) rfl ?_;refine Yi (Nz rfl) ?_;refine Xi (.gen Ue 0) (Yi rfl (Bn.imp (wV roots C A s dec st n hw.1 hw.2.1 hs.nodup hnq hnp) ?_));intro v1 g1 q1;have Zj:=q1.1;have Zk:=q1.2;subst Zj;subst Zk;refine Xi ⟨[(0,.ref 1000 0),(1,vs p),(3,sl Bz rs),(9,vi (((A8 s n).1:Nat):Int))],[(1000,.cells [sl Ah roots,.cmap Dv C,.cmap Dv A,.slice (.id 1001 6) ((A8 s n).2.infs.map AU),.slice (.id 1002 1) ((A8 s n).2.drv.map AG),.mref 1003,vb (A8 s n).2.full,sl Au dec,sl Aq (Ax dec),.msl 1004 st.length]),(1001,.tok 6 (A8 s n).2.infs.length),(1002,.tok 1 (A8 s n).2.drv.length),(1003,.map Dj (DT 0 (A8 s n).2.infs)),(1004,.arr 1 (st.map AP))],Aa⟩ (Yi ⟨Z4,Z5,Fh,Aj (by kernel_rfl)⟩ ?_)
 refine Ou V (.v (.slice none 0 0)) pT pU (fun h=>h) ?_;refine Xi .pure (Xi _ (Yi (pV _) ?_));refine Xi (.gen Ue 0) (Yi rfl (Bn.imp (kT roots C A (A8 s n).2 dec st ⟨2,p,0,0,0,0⟩ (E5 p (BM x p)) KO.1 KO.2.1 sf.nodup) ?_));intro v2 g2 q2;have vX:=q2.1;have vY:=q2.2;subst vX;subst vY;refine Xi ⟨[(0,.ref 1000 0),(1,vs p),(3,sl Bz rs),(9,vi (((A8 s n).1:Nat):Int)),(10,vi (((DY x p (A8 s n).2).1:Nat):Int))],[(1000,.cells [sl Ah roots,.cmap Dv C,.cmap Dv A,.slice (.id 1001 6) ((DY x p (A8 s n).2).2.infs.map AU),.slice (.id 1002 1) ((DY x p (A8 s n).2).2.drv.map AG),.mref 1003,vb (DY x p (A8 s n).2).2.full,sl Au dec,sl Aq (Ax dec),.msl 1004 st.length]),(1001,.tok 6 (DY x p (A8 s n).2).2.infs.length),(1002,.tok 1 (DY x p (A8 s n).2).2.drv.length),(1003,.map Dj (DT 0 (DY x p (A8 s n).2).2.infs)),(1004,.arr 1 (st.map AP))],Aa⟩ (Yi ⟨Z5,Z5,Fh,Aj (by kernel_rfl)⟩ ?_)
 have b3:BY 1 (rs.map Bz)∧([[vi (((DY x p (A8 s n).2).1:Nat):Int)]]:List (List AV)).length=1∧(([[vi (((DY x p (A8 s n).2).1:Nat):Int)]]:List (List AV)).length+(rs.map Bz).length)*8≤140737488355328∧([[vi (((DY x p (A8 s n).2).1:Nat):Int)]]:List (List AV)).length+(rs.map Bz).length≤9223372036854775807:=⟨(Es (enc:=Bz) (n:=1) (fun _=>rfl) rs),(by first | (simp;done) | (rw[Lm];assumption)),(by simp only[Lm,Al,Ar];omega),(by simp only[Lm,Al,Ar];omega)⟩
 refine Yi b3 ?_;refine Xi {q:Nat×Nat×SS // q.1≤L.length∧B7 p (L.drop q.1) q.2.1 q.2.2=B7 p L (A8 s n).1 (DY x p (A8 s n).2).2∧Jv x roots q.2.2∧q.2.1<q.2.2.drv.length∧∀r∈L,r<q.2.2.drv.length} (Xi (fun q=>⟨[(0,.ref 1000 0),(1,vs p),(9,vi q.1.2.1),(33,.slice (.id 31 1) (L.map Bz)),(34,vi (L.map Bz).length),(35,vi q.1.1)],[(31,.tok 1 (L.map Bz).length),(1000,.cells (srM roots C A q.1.2.2 dec 1004 st.length)),(1001,.tok 6 q.1.2.2.infs.length),(1002,.tok 1 q.1.2.2.drv.length),(1003,.map Dj (DT 0 q.1.2.2.infs)),(1004,.arr 1 (st.map AP))],Aa⟩) (Xi (fun q=>L.length-q.1.1) (Yi (Xi ⟨(0,(A8 s n).1,(DY x p (A8 s n).2).2),AS _,by rw[NY],oF,uI,zx⟩ ?_) ?_)))
 ·exact⟨⟨Zr,Zr,Zr,⟨(show AV.slice (.id 31 1) ([[vi (((DY x p (A8 s n).2).1:Nat):Int)]]++rs.map Bz)=.slice (.id 31 1) (L.map Bz) by rw[hL];rfl),rfl⟩,⟨(show vi (([[vi (((DY x p (A8 s n).2).1:Nat):Int)]]++rs.map Bz:List (List AV)).length:Int)=vi ((L.map Bz).length:Int) by rw[hL];rfl),rfl⟩,Zr,Tv⟩,⟨⟨(show HO.tok 1 (([[vi (((DY x p (A8 s n).2).1:Nat):Int)]]:List (List AV)).length+(rs.map Bz).length)=.tok 1 (L.map Bz).length by rw[hL];simp[Nat.add_comm]),rfl⟩,Zr,Zr,Zr,Zr,Zr,Tv⟩,Fh,Aj (by kernel_rfl)⟩
 intro⟨⟨j,k,S⟩,j1,j2,j3,j4,j5⟩;have j1:j≤L.length:=j1;have j2:B7 p (L.drop j) k S=B7 p L (A8 s n).1 (DY x p (A8 s n).2).2:=j2;have j3:Jv x roots S:=j3;have j4:k<S.drv.length:=j4;have j5:∀r∈L,r<S.drv.length:=j5;have x9:=j3.dl;have r5:=j3.der.few hx hr;have gk:S.drv[k]?=some (Do S k):=EG j4;refine Yi (fun h4=>?_) (fun h4=>?_)
 ·have h4:(j:Int)<((L.map Bz).length:Int):=h4;have n4:j<L.length:=by have q:=h4;rw[Lm]at q;omega
  have g4:L[j]?=some L[j]:=Ge n4;refine Xi (Bz L[j]) (Yi (Yi (Nn j) (Dr g4)) (Yi rfl ?_));refine Yi (fun h5=>?_) (fun h5=>?_)
  ·have h5:S.full=true:=h5;refine Xi ⟨[(9,vi k)],[(1000,.cells (srM roots C A S dec 1004 st.length)),(1001,.tok 6 S.infs.length),(1002,.tok 1 S.drv.length),(1003,.map Dj (DT 0 S.infs)),(1004,.arr 1 (st.map AP))],Aa⟩ (Yi ⟨Z1,Z5,Fh,Aj (by kernel_rfl)⟩ ?_)
   have eR:B7 p L (A8 s n).1 (DY x p (A8 s n).2).2=(k,S):=by rw[←j2];exact SP n4 (.inl h5)
   have eL:DD x p n rs s=(k,S):=by unfold DD;rw[←hL];exact eR
   exact Xi _ (Yi (.refl _) (Yi (show vi (k:Int)=vi (((DD x p n rs s).1:Nat):Int) by rw[eL]) (show Ad (HL roots C A S dec st) Aa=Ad (HL roots C A (DD x p n rs s).2 dec st) Aa by rw[eL])))
  have h5:S.full=false:=h5;refine Xi (AG (Do S k)) (Yi (Yi (Nn k) (Dr gk)) (Yi rfl ?_));refine Cy (Bt (Cq (Do S k) p)) (fun h7=>?_) (fun h7=>?_)
  ·have h7:(Cq (Do S k) p)=true:=h7;have qf:=(iZ (Do S k) p (Fa (r5 _ (Av (EG j4)))));rw[show(Cq (Do S k) p)=true from h7]at qf;refine Xi .pure (Xi _ (Yi qf ?_));refine Xi ⟨[(0,.ref 1000 0),(1,vs p),(9,vi k),(12,vi (L[j]:Nat)),(33,.slice (.id 31 1) (L.map Bz)),(34,vi (L.map Bz).length),(35,vi j)],[(31,.tok 1 (L.map Bz).length),(1000,.cells (srM roots C A S dec 1004 st.length)),(1001,.tok 6 S.infs.length),(1002,.tok 1 S.drv.length),(1003,.map Dj (DT 0 S.infs)),(1004,.arr 1 (st.map AP))],Aa⟩ (Yi ⟨Z7,Z6,Fh,Aj (by kernel_rfl)⟩ ?_)
   refine Yi (fun h9=>?_) (fun h9=>?_)
   ·have h9:((L[j]:Nat):Int)=(k:Int):=h9;refine Xi ⟨[(0,.ref 1000 0),(1,vs p),(9,vi k),(33,.slice (.id 31 1) (L.map Bz)),(34,vi (L.map Bz).length),(35,vi j)],[(31,.tok 1 (L.map Bz).length),(1000,.cells (srM roots C A S dec 1004 st.length)),(1001,.tok 6 S.infs.length),(1002,.tok 1 S.drv.length),(1003,.map Dj (DT 0 S.infs)),(1004,.arr 1 (st.map AP))],Aa⟩ (Yi ⟨Z6,Z6,Fh,Aj (by kernel_rfl)⟩ ?_)
    refine Yi (Ii j (by omega)) ?_;refine Xi ⟨(j+1,k,S),DF n4,by rw[←(Y1 (s:=S) (p:=p) (L:=L) (j:=j) (k:=k) n4 (by rw[h5,h7];simp) (by have q:=h9;omega))];exact j2,j3,j4,j5⟩ ?_;exact⟨Dl L.length j (by omega),Z6,Z6,Fh,Aj (by kernel_rfl)⟩
   have h9:¬(((L[j]:Nat):Int)=(k:Int)):=h9;refine Xi (AG (Do S k)) (Yi (Yi (Nn k) (Dr gk)) (Yi rfl ?_));refine Xi (AG (Do S L[j])) (Yi (Yi (show(0:Int)≤(L[j]:Nat) by omega) (Dr (EG (j5 _ (AC n4))))) (Yi rfl ?_));have fk:=r5 _ (Av (EG j4));have fr:=r5 _ (Av (EG (j5 _ (AC n4))));refine Xi _ (Yi (pp (Do S k) (Do S L[j]) p fk.1 fr.1 fk.2 fr.2) ?_);refine Yi (by kernel_rfl) ?_;refine Xi ⟨[(0,.ref 1000 0),(1,vs p),(9,vi k),(12,vi (L[j]:Nat)),(13,sl AA (A7 (Do S k) (Do S L[j]) p).1),(14,vi (A7 (Do S k) (Do S L[j]) p).2),(33,.slice (.id 31 1) (L.map Bz)),(34,vi (L.map Bz).length),(35,vi j)],[(31,.tok 1 (L.map Bz).length),(1000,.cells (srM roots C A S dec 1004 st.length)),(1001,.tok 6 S.infs.length),(1002,.tok 1 S.drv.length),(1003,.map Dj (DT 0 S.infs)),(1004,.arr 1 (st.map AP))],Aa⟩ (Yi ⟨Z9,Z6,Fh,Aj (by kernel_rfl)⟩ ?_)
   refine Yi (fun L0=>?_) (fun L0=>?_)
   ·have L0:((A7 (Do S k) (Do S L[j]) p).2:Int)≠(0:Int):=L0;refine Xi ⟨[(0,.ref 1000 0),(1,vs p),(9,vi k),(33,.slice (.id 31 1) (L.map Bz)),(34,vi (L.map Bz).length),(35,vi j)],[(31,.tok 1 (L.map Bz).length),(1000,.cells (srM roots C A S dec 1004 st.length)),(1001,.tok 6 S.infs.length),(1002,.tok 1 S.drv.length),(1003,.map Dj (DT 0 S.infs)),(1004,.arr 1 (st.map AP))],Aa⟩ (Yi ⟨Z6,Z6,Fh,Aj (by kernel_rfl)⟩ ?_)
    refine Yi (Ii j (by omega)) ?_;refine Xi ⟨(j+1,k,S),DF n4,by rw[←(ce (s:=S) (p:=p) (L:=L) (j:=j) (k:=k) n4 (by rw[h5,h7];simp) (by have q:=h9;omega) L0)];exact j2,j3,j4,j5⟩ ?_;exact⟨Dl L.length j (by omega),Z6,Z6,Fh,Aj (by kernel_rfl)⟩
   have L0:((A7 (Do S k) (Do S L[j]) p).2:Int)=(0:Int):=Cm L0;refine Xi (.gen Ue 0) (Yi rfl (Bn.imp (kT roots C A S dec st ⟨3,p,0,0,(k:Nat),(L[j]:Nat)⟩ (A7 (Do S k) (Do S L[j]) p).1 x9.1 x9.2.1 j3.nodup) ?_));intro v13 g13 yf;have vR:=yf.1;have vS:=yf.2;subst vR;subst vS;refine Xi ⟨[(0,.ref 1000 0),(1,vs p),(9,vi (((DG S ⟨3,p,0,0,(k:Nat),(L[j]:Nat)⟩ (A7 (Do S k) (Do S L[j]) p).1).1:Nat):Int)),(33,.slice (.id 31 1) (L.map Bz)),(34,vi (L.map Bz).length),(35,vi j)],[(31,.tok 1 (L.map Bz).length),(1000,.cells [sl Ah roots,.cmap Dv C,.cmap Dv A,.slice (.id 1001 6) ((DG S ⟨3,p,0,0,(k:Nat),(L[j]:Nat)⟩ (A7 (Do S k) (Do S L[j]) p).1).2.infs.map AU),.slice (.id 1002 1) ((DG S ⟨3,p,0,0,(k:Nat),(L[j]:Nat)⟩ (A7 (Do S k) (Do S L[j]) p).1).2.drv.map AG),.mref 1003,vb (DG S ⟨3,p,0,0,(k:Nat),(L[j]:Nat)⟩ (A7 (Do S k) (Do S L[j]) p).1).2.full,sl Au dec,sl Aq (Ax dec),.msl 1004 st.length]),(1001,.tok 6 (DG S ⟨3,p,0,0,(k:Nat),(L[j]:Nat)⟩ (A7 (Do S k) (Do S L[j]) p).1).2.infs.length),(1002,.tok 1 (DG S ⟨3,p,0,0,(k:Nat),(L[j]:Nat)⟩ (A7 (Do S k) (Do S L[j]) p).1).2.drv.length),(1003,.map Dj (DT 0 (DG S ⟨3,p,0,0,(k:Nat),(L[j]:Nat)⟩ (A7 (Do S k) (Do S L[j]) p).1).2.infs)),(1004,.arr 1 (st.map AP))],Aa⟩ (Yi ⟨Z6,Z6,Fh,Aj (by kernel_rfl)⟩ ?_)
   refine Yi (Ii j (by omega)) ?_;obtain⟨a1,a2,a3⟩:=j3.add (UN (x:=x) (roots:=roots) (p:=p) j4 (j5 _ (AC n4)) L0);refine Xi ⟨(j+1,(DG S ⟨3,p,0,0,(k:Nat),(L[j]:Nat)⟩ (A7 (Do S k) (Do S L[j]) p).1).1,(DG S ⟨3,p,0,0,(k:Nat),(L[j]:Nat)⟩ (A7 (Do S k) (Do S L[j]) p).1).2),DF n4,by rw[←(cd (s:=S) (p:=p) (L:=L) (j:=j) (k:=k) n4 (by rw[h5,h7];simp) (by have q:=h9;omega) L0)];exact j2,a1,a2,fun r hr=>BK (j5 r hr) a3⟩ ?_;exact⟨Dl L.length j (by omega),Z6,Z6,Fh,Aj (by kernel_rfl)⟩
  have h7:(Cq (Do S k) p)=false:=h7;have pZ:=(iZ (Do S k) p (Fa (r5 _ (Av (EG j4)))));rw[show(Cq (Do S k) p)=false from h7]at pZ;refine Xi .pure (Xi _ (Yi pZ ?_));refine Xi ⟨[(9,vi k)],[(1000,.cells (srM roots C A S dec 1004 st.length)),(1001,.tok 6 S.infs.length),(1002,.tok 1 S.drv.length),(1003,.map Dj (DT 0 S.infs)),(1004,.arr 1 (st.map AP))],Aa⟩ (Yi ⟨Z1,Z5,Fh,Aj (by kernel_rfl)⟩ ?_)
  have eR:B7 p L (A8 s n).1 (DY x p (A8 s n).2).2=(k,S):=by rw[←j2];exact SP n4 (.inr h7)
  have eL:DD x p n rs s=(k,S):=by unfold DD;rw[←hL];exact eR
  exact Xi _ (Yi (.refl _) (Yi (show vi (k:Int)=vi (((DD x p n rs s).1:Nat):Int) by rw[eL]) (show Ad (HL roots C A S dec st) Aa=Ad (HL roots C A (DD x p n rs s).2 dec st) Aa by rw[eL])))
 have h4:¬((j:Int)<((L.map Bz).length:Int)):=h4;have n4:¬j<L.length:=by have q:=h4;rw[Lm]at q;omega
 have hj:¬j<L.length:=by have q:=h4;rw[Lm]at q;omega
 have eR:B7 p L (A8 s n).1 (DY x p (A8 s n).2).2=(k,S):=by rw[←j2,Kc (by omega)];rfl
 have eL:DD x p n rs s=(k,S):=by unfold DD;rw[←hL];exact eR
 exact Xi _ (Yi (.refl _) (Yi (show vi (k:Int)=vi (((DD x p n rs s).1:Nat):Int) by rw[eL]) (show Ad (HL roots C A S dec st) Aa=Ad (HL roots C A (DD x p n rs s).2 dec st) Aa by rw[eL])))
end Go.Eng

namespace Go.Eng
open Go.Proofs
abbrev Ye:Hh:=[(1000,1000),(1001,1001),(1002,1002),(1003,1003),(500,1004)]
abbrev sw(roots:List Rq)(C A:List (Value×AV))(s:SS)(dec:List Cd)(st:List (List Sk)):List (Nat×HO) :=
 [(1000,.cells (srM roots C A s dec 2000 st.length)),(1001,.tok 6 s.infs.length),(1002,.tok 1 s.drv.length),(1003,.map Dj (DT 0 s.infs)),(1004,.dead),(2000,.arr 1 (st.map AP))]
abbrev Yf(roots:List Rq)(C A:List (Value×AV))(o:Ju)(r:AV)(h' : Nat→HO):Prop:=r=.tup [vi (o.res:Nat),vb o.found]∧h'=Ad (sw roots C A o.ss o.dec o.stack) Aa
def yE(roots:List Rq)(C A:List (Value×AV)):Prop:=∀(s:SS) (dec:List Cd) (st:List (List Sk)),dec.length≤1000→(∀c∈dec,c.rel.reqs.length≤1073741824) →
 Bn Tryz.prog 64 [.ref 1000 0] (Ad (HL roots C A s dec st) Aa) fun r h'=>r=.tup [vs (Dz roots dec).1,sl AQ (Dz roots dec).2]∧h'=Ad (HL roots C A s dec st) Aa
theorem Nj{roots:List Rq}{C A:List (Value×AV)}{o:Ju}{k:Nat}{b:Bool}{s:SS}{dec:List Cd}{st:List (List Sk)}(e:o=⟨k,b,s,dec,st⟩) :
  AV.tup [vi (k:Nat),vb b]=.tup [vi (o.res:Nat),vb o.found]∧Ad (sw roots C A s dec st) Aa=Ad (sw roots C A o.ss o.dec o.stack) Aa:=by rw[e];exact Zr
end Go.Eng

namespace Go.Eng
open Go.Proofs
abbrev Yd:Hh:=[(1000,1000),(1001,1001),(1002,1002),(1003,1003),(1004,1004),(1005,1005),(1006,1006),(1007,1007),(1008,1008),(1009,1009)]
def FR(roots:List Rq)(dec:List Cd)(m:Nat):ByteArray×List Nd:=((Db roots dec).take m).foldl (Ea dec) (mt,[])
theorem XQ{roots:List Rq}{dec:List Cd}{m:Nat}{n:Nd}(h:(Db roots dec)[m]?=some n):FR roots dec (m+1)=Ea dec (FR roots dec m) n:=by
 unfold FR;rw[Bk,h,Kd];rfl
theorem kD{roots:List Rq}{dec:List Cd}{m:Nat}(h:(Db roots dec).length≤m):FR roots dec m=Dz roots dec:=by
 unfold FR Dz;rw[AI h]
def EC(roots:List Rq)(dec:List Cd)(j:Nat):Nat:=roots.length+((dec.take j).map fun c=>c.rel.reqs.length).sum
theorem To(c:Cd):(PJ c).length=c.rel.reqs.length:=KF _ _ _
theorem cA(roots:List Rq)(dec:List Cd):EC roots dec 0=roots.length:=by unfold EC;simp
theorem cz{roots:List Rq}{dec:List Cd}{j:Nat}(h:j<dec.length):EC roots dec (j+1)=EC roots dec j+dec[j].rel.reqs.length:=by
 unfold EC;rw[Kf h,AB,List.sum_append];simp[Nat.add_assoc]
theorem XT(roots:List Rq)(dec:List Cd):EC roots dec dec.length=(Db roots dec).length:=by
 unfold EC Db X4;rw[DU,Ac,KF,List.length_flatten,BW]
 congr 2
 exact Be fun c _=>(To c).symm
theorem cq{roots:List Rq}{dec:List Cd}{i:Nat}(h:i<roots.length):(Db roots dec)[i]?=some ⟨roots[i],mt,0,(i:Nat)⟩:=by
 unfold Db X4;rw[AX (by rw[KF];exact h),ON,Ge h,Gl,Bd]
theorem WX{α:Type}:∀{l:List (List α)} {j k:Nat} (hj:j<l.length),k<l[j].length→l.flatten[((l.take j).map List.length).sum+k]?=l[j][k]?
 |y::l,0,k,_,hk=>by
  rw[BL,List.take_zero,E6,List.sum_nil,Bd,AX (show k<y.length from hk)];rfl
 |y::l,j+1,k,hj,hk=>by
  rw[BL,IN,AM,List.sum_cons,A3 (by omega)]
  have:=WX (l:=l) (j:=j) (k:=k) (by simpa using hj) hk
  rw[show y.length+((l.take j).map List.length).sum+k-y.length=((l.take j).map List.length).sum+k by omega,this]
  rfl
theorem gp{roots:List Rq}{dec:List Cd}{j k:Nat}(hj:j<dec.length)(hk:k<dec[j].rel.reqs.length):(Db roots dec)[EC roots dec j+k]?=some ⟨dec[j].rel.reqs[k],dec[j].rel.path,dec[j].place,(k:Nat)⟩:=by
 unfold Db X4 EC;rw[A3 (by rw[KF];omega),KF];have h:=WX (l:=dec.map PJ) (j:=j) (k:=k) (by simpa using hj) (by rw[List.getElem_map,To];exact hk);rw[←List.map_take,BW,show(List.length ∘ PJ)=fun c=>c.rel.reqs.length from funext To]at h;rw[show roots.length+((dec.take j).map fun c=>c.rel.reqs.length).sum+k-roots.length=((dec.take j).map fun c=>c.rel.reqs.length).sum+k by omega,h,List.getElem_map];unfold PJ;rw[ON,Ge hk,Gl,Bd]
abbrev gA(roots:List Rq)(C A:List (Value×AV))(s:SS)(dec:List Cd)(st:List (List Sk))(m:Nat):List (Nat×HO) :=
  [(1000,.cells (OX roots C A s dec st.length)),(1001,.tok 6 s.infs.length),(1002,.tok 1 s.drv.length),(1003,.map Dj (DT 0 s.infs)),(1004,.arr 1 (st.map AP)),
   (1005,.cells [.ref 1000 0]),(1006,.cells [vs (FR roots dec m).1]),(1007,.cells [.slice (.ver 1008 5 m) ((FR roots dec m).2.map AQ)]),(1008,.var 5 m ((FR roots dec m).2.map AQ).length),(1009,.cells [.ref 1000 0])]
noncomputable abbrev zj(pl:O3)(l:Nat)(Y:Gh→World→Prop):Cx:=⟨Tryz.prog,i7,pl,true,0,fun l' σ' g w=>l'=l→σ'=Yd→Y g w⟩
theorem GH.pre{P:Program}{Y Y' : Gh→World→Prop}{l:Nat}{args:List AV}{h0:Nat→HO}{Q:AV→(Nat→HO)→Prop}(h:GH P Y l args h0 Q)(hp:∀g w,Y' g w→Y g w):GH P Y' l args h0 Q :=
 fun g w vals q1 q2 q3 q4=>h g w vals q1 q2 q3 (hp g w q4)

theorem wK(roots:List Rq)(C A:List (Value×AV))(s:SS)(dec:List Cd)(st:List (List Sk)):Bn Tryz.prog 117 [.ref 1000 0] (Ad (HL roots C A s dec st) Aa) fun r h'=>r=.clo 170 [.ref 2000 0]∧h'=Ad (HL roots C A s dec st++[(2000,.cells [.ref 1000 0])]) Aa:=by
 refine BD (Iv ⟨[],[],[],[],[],[],[],[],[],[],[]⟩) [(1000,1000),(1001,1001),(1002,1002),(1003,1003),(1004,1004),(1,2000)] rfl BS hm rfl Tryz.func117 (by kernel_rfl) rfl (Nz rfl) (by kernel_rfl) rfl ?_;exact Xi _ (Yi (.refl _) Zr)
set_option maxHeartbeats 4000000 in
theorem wL{Y:Gh→World→Prop}(l:Nat)(roots:List Rq)(C A:List (Value×AV))(s:SS)(dec:List Cd)(st:List (List Sk))(hr:roots.length≤1073741824)(hd:dec.length≤1073741824)(oz:∀c∈dec,c.rel.reqs.length≤1073741824)
  (hy:∀m n,(Db roots dec)[m]?=some n→GH Tryz.prog Y l [.agg (AQ n)] (Ad (gA roots C A s dec st m) Aa) fun r h'=>r=vb true∧h'=Ad (gA roots C A s dec st (m+1)) Aa) :
  MU Tryz.prog Y Yd 170 [.v (.func (.yield l) #[] #[]),.ref 1005 0] (Ad (gA roots C A s dec st 0) Aa) fun _ h'=>h'=Ad (gA roots C A s dec st (Db roots dec).length) Aa:=by
 have hr:roots.length≤1073741824:=hr;refine fO (l:=l) (zj ⟨[],[],[],[],[],[],[],[],[],[],[3,4,11,12]⟩ l Y) Yd rfl BS hm rfl Tryz.func170 (by kernel_rfl) rfl (Nz rfl) (by kernel_rfl) rfl rfl ?_;refine Xi {i:Nat // i≤roots.length} (Xi (fun q=>⟨[(0,.v (.func (.yield l) #[] #[])),(1,.ref 1005 0),(12,sl Ah roots),(13,vi (roots.map Ah).length),(14,vi q.1)],[(1000,.cells (srM roots C A s dec 1004 st.length)),(1001,.tok 6 s.infs.length),(1002,.tok 1 s.drv.length),(1003,.map Dj (DT 0 s.infs)),(1004,.arr 1 (st.map AP)),(1005,.cells [.ref 1000 0]),(1006,.cells [vs (FR roots dec q.1).1]),(1007,.cells [.slice (.ver 1008 5 q.1) ((FR roots dec q.1).2.map AQ)]),(1008,.var 5 q.1 ((FR roots dec q.1).2.map AQ).length),(1009,.cells [.ref 1000 0])],Aa⟩) (Xi (fun q=>roots.length-q.1) (Yi (Xi ⟨0,AS _⟩ ?_) ?_)))
 ·exact⟨Z5,Z10,Fh,Aj (by kernel_rfl)⟩
 intro⟨i,i1⟩;have i1:i≤roots.length:=i1;refine Yi (fun h1=>?_) (fun h1=>?_)
 ·have h1:(i:Int)<((roots.map Ah).length:Int):=h1;have n1:i<roots.length:=by have q:=h1;rw[Lm]at q;omega
  have g1:roots[i]?=some roots[i]:=Ge n1;refine Xi (Ah roots[i]) (Yi (Yi (Nn i) (Dr g1)) (Yi rfl ?_));refine Yi (Nz rfl) ?_;refine Yi (Nz rfl) ?_;refine Xi ⟨[(0,.v (.func (.yield l) #[] #[])),(1,.ref 1005 0),(3,vi i),(4,.ref 4 0),(12,sl Ah roots),(13,vi (roots.map Ah).length),(14,vi i)],[(4,.cells (Ah roots[i])),(1000,.cells (srM roots C A s dec 1004 st.length)),(1001,.tok 6 s.infs.length),(1002,.tok 1 s.drv.length),(1003,.map Dj (DT 0 s.infs)),(1004,.arr 1 (st.map AP)),(1005,.cells [.ref 1000 0]),(1006,.cells [vs (FR roots dec i).1]),(1007,.cells [.slice (.ver 1008 5 i) ((FR roots dec i).2.map AQ)]),(1008,.var 5 i ((FR roots dec i).2.map AQ).length),(1009,.cells [.ref 1000 0])],Aa⟩ (Yi ⟨Z7,Z11,Fh,Aj (by kernel_rfl)⟩ ?_)
  refine Yi (Nz rfl) ?_;refine Xi (.gen Yd 0) (Yi rfl (GH.imp (GH.pre (hy i ⟨roots[i],mt,0,(i:Nat)⟩ (cq n1)) (fun g w q=>q rfl rfl)) ?_));intro v2 g2 q2;have vX:=q2.1;have vY:=q2.2;subst vX;subst vY;refine Xi ⟨[(0,.v (.func (.yield l) #[] #[])),(1,.ref 1005 0),(12,sl Ah roots),(13,vi (roots.map Ah).length),(14,vi i)],[(1000,.cells (srM roots C A s dec 1004 st.length)),(1001,.tok 6 s.infs.length),(1002,.tok 1 s.drv.length),(1003,.map Dj (DT 0 s.infs)),(1004,.arr 1 (st.map AP)),(1005,.cells [.ref 1000 0]),(1006,.cells [vs (FR roots dec (i+1)).1]),(1007,.cells [.slice (.ver 1008 5 (i+1)) ((FR roots dec (i+1)).2.map AQ)]),(1008,.var 5 (i+1) ((FR roots dec (i+1)).2.map AQ).length),(1009,.cells [.ref 1000 0])],Aa⟩ (Yi ⟨Z5,Z10,Fh,Aj (by kernel_rfl)⟩ ?_)
  refine Yi (Ii i (by omega)) ?_;refine Xi ⟨i+1,by omega⟩ ?_;exact⟨Dl roots.length i (by omega),Z5,Z10,Fh,Aj (by kernel_rfl)⟩
 have h1:¬((i:Int)<((roots.map Ah).length:Int)):=h1;have n1:¬i<roots.length:=by have q:=h1;rw[Lm]at q;omega
 have hE:i=EC roots dec 0:=by rw[cA];omega
 refine Xi {j:Nat // j≤dec.length} (Xi (fun q=>⟨[(0,.v (.func (.yield l) #[] #[])),(29,sl Au dec),(30,vi (dec.map Au).length),(31,vi q.1)],[(1000,.cells (srM roots C A s dec 1004 st.length)),(1001,.tok 6 s.infs.length),(1002,.tok 1 s.drv.length),(1003,.map Dj (DT 0 s.infs)),(1004,.arr 1 (st.map AP)),(1005,.cells [.ref 1000 0]),(1006,.cells [vs (FR roots dec (EC roots dec q.1)).1]),(1007,.cells [.slice (.ver 1008 5 (EC roots dec q.1)) ((FR roots dec (EC roots dec q.1)).2.map AQ)]),(1008,.var 5 (EC roots dec q.1) ((FR roots dec (EC roots dec q.1)).2.map AQ).length),(1009,.cells [.ref 1000 0])],Aa⟩) (Xi (fun q=>dec.length-q.1) (Yi (Xi ⟨0,AS _⟩ ?_) ?_)))
 ·exact⟨Z4,⟨Zr,Zr,Zr,Zr,Zr,Zr,⟨(show .cells [vs (FR roots dec i).1]=(.cells [vs (FR roots dec (EC roots dec 0)).1]:HO) by rw[hE]),rfl⟩,⟨(show .cells [.slice (.ver 1008 5 i) ((FR roots dec i).2.map AQ)]=(.cells [.slice (.ver 1008 5 (EC roots dec 0)) ((FR roots dec (EC roots dec 0)).2.map AQ)]:HO) by rw[hE]),rfl⟩,⟨(show .var 5 i ((FR roots dec i).2.map AQ).length=(.var 5 (EC roots dec 0) ((FR roots dec (EC roots dec 0)).2.map AQ).length:HO) by rw[hE]),rfl⟩,Zr,Tv⟩,Fh,Aj (by kernel_rfl)⟩
 intro⟨j,j1⟩;have j1:j≤dec.length:=j1;refine Yi (fun h4=>?_) (fun h4=>?_)
 ·have h4:(j:Int)<((dec.map Au).length:Int):=h4;have n4:j<dec.length:=by have q:=h4;rw[Lm]at q;omega
  have g4:dec[j]?=some dec[j]:=Ge n4;have rZ:=oz dec[j] (AC n4);refine Xi (Au dec[j]) (Yi (Yi (Nn j) (Dr g4)) (Yi rfl ?_));refine Yi (Nz rfl) ?_;refine Yi (Nz rfl) ?_;refine Xi {k:Nat // k≤dec[j].rel.reqs.length} (Xi (fun q=>⟨[(0,.v (.func (.yield l) #[] #[])),(6,.ref 6 0),(29,sl Au dec),(30,vi (dec.map Au).length),(31,vi j),(37,sl Ah dec[j].rel.reqs),(38,vi (dec[j].rel.reqs.map Ah).length),(39,vi q.1)],[(6,.cells (Au dec[j])),(1000,.cells (srM roots C A s dec 1004 st.length)),(1001,.tok 6 s.infs.length),(1002,.tok 1 s.drv.length),(1003,.map Dj (DT 0 s.infs)),(1004,.arr 1 (st.map AP)),(1005,.cells [.ref 1000 0]),(1006,.cells [vs (FR roots dec (EC roots dec j+q.1)).1]),(1007,.cells [.slice (.ver 1008 5 (EC roots dec j+q.1)) ((FR roots dec (EC roots dec j+q.1)).2.map AQ)]),(1008,.var 5 (EC roots dec j+q.1) ((FR roots dec (EC roots dec j+q.1)).2.map AQ).length),(1009,.cells [.ref 1000 0])],Aa⟩) (Xi (fun q=>dec[j].rel.reqs.length-q.1) (Yi (Xi ⟨0,AS _⟩ ?_) ?_)))
  ·exact⟨Z8,Z11,Fh,Aj (by kernel_rfl)⟩
  intro⟨k,k1⟩;have k1:k≤dec[j].rel.reqs.length:=k1;refine Yi (fun h5=>?_) (fun h5=>?_)
  ·have h5:(k:Int)<((dec[j].rel.reqs.map Ah).length:Int):=h5;have n5:k<dec[j].rel.reqs.length:=by have q:=h5;rw[Lm]at q;omega
   have g5:dec[j].rel.reqs[k]?=some dec[j].rel.reqs[k]:=Ge n5;refine Xi (Ah dec[j].rel.reqs[k]) (Yi (Yi (Nn k) (Dr g5)) (Yi rfl ?_));refine Yi (Nz rfl) ?_;refine Yi (Nz rfl) ?_;refine Xi ⟨[(0,.v (.func (.yield l) #[] #[])),(6,.ref 6 0),(7,vi k),(8,.ref 8 0),(29,sl Au dec),(30,vi (dec.map Au).length),(31,vi j),(37,sl Ah dec[j].rel.reqs),(38,vi (dec[j].rel.reqs.map Ah).length),(39,vi k)],[(6,.cells (Au dec[j])),(8,.cells (Ah dec[j].rel.reqs[k])),(1000,.cells (srM roots C A s dec 1004 st.length)),(1001,.tok 6 s.infs.length),(1002,.tok 1 s.drv.length),(1003,.map Dj (DT 0 s.infs)),(1004,.arr 1 (st.map AP)),(1005,.cells [.ref 1000 0]),(1006,.cells [vs (FR roots dec (EC roots dec j+k)).1]),(1007,.cells [.slice (.ver 1008 5 (EC roots dec j+k)) ((FR roots dec (EC roots dec j+k)).2.map AQ)]),(1008,.var 5 (EC roots dec j+k) ((FR roots dec (EC roots dec j+k)).2.map AQ).length),(1009,.cells [.ref 1000 0])],Aa⟩ (Yi ⟨Z10,Z12,Fh,Aj (by kernel_rfl)⟩ ?_)
   refine Yi (Nz rfl) ?_;refine Xi (.gen Yd 0) (Yi rfl (GH.imp (GH.pre (hy (EC roots dec j+k) ⟨dec[j].rel.reqs[k],dec[j].rel.path,dec[j].place,(k:Nat)⟩ (gp n4 n5)) (fun g w q=>q rfl rfl)) ?_));intro v6 g6 q6;have wu:=q6.1;have wv:=q6.2;subst wu;subst wv;refine Xi ⟨[(0,.v (.func (.yield l) #[] #[])),(6,.ref 6 0),(29,sl Au dec),(30,vi (dec.map Au).length),(31,vi j),(37,sl Ah dec[j].rel.reqs),(38,vi (dec[j].rel.reqs.map Ah).length),(39,vi k)],[(6,.cells (Au dec[j])),(1000,.cells (srM roots C A s dec 1004 st.length)),(1001,.tok 6 s.infs.length),(1002,.tok 1 s.drv.length),(1003,.map Dj (DT 0 s.infs)),(1004,.arr 1 (st.map AP)),(1005,.cells [.ref 1000 0]),(1006,.cells [vs (FR roots dec (EC roots dec j+(k+1))).1]),(1007,.cells [.slice (.ver 1008 5 (EC roots dec j+(k+1))) ((FR roots dec (EC roots dec j+(k+1))).2.map AQ)]),(1008,.var 5 (EC roots dec j+(k+1)) ((FR roots dec (EC roots dec j+(k+1))).2.map AQ).length),(1009,.cells [.ref 1000 0])],Aa⟩ (Yi ⟨Z8,Z11,Fh,Aj (by kernel_rfl)⟩ ?_)
   refine Yi (Ii k (by omega)) ?_;refine Xi ⟨k+1,by omega⟩ ?_;exact⟨by show dec[j].rel.reqs.length-(k+1)<dec[j].rel.reqs.length-k;omega,Z8,Z11,Fh,Aj (by kernel_rfl)⟩
  have h5:¬((k:Int)<((dec[j].rel.reqs.map Ah).length:Int)):=h5;have n5:¬k<dec[j].rel.reqs.length:=by have q:=h5;rw[Lm]at q;omega
  refine Yi (Ii j (by omega)) ?_;have hE:EC roots dec j+k=EC roots dec (j+1):=by rw[cz n4];omega
  refine Xi ⟨j+1,by omega⟩ ?_;exact⟨Dl dec.length j (by omega),Z4,⟨Zr,Zr,Zr,Zr,Zr,Zr,⟨(show .cells [vs (FR roots dec (EC roots dec j+k)).1]=(.cells [vs (FR roots dec (EC roots dec (j+1))).1]:HO) by rw[hE]),rfl⟩,⟨(show .cells [.slice (.ver 1008 5 (EC roots dec j+k)) ((FR roots dec (EC roots dec j+k)).2.map AQ)]=(.cells [.slice (.ver 1008 5 (EC roots dec (j+1))) ((FR roots dec (EC roots dec (j+1))).2.map AQ)]:HO) by rw[hE]),rfl⟩,⟨(show .var 5 (EC roots dec j+k) ((FR roots dec (EC roots dec j+k)).2.map AQ).length=(.var 5 (EC roots dec (j+1)) ((FR roots dec (EC roots dec (j+1))).2.map AQ).length:HO) by rw[hE]),rfl⟩,Zr,Tv⟩,Fh,Aj (by kernel_rfl)⟩
 have h4:¬((j:Int)<((dec.map Au).length:Int)):=h4;have n4:¬j<dec.length:=by have q:=h4;rw[Lm]at q;omega
 exact Ae (fun m=>Ad (gA roots C A s dec st m) Aa) (show EC roots dec j=(Db roots dec).length by rw[←XT];congr 1;omega)
end Go.Eng
