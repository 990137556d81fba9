/- Lemmas for the claims of this seat, without a condition: part 29 (S3, S4, S5, S8a, S9). -/
import Derived.Test.YtmcbkdbfaneofaaGreatDoorBA28
set_option maxHeartbeats 4000000
namespace Go.Eng
open Go.Proofs
abbrev Zg:Ji:=[(1000,1000),(1001,1001),(1002,1002),(1003,1003),(1004,1004)]
theorem rC{h2:Nat→HO}{cs:List AV}{o1 o2 o3 o4:HO}(e0:h2 1000=.cells cs)(e1:h2 1001=o1)(e2:h2 1002=o2)(e3:h2 1003=o3)(e4:h2 1004=o4) :
  FO Zg h2=Ap [(1000,.cells (cs.map (ren1 (CB Zg) h2))),(1001,o1.ren (CB Zg) h2),(1002,o2.ren (CB Zg) h2),(1003,o3.ren (CB Zg) h2),(1004,o4.ren (CB Zg) h2)] Ab:=by
 unfold FO;simp only[W9];rw[e0,e1,e2,e3,e4];rfl
theorem dk{s:SS}{n:Nd}(h:n.path=mt):Em s ⟨0,mt,0,n.number,0,0⟩ (JS n.rq)=Br s n:=by unfold Br TT Jo;rw[Au h,Au h]
theorem iw{s:SS}{n:Nd}(h:¬n.path=mt):Em s ⟨1,n.path,n.place,n.number,0,0⟩ (Ev n.path n.place n.rq)=Br s n:=by unfold Br TT Jo;rw[Al h,Al h]
abbrev WB(d:List (List Tm))(S:List Sl):AV:=.tup [vi (((Pc d S).getD 0:Nat):Int),vb (Pc d S).isSome]
theorem XU{S:List Sl}:∀{l:List (List Tm)} {b i:Nat} {t:List Tm},l[i]?=some t→CP t S=true→(∀j u,j<i→l[j]?=some u→CP u S=false)→Pb S b l=some (b+i)
 | [],_,_,_,h,_,_=>by simp at h
 |u::l,b,0,t,h,he,_=>by cases h;unfold Pb;rw[Au he];rfl
 |u::l,b,i+1,t,h,he,hn=>by
  unfold Pb;rw[Al (by rw[hn 0 u (by omega) rfl];decide),XU (i:=i) (by simpa using h) he (fun j v hj hv=>hn (j+1) v (by omega) (by simpa using hv))]
  congr 1;omega
theorem XV{S:List Sl}:∀{l:List (List Tm)} {b:Nat},(∀t∈l,CP t S=false)→Pb S b l=none
 | [],_,_=>rfl
 |u::l,b,h=>by
  unfold Pb;rw[Al (by rw[h u (Ac ..)];decide)];exact XV fun t ht=>h t (Ah _ ht)
theorem yS(roots:List Rq)(C A:List (Value×AV))(s:SS)(dec:List Cd)(st:List (List Sk))(n:Nd)(hn:s.infs.length≤65536)(hdl:s.drv.length=s.infs.length)(Sb:s.infs.Nodup)(hq:Ci n.rq.set)(hp:Bs (n.place+1)):Bj Tryz.prog 123 [.ref 1000 0,.agg (Bf n)] (Ap (Jq roots C A s dec st) Ab) fun r h'=>nJ roots C A dec st (Br s n) r h':=by
 refine Cq (M4 ⟨[3],[],[],[],[],[],[],[],[(15,5),(31,5)],[],[2,3]⟩) [(1000,1000),(1001,1001),(1002,1002),(1003,1003),(1004,1004)] rfl CX hm rfl Tryz.func123 (by kernel_rfl) rfl (Nz rfl) (by kernel_rfl) rfl ?_;refine Yi (fun h1=>?_) (fun h1=>?_)
 ·have h1:(n.path:ByteArray)=⟨#[]⟩:=h1;refine Xi ⟨[(0,.ref 1000 0),(3,.ref 3 0)],[(3,.ro (Bf n)),(1000,.cells (srM roots C A s dec 1004 st.length)),(1001,.tok 6 s.infs.length),(1002,.tok 1 s.drv.length),(1003,.map D4 (D6 0 s.infs)),(1004,.arr 1 (st.map AX))],Ab⟩ (Yi ⟨Z2,Z6,Fh,Az (by kernel_rfl)⟩ ?_)
  refine Yi (Nz rfl) ?_;refine Xi _ (Yi (vA n.rq hq) ?_);refine Xi Zg (Xi [(1000,.cells (srM roots C A s dec 1004 st.length)),(1001,.tok 6 s.infs.length),(1002,.tok 1 s.drv.length),(1003,.map D4 (D6 0 s.infs)),(1004,.arr 1 (st.map AX))] (Xi (Jq roots C A (Em s ⟨0,mt,0,n.number,0,0⟩ (JS n.rq)).2 dec st) (Xi [.ref 1000 0,.agg [vi 0,vs ⟨#[]⟩,vi 0,vi n.number,vi 0,vi 0],sl AK (JS n.rq)] (Xi (vi (((Em s ⟨0,mt,0,n.number,0,0⟩ (JS n.rq)).1:Nat):Int):AV) (Yi (fun h2 hh=>Yi ((rC (show h2 1000=.cells (srM roots C A s dec 1004 st.length)from hh 1000 (by decide)) (show h2 1001=.tok 6 s.infs.length from hh 1001 (by decide)) (show h2 1002=.tok 1 s.drv.length from hh 1002 (by decide)) (show h2 1003=.map D4 (D6 0 s.infs)from hh 1003 (by decide)) (show h2 1004=.arr 1 (st.map AX)from hh 1004 (by decide))).trans rfl) rfl) (Yi (by kernel_rfl) (Yi (mB roots C A s dec st ⟨0,mt,0,n.number,0,0⟩ (JS n.rq) hn hdl Sb) ?_)))))));refine Yi (by kernel_rfl) ?_;have ei:=dk (s:=s) h1;exact Xi _ (Yi (.refl _) (Yi (show vi (((Em s ⟨0,mt,0,n.number,0,0⟩ (JS n.rq)).1:Nat):Int)=vi (((Br s n).1:Nat):Int) by rw[ei]) (show Ap (Jq roots C A (Em s ⟨0,mt,0,n.number,0,0⟩ (JS n.rq)).2 dec st) Ab=Ap (Jq roots C A (Br s n).2 dec st) Ab by rw[ei])))
 have h1:¬(n.path:ByteArray)=⟨#[]⟩:=h1;refine Xi ⟨[(0,.ref 1000 0),(3,.ref 3 0)],[(3,.ro (Bf n)),(1000,.cells (srM roots C A s dec 1004 st.length)),(1001,.tok 6 s.infs.length),(1002,.tok 1 s.drv.length),(1003,.map D4 (D6 0 s.infs)),(1004,.arr 1 (st.map AX))],Ab⟩ (Yi ⟨Z2,Z6,Fh,Az (by kernel_rfl)⟩ ?_)
 refine Yi (Nz rfl) ?_;refine Xi _ (Yi (vB n.path n.place n.rq hp hq) ?_);refine Xi Zg (Xi [(1000,.cells (srM roots C A s dec 1004 st.length)),(1001,.tok 6 s.infs.length),(1002,.tok 1 s.drv.length),(1003,.map D4 (D6 0 s.infs)),(1004,.arr 1 (st.map AX))] (Xi (Jq roots C A (Em s ⟨1,n.path,n.place,n.number,0,0⟩ (Ev n.path n.place n.rq)).2 dec st) (Xi [.ref 1000 0,.agg [vi 1,vs n.path,vi n.place,vi n.number,vi 0,vi 0],sl AK (Ev n.path n.place n.rq)] (Xi (vi (((Em s ⟨1,n.path,n.place,n.number,0,0⟩ (Ev n.path n.place n.rq)).1:Nat):Int):AV) (Yi (fun h2 hh=>Yi ((rC (show h2 1000=.cells (srM roots C A s dec 1004 st.length)from hh 1000 (by decide)) (show h2 1001=.tok 6 s.infs.length from hh 1001 (by decide)) (show h2 1002=.tok 1 s.drv.length from hh 1002 (by decide)) (show h2 1003=.map D4 (D6 0 s.infs)from hh 1003 (by decide)) (show h2 1004=.arr 1 (st.map AX)from hh 1004 (by decide))).trans rfl) rfl) (Yi (by kernel_rfl) (Yi (mB roots C A s dec st ⟨1,n.path,n.place,n.number,0,0⟩ (Ev n.path n.place n.rq) hn hdl Sb) ?_)))))));refine Yi (by kernel_rfl) ?_;have ei:=iw (s:=s) h1;exact Xi _ (Yi (.refl _) (Yi (show vi (((Em s ⟨1,n.path,n.place,n.number,0,0⟩ (Ev n.path n.place n.rq)).1:Nat):Int)=vi (((Br s n).1:Nat):Int) by rw[ei]) (show Ap (Jq roots C A (Em s ⟨1,n.path,n.place,n.number,0,0⟩ (Ev n.path n.place n.rq)).2 dec st) Ab=Ap (Jq roots C A (Br s n).2 dec st) Ab by rw[ei])))
theorem s89(roots:List Rq)(C A:List (Value×AV))(s:SS)(dec:List Cd)(st:List (List Sk))(S:List Sl)(hd:s.drv.length≤65536)(ht:∀t∈s.drv,fw t)(hS:Ci S):Bj Tryz.prog 124 [.ref 1000 0,sl Ae S] (Ap (Jq roots C A s dec st) Ab) fun r h'=>r=WB s.drv S∧h'=Ap (Jq roots C A s dec st) Ab:=by
 refine Cq (M4 ⟨[],[],[],[],[],[],[],[],[],[],[4,6]⟩) [(1000,1000),(1001,1001),(1002,1002),(1003,1003),(1004,1004)] rfl CX hm rfl Tryz.func124 (by kernel_rfl) rfl (Nz rfl) (by kernel_rfl) rfl ?_;refine Xi {i:Nat // i≤s.drv.length∧∀j u,j<i→s.drv[j]?=some u→CP u S=false} (Xi (fun q=>⟨[(1,sl Ae S),(11,.slice (.id 1002 1) (s.drv.map Cj)),(12,vi (s.drv.map Cj).length),(13,vi q.1)],[(1000,.cells (srM roots C A s dec 1004 st.length)),(1001,.tok 6 s.infs.length),(1002,.tok 1 s.drv.length),(1003,.map D4 (D6 0 s.infs)),(1004,.arr 1 (st.map AX))],Ab⟩) (Xi (fun q=>s.drv.length-q.1) (Yi (Xi ⟨0,AF _,fun j u h=>absurd h (Cr j)⟩ ?_) ?_)))
 ·exact⟨Z4,Z5,Fh,Az (by kernel_rfl)⟩
 intro⟨i,i1,i2⟩;have i1:i≤s.drv.length:=i1;have i2:∀j u,j<i→s.drv[j]?=some u→CP u S=false:=i2;refine Yi (fun h1=>?_) (fun h1=>?_)
 ·have h1:(i:Int)<((s.drv.map Cj).length:Int):=h1;have n1:=Iy h1;refine Xi (Cj s.drv[i]) (Yi (J3 n1) (Yi rfl ?_));refine Xi ⟨[(1,sl Ae S),(6,vi i),(7,sl AK s.drv[i]),(11,.slice (.id 1002 1) (s.drv.map Cj)),(12,vi (s.drv.map Cj).length),(13,vi i)],[(1000,.cells (srM roots C A s dec 1004 st.length)),(1001,.tok 6 s.infs.length),(1002,.tok 1 s.drv.length),(1003,.map D4 (D6 0 s.infs)),(1004,.arr 1 (st.map AX))],Ab⟩ (Yi ⟨Z6,Z5,Fh,Az (by kernel_rfl)⟩ ?_)
  refine Bp (Bt (CP s.drv[i] S)) (fun h2=>?_) (fun h2=>?_)
  ·have h2:(CP s.drv[i] S)=true:=h2;refine Xi .pure (Xi _ (Yi (cb h2 (zb s.drv[i] S (ht _ (Ak _)) hS)) ?_));have eE:Pc s.drv S=some i:=by unfold Pc;rw[XU (Ge n1) h2 i2,Bo]
   exact Xi _ (Yi (.refl _) (Yi (show AV.tup [vi (i:Int),vb true]=WB s.drv S by unfold WB;rw[eE];rfl) rfl))
  have h2:(CP s.drv[i] S)=false:=h2;refine Xi .pure (Xi _ (Yi (cb h2 (zb s.drv[i] S (ht _ (Ak _)) hS)) ?_));refine Xi ⟨[(1,sl Ae S),(11,.slice (.id 1002 1) (s.drv.map Cj)),(12,vi (s.drv.map Cj).length),(13,vi i)],[(1000,.cells (srM roots C A s dec 1004 st.length)),(1001,.tok 6 s.infs.length),(1002,.tok 1 s.drv.length),(1003,.map D4 (D6 0 s.infs)),(1004,.arr 1 (st.map AX))],Ab⟩ (Yi ⟨Z4,Z5,Fh,Az (by kernel_rfl)⟩ ?_)
  refine Yi (Ii i (by omega)) ?_;refine Xi ⟨i+1,by omega,fun j u hj hu=>by
    by_cases e:j=i
    ·subst e;rw[Ge n1]at hu;cases hu;exact h2
    ·exact i2 j u (by omega) hu⟩ ?_
  exact⟨Dl s.drv.length i (by omega),Z4,Z5,Fh,Az (by kernel_rfl)⟩
 have h1:¬((i:Int)<((s.drv.map Cj).length:Int)):=h1;have n1:=Ix h1;have eE:Pc s.drv S=none:=XV fun t ht=>by
  obtain⟨j,hj⟩:=Ch.1 ht
  have:=(Aw.1 hj).1
  exact i2 j t (by have q:=h1;rw[Lm]at q;omega) hj
 exact Xi _ (Yi (.refl _) (Yi (show AV.tup [vi 0,vb false]=WB s.drv S by unfold WB;rw[eE];rfl) rfl))
def T7(l:List Cd)(q:Rq):Bool:=l.any fun d=>decide (d.rel.path=q.path)&&!has q.set d.place
theorem Vv{f:Rq→Nat→Nd}{P:Nd→Bool}:∀{l:List Rq} {b i:Nat} {q:Rq},l[i]?=some q→P (f q (b+i))=true→(∀k u,k<i→l[k]?=some u→P (f u (b+k))=false)→(MJ f b l).find? P=some (f q (b+i))
 | [],_,_,_,h,_,_=>by simp at h
 |u::l,b,0,q,h,he,_=>by
  cases h
  unfold MJ;rw[FK,show P (f u b)=true from he];rfl
 |u::l,b,i+1,q,h,he,hn=>by
  unfold MJ;have h0:P (f u b)=false:=hn 0 u (by omega) rfl;rw[FK,h0]
  have:=Vv (f:=f) (P:=P) (l:=l) (b:=b+1) (i:=i) (q:=q) (by simpa using h) (by rw[show b+1+i=b+(i+1) by omega];exact he) (fun k v hk hv=>by
   rw[show b+1+k=b+(k+1) by omega];exact hn (k+1) v (by omega) (by simpa using hv))
  rw[show b+1+i=b+(i+1) by omega]at this;exact this
theorem Pk{f:Rq→Nat→Nd}{P:Nd→Bool}:∀{l:List Rq} {b:Nat},(∀k u,l[k]?=some u→P (f u (b+k))=false)→(MJ f b l).find? P=none
 | [],_,_=>rfl
 |u::l,b,h=>by
  unfold MJ;have h0:P (f u b)=false:=h 0 u rfl;rw[FK,h0];exact Pk fun k v hv=>by rw[show b+1+k=b+(k+1) by omega];exact h (k+1) v (by simpa using hv)
def zNd:AV:=.agg [vs ⟨#[]⟩,.v (.slice none 0 0),vs ⟨#[]⟩,vi 0,vi 0]
def oD(o:Option Nd):AV:=match o with | some n=>.tup [.agg (Bf n),vb true] | none=>.tup [zNd,vb false]
section
variable {dec:List Cd}{c:Cd}{i:Nat}
theorem fS(hi:i<c.rel.reqs.length)(hn:∀k q,k<i→c.rel.reqs[k]?=some q→T7 (dec++[c]) q=false){j:Nat}(hj:j<(dec++[c]).length)(h1:(dec++[c])[j].rel.path=c.rel.reqs[i].path)(h2:has c.rel.reqs[i].set (dec++[c])[j].place=false) :
  Ej dec c=some ⟨c.rel.reqs[i],c.rel.path,c.place,(i:Nat)⟩:=by
 have:=Vv (f:=fun q i=>⟨q,c.rel.path,c.place,(i:Nat)⟩) (P:=bB (dec++[c])) (l:=c.rel.reqs) (b:=0) (i:=i) (q:=c.rel.reqs[i]) (Ge hi)
  (A8.2 ⟨_,Ak hj,by rw[At h1,h2];rfl⟩) (fun k u hk hu=>hn k u hk hu)
 unfold Ej QR;rw[this,Bo]
theorem fT(hn:∀(k:Nat) (q:Rq),c.rel.reqs[k]?=some q→T7 (dec++[c]) q=false):Ej dec c=none:=by
 unfold Ej QR;exact Pk fun k u hu=>hn k u hu
theorem iN{q:Rq}(h:∀(m:Nat) (d:Cd),(dec++[c])[m]?=some d→(decide (d.rel.path=q.path)&&!has q.set d.place)=false):T7 (dec++[c]) q=false:=by
 unfold T7;rw[FE];intro d hd;obtain⟨m,hm⟩:=Ch.1 hd;rw[h m d hm];decide
end
theorem s87(n:Nd)(c:Cd)(hq:Ci n.rq.set):PC 121 [.agg (Bf n),.cptr (AI c)] (vb (!has n.rq.set c.place)):=by
 refine Ps ⟨[2],[],[],[],[],[],[],[],[],[],[]⟩ Tryz.func121 rfl (Nz rfl) ?_;refine Bp (Bt (has n.rq.set c.place)) (fun h1=>?_) (fun h1=>?_)
 ·have h1:(has n.rq.set c.place)=true:=h1;refine Xi .pure (Xi _ (Yi (cb h1 (rn n.rq.set c.place hq)) ?_));exact .of_eq (show vb false=vb (!has n.rq.set c.place) by rw[h1];rfl)
 have h1:(has n.rq.set c.place)=false:=h1;refine Xi .pure (Xi _ (Yi (cb h1 (rn n.rq.set c.place hq)) ?_));exact .of_eq (show vb true=vb (!has n.rq.set c.place) by rw[h1];rfl)
theorem s69(roots:List Rq)(C A:List (Value×AV))(s:SS)(dec:List Cd)(st:List (List Sk))(c:Cd)(hd:dec.length≤1073741823)(hr:c.rel.reqs.length≤1073741824)(hq:∀q∈c.rel.reqs,Ci q.set):Bj Tryz.prog 125 [.ref 1000 0,.agg (AI c)] (Ap (Jq roots C A s dec st) Ab) fun r h'=>r=oD (Ej dec c)∧h'=Ap (Jq roots C A s dec st) Ab:=by
 have hd:dec.length≤1073741823:=hd;have hdl:(dec++[c]).length=dec.length+1:=by simp
 refine Cq (M4 ⟨[3],[],[],[],[],[],[],[],[(23,3)],[],[4,8,9]⟩) [(1000,1000),(1001,1001),(1002,1002),(1003,1003),(1004,1004)] rfl CX hm rfl Tryz.func125 (by kernel_rfl) rfl (Nz rfl) (by kernel_rfl) rfl ?_;refine Xi {i:Nat // i≤c.rel.reqs.length∧∀k q,k<i→c.rel.reqs[k]?=some q→T7 (dec++[c]) q=false} (Xi (fun q=>⟨[(0,.ref 1000 0),(3,.ref 3 0),(4,.ref 4 0),(12,sl AM c.rel.reqs),(13,vi (c.rel.reqs.map AM).length),(14,vi q.1)],[(3,.ro (AI c)),(4,.cells [vs ⟨#[]⟩,.v (.slice none 0 0),vs ⟨#[]⟩,vi 0,vi 0]),(1000,.cells (srM roots C A s dec 1004 st.length)),(1001,.tok 6 s.infs.length),(1002,.tok 1 s.drv.length),(1003,.map D4 (D6 0 s.infs)),(1004,.arr 1 (st.map AX))],Ab⟩) (Xi (fun q=>c.rel.reqs.length-q.1) (Yi (Xi ⟨0,AF _,fun k q h=>absurd h (Cr k)⟩ ?_) ?_)))
 ·exact⟨Z6,Z7,Fh,Az (by kernel_rfl)⟩
 intro⟨i,i1,i2⟩;have i1:i≤c.rel.reqs.length:=i1;have i2:∀k q,k<i→c.rel.reqs[k]?=some q→T7 (dec++[c]) q=false:=i2;refine Yi (fun h1=>?_) (fun h1=>?_)
 ·have h1:(i:Int)<((c.rel.reqs.map AM).length:Int):=h1;have n1:=Iy h1;refine Xi (AM c.rel.reqs[i]) (Yi (J3 n1) (Yi rfl ?_));refine Yi (Nz rfl) ?_;refine Yi (Nz rfl) ?_;refine Xi ⟨[(0,.ref 1000 0),(3,.ref 3 0),(4,.ref 4 0),(6,vi i),(7,.ref 7 0),(12,sl AM c.rel.reqs),(13,vi (c.rel.reqs.map AM).length),(14,vi i)],[(3,.ro (AI c)),(4,.cells [vs ⟨#[]⟩,.v (.slice none 0 0),vs ⟨#[]⟩,vi 0,vi 0]),(7,.cells (AM c.rel.reqs[i])),(1000,.cells (srM roots C A s dec 1004 st.length)),(1001,.tok 6 s.infs.length),(1002,.tok 1 s.drv.length),(1003,.map D4 (D6 0 s.infs)),(1004,.arr 1 (st.map AX))],Ab⟩ (Yi ⟨Z8,Z8,Fh,Az (by kernel_rfl)⟩ ?_)
  refine Xi _ (Xi _ (Yi (by kernel_rfl) (Yi (tN dec (AT hd (by decide))) ?_)));refine Yi (Nz rfl) ?_;have b2:Da 10 [(AI c)]∧(dec.map AI).length=(dec.map AI).length∧((dec.map AI).length+([(AI c)]:List (List AV)).length)*128≤140737488355328∧(dec.map AI).length+([(AI c)]:List (List AV)).length≤9223372036854775807:=⟨⟨rfl,trivial⟩,rfl,(by simp only[Lm,Av,AE];omega),(by simp only[Lm,Av,AE];omega)⟩;refine Yi b2 ?_;refine Yi (by kernel_rfl) ?_;refine Xi {j:Nat // j≤(dec++[c]).length∧∀m d,m<j→(dec++[c])[m]?=some d→(decide (d.rel.path=c.rel.reqs[i].path)&&!has c.rel.reqs[i].set d.place)=false} (Xi (fun q=>⟨[(0,.ref 1000 0),(3,.ref 3 0),(4,.ref 4 0),(6,vi i),(7,.ref 7 0),(12,sl AM c.rel.reqs),(13,vi (c.rel.reqs.map AM).length),(14,vi i),(26,.slice (.id 12300 10) ((dec++[c]).map AI)),(27,vi ((dec++[c]).map AI).length),(28,vi q.1)],[(3,.ro (AI c)),(4,.cells [vs ⟨#[]⟩,.v (.slice none 0 0),vs ⟨#[]⟩,vi 0,vi 0]),(7,.cells (AM c.rel.reqs[i])),(1000,.cells (srM roots C A s dec 1004 st.length)),(1001,.tok 6 s.infs.length),(1002,.tok 1 s.drv.length),(1003,.map D4 (D6 0 s.infs)),(1004,.arr 1 (st.map AX)),(12300,.tok 10 ((dec++[c]).map AI).length)],Ab⟩) (Xi (fun q=>(dec++[c]).length-q.1) (Yi (Xi ⟨0,AF _,fun k q h=>absurd h (Cr k)⟩ ?_) ?_)))
  ·exact⟨⟨Zr,Zr,Zr,Zr,Zr,Zr,Zr,Zr,⟨RT,rfl⟩,⟨(show vi ((dec.map AI++[AI c]:List (List AV)).length:Int)=vi (((dec++[c]).map AI).length:Int) by rw[AG];rfl),rfl⟩,Zr,Tv⟩,⟨Zr,Zr,Zr,Zr,Zr,Zr,Zr,Zr,⟨(show HO.tok 10 ((dec.map AI).length+[AI c].length)=.tok 10 ((dec++[c]).map AI).length by simp),rfl⟩,Tv⟩,Fh,Az (by kernel_rfl)⟩
  intro⟨j,j1,j2⟩;have j1:j≤(dec++[c]).length:=j1;have j2:∀m d,m<j→(dec++[c])[m]?=some d→(decide (d.rel.path=c.rel.reqs[i].path)&&!has c.rel.reqs[i].set d.place)=false:=j2;refine Yi (fun h3=>?_) (fun h3=>?_)
  ·have h3:(j:Int)<(((dec++[c]).map AI).length:Int):=h3;have n3:=Iy h3;refine Xi (AI ((dec++[c])[j])) (Yi (J3 n3) (Yi rfl ?_));refine Yi (Nz rfl) ?_;refine Yi (Nz rfl) ?_;refine Yi (fun h4=>?_) (fun h4=>?_)
   ·have h4:(((dec++[c])[j]).rel.path:ByteArray)=c.rel.reqs[i].path:=h4;refine Bp (Bt (has c.rel.reqs[i].set (dec++[c])[j].place)) (fun h5=>?_) (fun h5=>?_)
    ·have h5:(has c.rel.reqs[i].set (dec++[c])[j].place)=true:=h5;refine Xi .pure (Xi _ (Yi (cb h5 (rn c.rel.reqs[i].set (dec++[c])[j].place (hq _ (Ak _)))) ?_));refine Xi ⟨[(0,.ref 1000 0),(3,.ref 3 0),(4,.ref 4 0),(6,vi i),(7,.ref 7 0),(12,sl AM c.rel.reqs),(13,vi (c.rel.reqs.map AM).length),(14,vi i),(26,.slice (.id 12300 10) ((dec++[c]).map AI)),(27,vi ((dec++[c]).map AI).length),(28,vi j)],[(3,.ro (AI c)),(4,.cells [vs ⟨#[]⟩,.v (.slice none 0 0),vs ⟨#[]⟩,vi 0,vi 0]),(7,.cells (AM c.rel.reqs[i])),(1000,.cells (srM roots C A s dec 1004 st.length)),(1001,.tok 6 s.infs.length),(1002,.tok 1 s.drv.length),(1003,.map D4 (D6 0 s.infs)),(1004,.arr 1 (st.map AX)),(12300,.tok 10 ((dec++[c]).map AI).length)],Ab⟩ (Yi ⟨Z11,Z9,Fh,Az (by kernel_rfl)⟩ ?_)
     refine Yi (Ii j (by omega)) ?_;refine Xi ⟨j+1,by omega,fun m d hm hd=>by
       by_cases e:m=j
       ·subst e;rw[Ge n3]at hd;cases hd;exact by rw[h5];simp
       ·exact j2 m d (by omega) hd⟩ ?_
     exact⟨by show(dec++[c]).length-(j+1)<(dec++[c]).length-j;omega,Z11,Z9,Fh,Az (by kernel_rfl)⟩
    have h5:(has c.rel.reqs[i].set (dec++[c])[j].place)=false:=h5;refine Xi .pure (Xi _ (Yi (cb h5 (rn c.rel.reqs[i].set (dec++[c])[j].place (hq _ (Ak _)))) ?_));refine Xi ⟨[(3,.ref 3 0),(4,.ref 4 0),(6,vi i),(7,.ref 7 0)],[(3,.ro (AI c)),(4,.cells [vs ⟨#[]⟩,.v (.slice none 0 0),vs ⟨#[]⟩,vi 0,vi 0]),(7,.cells (AM c.rel.reqs[i])),(1000,.cells (srM roots C A s dec 1004 st.length)),(1001,.tok 6 s.infs.length),(1002,.tok 1 s.drv.length),(1003,.map D4 (D6 0 s.infs)),(1004,.arr 1 (st.map AX))],Ab⟩ (Yi ⟨Z4,Z8,Fh,Az (by kernel_rfl)⟩ ?_)
    refine Yi (Nz rfl) ?_;refine Yi (Nz rfl) ?_;refine Yi (Nz rfl) ?_;have eC:=fS (dec:=dec) (c:=c) n1 i2 n3 h4 h5;exact Xi _ (Yi (.refl _) (Yi (show AV.tup [.agg (Bf ⟨c.rel.reqs[i],c.rel.path,c.place,(i:Nat)⟩),vb true]=oD (Ej dec c) by rw[eC];rfl) rfl))
   have h4:¬(((dec++[c])[j]).rel.path:ByteArray)=c.rel.reqs[i].path:=h4;refine Xi ⟨[(0,.ref 1000 0),(3,.ref 3 0),(4,.ref 4 0),(6,vi i),(7,.ref 7 0),(12,sl AM c.rel.reqs),(13,vi (c.rel.reqs.map AM).length),(14,vi i),(26,.slice (.id 12300 10) ((dec++[c]).map AI)),(27,vi ((dec++[c]).map AI).length),(28,vi j)],[(3,.ro (AI c)),(4,.cells [vs ⟨#[]⟩,.v (.slice none 0 0),vs ⟨#[]⟩,vi 0,vi 0]),(7,.cells (AM c.rel.reqs[i])),(1000,.cells (srM roots C A s dec 1004 st.length)),(1001,.tok 6 s.infs.length),(1002,.tok 1 s.drv.length),(1003,.map D4 (D6 0 s.infs)),(1004,.arr 1 (st.map AX)),(12300,.tok 10 ((dec++[c]).map AI).length)],Ab⟩ (Yi ⟨Z11,Z9,Fh,Az (by kernel_rfl)⟩ ?_)
   refine Yi (Ii j (by omega)) ?_;refine Xi ⟨j+1,by omega,fun m d hm hd=>by
     by_cases e:m=j
     ·subst e;rw[Ge n3]at hd;cases hd;exact by rw[Aj h4];rfl
     ·exact j2 m d (by omega) hd⟩ ?_
   exact⟨by show(dec++[c]).length-(j+1)<(dec++[c]).length-j;omega,Z11,Z9,Fh,Az (by kernel_rfl)⟩
  have h3:¬((j:Int)<(((dec++[c]).map AI).length:Int)):=h3;have n3:=Ix h3;refine Yi (Ii i (by omega)) ?_;have hmq:T7 (dec++[c]) c.rel.reqs[i]=false:=iN fun m d hd=>j2 m d (by have:=(Aw.1 hd).1;have q:=h3;rw[Lm]at q;omega) hd;refine Xi ⟨i+1,by omega,fun k q hk xh=>by
    by_cases e:k=i
    ·subst e;rw[Ge n1]at xh;cases xh;exact hmq
    ·exact i2 k q (by omega) xh⟩ ?_
  exact⟨Dl c.rel.reqs.length i (by omega),Z6,Z7,Fh,Az (by kernel_rfl)⟩
 have h1:¬((i:Int)<((c.rel.reqs.map AM).length:Int)):=h1;have n1:=Ix h1;refine Yi (Nz rfl) ?_;refine Yi (Nz rfl) ?_;have eC:=fT (dec:=dec) (c:=c) fun k q hk=>i2 k q (by have:=(Aw.1 hk).1;have q:=h1;rw[Lm]at q;omega) hk;exact Xi _ (Yi (.refl _) (Yi (show AV.tup [zNd,vb false]=oD (Ej dec c) by rw[eC];rfl) rfl))
theorem Pa{x:List Rl}{roots:List Rq}{l0:List Nf}:∀{l:List Nf} {d d' : List (List Tm)},(∀i∈l,i∈l0)→(∀t∈d,U7 (KA x roots l0) t)→Dt x roots l d=some d'→∀t∈d',U7 (KA x roots l0) t
 | [],d,d',_,hd,h=>by cases h;exact hd
 |i::l,d,d',hl,hd,h=>by
  unfold Dt at h;cases hi:D1 x roots d i with
  |none=>rw[hi]at h;cases h
  |some t =>
   rw[hi]at h;refine Pa (fun j hj=>hl j (Ah _ hj)) (fun u hu=>?_) h;rcases Ba.1 hu with hu | hu
   ·exact hd u hu
   ·rw[As.1 hu];exact dn (hl i (Ac ..)) hd hi
section
variable {x:List Rl}{roots:List Rq}{s:SS}
theorem FD.few(hx:A6 x=0)(hr:Bx roots=0)(h:FD x roots s):∀t∈s.drv,nL t:=fun t ht =>
 (Pa (l0:=s.infs) (fun _ h=>h) (fun _ h=>by cases h) h.der t ht).fewI (aA hx hr h.len)
theorem Ir{i:Nf}{l:List Tm}(h:s.infs.Nodup):(Em s i l).2.infs.Nodup:=by
 cases hk:L7 i 0 s.infs with
 |some k=>rw[XA hk];exact h
 |none =>
  by_cases hf:65536≤s.infs.length
  ·rw[Vb hk hf];exact h
  ·rw[Xz hk hf];show(s.infs++[i]).Nodup;rw[Gy];refine⟨h,by simp,fun a ha b hb e=>?_⟩;rw[As.1 hb]at e;exact QO hk (e▸ha)
theorem JY.add(h:JY x roots s){i:Nf}{l:List Tm}(hi:D1 x roots s.drv i=some l):JY x roots (Em s i l).2∧(Em s i l).1<(Em s i l).2.drv.length∧s.drv.length≤(Em s i l).2.drv.length :=
 ⟨⟨(KL h.der hi).1,Ir h.nodup⟩,(KL h.der hi).2.1,(KM s i l).len⟩
theorem JY.dl(h:JY x roots s):s.infs.length≤65536∧s.drv.length=s.infs.length∧s.drv.length≤65536:=by
 have h1:=h.der.dlen;have h2:=h.der.len;exact⟨h2,h1,by omega⟩
theorem iW(hx:A6 x=0)(p:ByteArray):∀d,D1 x roots d ⟨2,p,0,0,0,0⟩=some (Io p (Cg x p)):=fun d=>by
 obtain⟨u,u0,u1,hu⟩:=cd hx p;have hV:Gm []:=fun _ h=>by cases h
 have ou:Xv [] p (Kz [] p (PZ u)):=.ver hV (Fd ⟨u0,u1⟩);have h1:Bm [(⟨p,false,En (Cg x p)⟩:Tm)] (Kz [] p (PZ u))=true:=by
  rw[BK];intro t ht;rw[As.1 ht];show Dy _ (Ck (Kz [] p (PZ u)) p)=true;rw[IC rfl];show(Cy (PZ u)&&has (En (Cg x p)) (place (PZ u)))=true;rw[Fd ⟨u0,u1⟩,Hr,FW,hu];unfold L5;simp[u0,u1]
 have h2:Bm [(⟨p,false,En (Cg x p)⟩:Tm)] []=false:=rfl;have DM:Io p (Cg x p)≠[]:=by
  have c1:=Dj (l:=[(⟨p,false,En (Cg x p)⟩:Tm)]) ou.val;have c2:=Dj (l:=[(⟨p,false,En (Cg x p)⟩:Tm)]) hV;rw[h1]at c1;rw[h2]at c2;unfold Io QM;cases hc:CZ [(⟨p,false,En (Cg x p)⟩:Tm)]with
  |none=>rw[hc]at c1;cases c1
  |some c =>
   rw[hc]at c2;intro e;have e:c=[]:=e;rw[e]at c2;cases c2
 unfold D1;rw[Al (show ¬((2:Int)=0) by decide),Al (show ¬((2:Int)=1) by decide),Au rfl,Au ⟨rfl,rfl,rfl,rfl⟩];unfold dA;rw[Al (by rw[F7];exact DM)]
theorem Fe{k:Nat}(h:k<s.drv.length):s.drv[k]?=some (DV s k):=by
 unfold DV;rw[BX,Ge h];rfl
theorem T2{p:ByteArray}{L:List Nat}{j k:Nat}(hj:j<L.length)(h:s.full=true∨Dm (DV s k) p=false):Cp p (L.drop j) k s=(k,s):=by
 rw[Bd hj];unfold Cp;rw[Au h]
theorem ac{p:ByteArray}{L:List Nat}{j k:Nat}(hj:j<L.length)(h1:¬(s.full=true∨Dm (DV s k) p=false))(h:L[j]=k):Cp p (L.drop j) k s=Cp p (L.drop (j+1)) k s:=by
 rw[Bd hj]
 conv=>lhs;unfold Cp
 rw[Al h1,Au h]
theorem dw{p:ByteArray}{L:List Nat}{j k:Nat}(hj:j<L.length)(h1:¬(s.full=true∨Dm (DV s k) p=false))(h2:¬L[j]=k)(h:(BF (DV s k) (DV s L[j]) p).2≠0):Cp p (L.drop j) k s=Cp p (L.drop (j+1)) k s:=by
 rw[Bd hj]
 conv=>lhs;unfold Cp
 rw[Al h1,Al h2,Au h]
theorem dv{p:ByteArray}{L:List Nat}{j k:Nat}(hj:j<L.length)(h1:¬(s.full=true∨Dm (DV s k) p=false))(h2:¬L[j]=k)(h:(BF (DV s k) (DV s L[j]) p).2=0) :
  Cp p (L.drop j) k s=Cp p (L.drop (j+1)) (Em s ⟨3,p,0,0,(k:Nat),(L[j]:Nat)⟩ (BF (DV s k) (DV s L[j]) p).1).1 (Em s ⟨3,p,0,0,(k:Nat),(L[j]:Nat)⟩ (BF (DV s k) (DV s L[j]) p).1).2:=by
 rw[Bd hj]
 conv=>lhs;unfold Cp
 rw[Al h1,Al h2,Al (fun h3=>h3 h)]
end
theorem Fp{t:List Tm}(h:nL t):Ci t:=by have:=h.1;unfold Ci;omega
theorem s91(x:List Rl)(roots:List Rq)(C A:List (Value×AV))(s:SS)(dec:List Cd)(st:List (List Sk))(p:ByteArray)(n:Nd)(rs:List Nat)(V:AV)(hx:A6 x=0)(hr:Bx roots=0)(hs:JY x roots s)(o6:∀d,D1 x roots d (TT n)=some (Jo n))(un:∀r∈rs,r<s.drv.length)(WU:rs.length≤1073741823)(hnq:Ci n.rq.set)(hnp:Bs (n.place+1))
  (rL:∀a,(Value.string p,a)∈A→a=V) (rM:(∀a,(Value.string p,a)∉A)→V=.v (.slice none 0 0)) (rN:∀h,PC 160 [vs p,str h V] (sl AK (Io p (Cg x p)))):Bj Tryz.prog 128 [.ref 1000 0,vs p,.agg (Bf n),sl BT rs] (Ap (Jq roots C A s dec st) Ab) fun r h'=>nJ roots C A dec st (Ee x p n rs s) r h':=by
 have hw:=hs.dl;obtain⟨uo,wS,Sp⟩:=hs.add (o6 s.drv)
 change JY x roots (Br s n).2 at uo
 change (Br s n).1<(Br s n).2.drv.length at wS
 change s.drv.length≤(Br s n).2.drv.length at Sp
 have Lg:=uo.dl;obtain⟨qv,Ij,gT⟩:=uo.add (iW hx p (Br s n).2.drv)
 change JY x roots (Ew x p (Br s n).2).2 at qv
 change (Ew x p (Br s n).2).1<(Ew x p (Br s n).2).2.drv.length at Ij
 change (Br s n).2.drv.length≤(Ew x p (Br s n).2).2.drv.length at gT
 obtain⟨L,hL⟩:∃L,L=(Ew x p (Br s n).2).1::rs:=⟨_,rfl⟩;have hLr:∀r∈L,r<(Ew x p (Br s n).2).2.drv.length:=fun r ph=>by
  rw[hL]at ph;rcases AC.1 ph with rfl | h
  ·exact Ij
  ·have:=un r h;omega
 have zo:L.length=rs.length+1:=by rw[hL];rfl
 have wS:(Br s n).1<(Ew x p (Br s n).2).2.drv.length:=by omega
 refine Cq (M4 ⟨[6],[],[],[],[],[],[],[],[],[],[2,3,7,8,10,12]⟩) [(1000,1000),(1001,1001),(1002,1002),(1003,1003),(1004,1004)] rfl CX hm rfl Tryz.func128 (by kernel_rfl) rfl (Nz rfl) (by kernel_rfl) rfl ?_;refine Yi (Nz rfl) ?_;refine Xi (.gen Zg 0) (Yi rfl (Bj.imp (yS roots C A s dec st n hw.1 hw.2.1 hs.nodup hnq hnp) ?_));intro v1 g1 q1;have jA:=q1.1;have jB:=q1.2;subst jA;subst jB;refine Xi ⟨[(0,.ref 1000 0),(1,vs p),(3,sl BT rs),(9,vi (((Br s n).1:Nat):Int))],[(1000,.cells [sl AM roots,.cmap Dn C,.cmap Dn A,.slice (.id 1001 6) ((Br s n).2.infs.map B4),.slice (.id 1002 1) ((Br s n).2.drv.map Cj),.mref 1003,vb (Br s n).2.full,sl AI dec,sl Ae (AO dec),.msl 1004 st.length]),(1001,.tok 6 (Br s n).2.infs.length),(1002,.tok 1 (Br s n).2.drv.length),(1003,.map D4 (D6 0 (Br s n).2.infs)),(1004,.arr 1 (st.map AX))],Ab⟩ (Yi ⟨Z4,Z5,Fh,Az (by kernel_rfl)⟩ ?_)
 refine Pq V (.v (.slice none 0 0)) rL rM (fun h=>h) ?_;refine Xi .pure (Xi _ (Yi (rN _) ?_));refine Xi (.gen Zg 0) (Yi rfl (Bj.imp (mB roots C A (Br s n).2 dec st ⟨2,p,0,0,0,0⟩ (Io p (Cg x p)) Lg.1 Lg.2.1 uo.nodup) ?_));intro v2 g2 q2;have yg:=q2.1;have yh:=q2.2;subst yg;subst yh;refine Xi ⟨[(0,.ref 1000 0),(1,vs p),(3,sl BT rs),(9,vi (((Br s n).1:Nat):Int)),(10,vi (((Ew x p (Br s n).2).1:Nat):Int))],[(1000,.cells [sl AM roots,.cmap Dn C,.cmap Dn A,.slice (.id 1001 6) ((Ew x p (Br s n).2).2.infs.map B4),.slice (.id 1002 1) ((Ew x p (Br s n).2).2.drv.map Cj),.mref 1003,vb (Ew x p (Br s n).2).2.full,sl AI dec,sl Ae (AO dec),.msl 1004 st.length]),(1001,.tok 6 (Ew x p (Br s n).2).2.infs.length),(1002,.tok 1 (Ew x p (Br s n).2).2.drv.length),(1003,.map D4 (D6 0 (Ew x p (Br s n).2).2.infs)),(1004,.arr 1 (st.map AX))],Ab⟩ (Yi ⟨Z5,Z5,Fh,Az (by kernel_rfl)⟩ ?_)
 have b3:Da 1 (rs.map BT)∧([[vi (((Ew x p (Br s n).2).1:Nat):Int)]]:List (List AV)).length=1∧(([[vi (((Ew x p (Br s n).2).1:Nat):Int)]]:List (List AV)).length+(rs.map BT).length)*8≤140737488355328∧([[vi (((Ew x p (Br s n).2).1:Nat):Int)]]:List (List AV)).length+(rs.map BT).length≤9223372036854775807:=⟨(EN (enc:=BT) (n:=1) (fun _=>rfl) rs),(by first | (simp;done) | (rw[Lm];assumption)),(by simp only[Lm,Av,AE];omega),(by simp only[Lm,Av,AE];omega)⟩
 refine Yi b3 ?_;refine Xi {q:Nat×Nat×SS // q.1≤L.length∧Cp p (L.drop q.1) q.2.1 q.2.2=Cp p L (Br s n).1 (Ew x p (Br s n).2).2∧JY x roots q.2.2∧q.2.1<q.2.2.drv.length∧∀r∈L,r<q.2.2.drv.length} (Xi (fun q=>⟨[(0,.ref 1000 0),(1,vs p),(9,vi q.1.2.1),(33,.slice (.id 31 1) (L.map BT)),(34,vi (L.map BT).length),(35,vi q.1.1)],[(31,.tok 1 (L.map BT).length),(1000,.cells (srM roots C A q.1.2.2 dec 1004 st.length)),(1001,.tok 6 q.1.2.2.infs.length),(1002,.tok 1 q.1.2.2.drv.length),(1003,.map D4 (D6 0 q.1.2.2.infs)),(1004,.arr 1 (st.map AX))],Ab⟩) (Xi (fun q=>L.length-q.1.1) (Yi (Xi ⟨(0,(Br s n).1,(Ew x p (Br s n).2).2),AF _,by rw[OM],qv,wS,hLr⟩ ?_) ?_)))
 ·exact⟨⟨Zr,Zr,Zr,⟨(show AV.slice (.id 31 1) ([[vi (((Ew x p (Br s n).2).1:Nat):Int)]]++rs.map BT)=.slice (.id 31 1) (L.map BT) by rw[hL];rfl),rfl⟩,⟨(show vi (([[vi (((Ew x p (Br s n).2).1:Nat):Int)]]++rs.map BT:List (List AV)).length:Int)=vi ((L.map BT).length:Int) by rw[hL];rfl),rfl⟩,Zr,Tv⟩,⟨⟨(show HO.tok 1 (([[vi (((Ew x p (Br s n).2).1:Nat):Int)]]:List (List AV)).length+(rs.map BT).length)=.tok 1 (L.map BT).length by rw[hL];simp[Nat.add_comm]),rfl⟩,Zr,Zr,Zr,Zr,Zr,Tv⟩,Fh,Az (by kernel_rfl)⟩
 intro⟨⟨j,k,S⟩,j1,j2,j3,j4,j5⟩;have j1:j≤L.length:=j1;have j2:Cp p (L.drop j) k S=Cp p L (Br s n).1 (Ew x p (Br s n).2).2:=j2;have j3:JY x roots S:=j3;have j4:k<S.drv.length:=j4;have j5:∀r∈L,r<S.drv.length:=j5;have z7:=j3.dl;have ug:=j3.der.few hx hr;have gk:S.drv[k]?=some (DV S k):=Fe j4;refine Yi (fun h4=>?_) (fun h4=>?_)
 ·have h4:(j:Int)<((L.map BT).length:Int):=h4;have n4:=Iy h4;refine Xi (BT L[j]) (Yi (J3 n4) (Yi rfl ?_));refine Yi (fun h5=>?_) (fun h5=>?_)
  ·have h5:S.full=true:=h5;refine Xi ⟨[(9,vi k)],[(1000,.cells (srM roots C A S dec 1004 st.length)),(1001,.tok 6 S.infs.length),(1002,.tok 1 S.drv.length),(1003,.map D4 (D6 0 S.infs)),(1004,.arr 1 (st.map AX))],Ab⟩ (Yi ⟨Z1,Z5,Fh,Az (by kernel_rfl)⟩ ?_)
   have eR:Cp p L (Br s n).1 (Ew x p (Br s n).2).2=(k,S):=by rw[←j2];exact T2 n4 (.inl h5)
   have eL:Ee x p n rs s=(k,S):=by unfold Ee;rw[←hL];exact eR
   exact Xi _ (Yi (.refl _) (Yi (show vi (k:Int)=vi (((Ee x p n rs s).1:Nat):Int) by rw[eL]) (show Ap (Jq roots C A S dec st) Ab=Ap (Jq roots C A (Ee x p n rs s).2 dec st) Ab by rw[eL])))
  have h5:S.full=false:=h5;refine Xi (Cj (DV S k)) (Yi (Yi (Nn k) (B3 gk)) (Yi rfl ?_));refine Bp (Bt (Dm (DV S k) p)) (fun h7=>?_) (fun h7=>?_)
  ·have h7:(Dm (DV S k) p)=true:=h7;refine Xi .pure (Xi _ (Yi (cb h7 (ku (DV S k) p (Fp (ug _ (Ax (Fe j4)))))) ?_));refine Xi ⟨[(0,.ref 1000 0),(1,vs p),(9,vi k),(12,vi (L[j]:Nat)),(33,.slice (.id 31 1) (L.map BT)),(34,vi (L.map BT).length),(35,vi j)],[(31,.tok 1 (L.map BT).length),(1000,.cells (srM roots C A S dec 1004 st.length)),(1001,.tok 6 S.infs.length),(1002,.tok 1 S.drv.length),(1003,.map D4 (D6 0 S.infs)),(1004,.arr 1 (st.map AX))],Ab⟩ (Yi ⟨Z7,Z6,Fh,Az (by kernel_rfl)⟩ ?_)
   refine Yi (fun h8=>?_) (fun h8=>?_)
   ·have h8:((L[j]:Nat):Int)=(k:Int):=h8;refine Xi ⟨[(0,.ref 1000 0),(1,vs p),(9,vi k),(33,.slice (.id 31 1) (L.map BT)),(34,vi (L.map BT).length),(35,vi j)],[(31,.tok 1 (L.map BT).length),(1000,.cells (srM roots C A S dec 1004 st.length)),(1001,.tok 6 S.infs.length),(1002,.tok 1 S.drv.length),(1003,.map D4 (D6 0 S.infs)),(1004,.arr 1 (st.map AX))],Ab⟩ (Yi ⟨Z6,Z6,Fh,Az (by kernel_rfl)⟩ ?_)
    refine Yi (Ii j (by omega)) ?_;refine Xi ⟨(j+1,k,S),FG n4,by rw[←(ac (s:=S) (p:=p) (L:=L) (j:=j) (k:=k) n4 (by rw[h5,h7];simp) (by have q:=h8;omega))];exact j2,j3,j4,j5⟩ ?_;exact⟨Dl L.length j (by omega),Z6,Z6,Fh,Az (by kernel_rfl)⟩
   have h8:¬(((L[j]:Nat):Int)=(k:Int)):=h8;refine Xi (Cj (DV S k)) (Yi (Yi (Nn k) (B3 gk)) (Yi rfl ?_));refine Xi (Cj (DV S L[j])) (Yi (Yi (show(0:Int)≤(L[j]:Nat) by omega) (B3 (Fe (j5 _ (Ak n4))))) (Yi rfl ?_));have fk:=ug _ (Ax (Fe j4));have fr:=ug _ (Ax (Fe (j5 _ (Ak n4))));refine Xi _ (Yi (vD (DV S k) (DV S L[j]) p fk.1 fr.1 fk.2 fr.2) ?_);refine Yi (by kernel_rfl) ?_;refine Xi ⟨[(0,.ref 1000 0),(1,vs p),(9,vi k),(12,vi (L[j]:Nat)),(13,sl AK (BF (DV S k) (DV S L[j]) p).1),(14,vi (BF (DV S k) (DV S L[j]) p).2),(33,.slice (.id 31 1) (L.map BT)),(34,vi (L.map BT).length),(35,vi j)],[(31,.tok 1 (L.map BT).length),(1000,.cells (srM roots C A S dec 1004 st.length)),(1001,.tok 6 S.infs.length),(1002,.tok 1 S.drv.length),(1003,.map D4 (D6 0 S.infs)),(1004,.arr 1 (st.map AX))],Ab⟩ (Yi ⟨Z9,Z6,Fh,Az (by kernel_rfl)⟩ ?_)
   refine Yi (fun Ty=>?_) (fun Ty=>?_)
   ·have Ty:((BF (DV S k) (DV S L[j]) p).2:Int)≠(0:Int):=Ty;refine Xi ⟨[(0,.ref 1000 0),(1,vs p),(9,vi k),(33,.slice (.id 31 1) (L.map BT)),(34,vi (L.map BT).length),(35,vi j)],[(31,.tok 1 (L.map BT).length),(1000,.cells (srM roots C A S dec 1004 st.length)),(1001,.tok 6 S.infs.length),(1002,.tok 1 S.drv.length),(1003,.map D4 (D6 0 S.infs)),(1004,.arr 1 (st.map AX))],Ab⟩ (Yi ⟨Z6,Z6,Fh,Az (by kernel_rfl)⟩ ?_)
    refine Yi (Ii j (by omega)) ?_;refine Xi ⟨(j+1,k,S),FG n4,by rw[←(dw (s:=S) (p:=p) (L:=L) (j:=j) (k:=k) n4 (by rw[h5,h7];simp) (by have q:=h8;omega) Ty)];exact j2,j3,j4,j5⟩ ?_;exact⟨Dl L.length j (by omega),Z6,Z6,Fh,Az (by kernel_rfl)⟩
   have Ty:((BF (DV S k) (DV S L[j]) p).2:Int)=(0:Int):=A9 Ty;refine Xi (.gen Zg 0) (Yi rfl (Bj.imp (mB roots C A S dec st ⟨3,p,0,0,(k:Nat),(L[j]:Nat)⟩ (BF (DV S k) (DV S L[j]) p).1 z7.1 z7.2.1 j3.nodup) ?_));intro v12 g12 mv;have pO:=mv.1;have pP:=mv.2;subst pO;subst pP;refine Xi ⟨[(0,.ref 1000 0),(1,vs p),(9,vi (((Em S ⟨3,p,0,0,(k:Nat),(L[j]:Nat)⟩ (BF (DV S k) (DV S L[j]) p).1).1:Nat):Int)),(33,.slice (.id 31 1) (L.map BT)),(34,vi (L.map BT).length),(35,vi j)],[(31,.tok 1 (L.map BT).length),(1000,.cells [sl AM roots,.cmap Dn C,.cmap Dn A,.slice (.id 1001 6) ((Em S ⟨3,p,0,0,(k:Nat),(L[j]:Nat)⟩ (BF (DV S k) (DV S L[j]) p).1).2.infs.map B4),.slice (.id 1002 1) ((Em S ⟨3,p,0,0,(k:Nat),(L[j]:Nat)⟩ (BF (DV S k) (DV S L[j]) p).1).2.drv.map Cj),.mref 1003,vb (Em S ⟨3,p,0,0,(k:Nat),(L[j]:Nat)⟩ (BF (DV S k) (DV S L[j]) p).1).2.full,sl AI dec,sl Ae (AO dec),.msl 1004 st.length]),(1001,.tok 6 (Em S ⟨3,p,0,0,(k:Nat),(L[j]:Nat)⟩ (BF (DV S k) (DV S L[j]) p).1).2.infs.length),(1002,.tok 1 (Em S ⟨3,p,0,0,(k:Nat),(L[j]:Nat)⟩ (BF (DV S k) (DV S L[j]) p).1).2.drv.length),(1003,.map D4 (D6 0 (Em S ⟨3,p,0,0,(k:Nat),(L[j]:Nat)⟩ (BF (DV S k) (DV S L[j]) p).1).2.infs)),(1004,.arr 1 (st.map AX))],Ab⟩ (Yi ⟨Z6,Z6,Fh,Az (by kernel_rfl)⟩ ?_)
   refine Yi (Ii j (by omega)) ?_;obtain⟨a1,a2,a3⟩:=j3.add (VF (x:=x) (roots:=roots) (p:=p) j4 (j5 _ (Ak n4)) Ty);refine Xi ⟨(j+1,(Em S ⟨3,p,0,0,(k:Nat),(L[j]:Nat)⟩ (BF (DV S k) (DV S L[j]) p).1).1,(Em S ⟨3,p,0,0,(k:Nat),(L[j]:Nat)⟩ (BF (DV S k) (DV S L[j]) p).1).2),FG n4,by rw[←(dv (s:=S) (p:=p) (L:=L) (j:=j) (k:=k) n4 (by rw[h5,h7];simp) (by have q:=h8;omega) Ty)];exact j2,a1,a2,fun r hr=>BQ (j5 r hr) a3⟩ ?_;exact⟨Dl L.length j (by omega),Z6,Z6,Fh,Az (by kernel_rfl)⟩
  have h7:(Dm (DV S k) p)=false:=h7;refine Xi .pure (Xi _ (Yi (cb h7 (ku (DV S k) p (Fp (ug _ (Ax (Fe j4)))))) ?_));refine Xi ⟨[(9,vi k)],[(1000,.cells (srM roots C A S dec 1004 st.length)),(1001,.tok 6 S.infs.length),(1002,.tok 1 S.drv.length),(1003,.map D4 (D6 0 S.infs)),(1004,.arr 1 (st.map AX))],Ab⟩ (Yi ⟨Z1,Z5,Fh,Az (by kernel_rfl)⟩ ?_)
  have eR:Cp p L (Br s n).1 (Ew x p (Br s n).2).2=(k,S):=by rw[←j2];exact T2 n4 (.inr h7)
  have eL:Ee x p n rs s=(k,S):=by unfold Ee;rw[←hL];exact eR
  exact Xi _ (Yi (.refl _) (Yi (show vi (k:Int)=vi (((Ee x p n rs s).1:Nat):Int) by rw[eL]) (show Ap (Jq roots C A S dec st) Ab=Ap (Jq roots C A (Ee x p n rs s).2 dec st) Ab by rw[eL])))
 have h4:¬((j:Int)<((L.map BT).length:Int)):=h4;have n4:=Ix h4;have hj:¬j<L.length:=by have q:=h4;rw[Lm]at q;omega
 have eR:Cp p L (Br s n).1 (Ew x p (Br s n).2).2=(k,S):=by rw[←j2,DJ (by omega)];rfl
 have eL:Ee x p n rs s=(k,S):=by unfold Ee;rw[←hL];exact eR
 exact Xi _ (Yi (.refl _) (Yi (show vi (k:Int)=vi (((Ee x p n rs s).1:Nat):Int) by rw[eL]) (show Ap (Jq roots C A S dec st) Ab=Ap (Jq roots C A (Ee x p n rs s).2 dec st) Ab by rw[eL])))
abbrev Zh:Ji:=[(1000,1000),(1001,1001),(1002,1002),(1003,1003),(500,1004)]
abbrev uM(roots:List Rq)(C A:List (Value×AV))(s:SS)(dec:List Cd)(st:List (List Sk)):List (Nat×HO) :=
 [(1000,.cells (srM roots C A s dec 2000 st.length)),(1001,.tok 6 s.infs.length),(1002,.tok 1 s.drv.length),(1003,.map D4 (D6 0 s.infs)),(1004,.dead),(2000,.arr 1 (st.map AX))]
abbrev Zi(roots:List Rq)(C A:List (Value×AV))(o:Km)(r:AV)(h' : Nat→HO):Prop:=r=.tup [vi (o.res:Nat),vb o.found]∧h'=Ap (uM roots C A o.ss o.dec o.stack) Ab
def H64(roots:List Rq)(C A:List (Value×AV)):Prop:=∀(s:SS) (dec:List Cd) (st:List (List Sk)),dec.length≤1000→(∀c∈dec,c.rel.reqs.length≤1073741824) →
 Bj Tryz.prog 119 [.ref 1000 0] (Ap (Jq roots C A s dec st) Ab) fun r h'=>r=.tup [vs (GW roots dec).1,sl Bf (GW roots dec).2]∧h'=Ap (Jq roots C A s dec st) Ab
theorem NZ{roots:List Rq}{C A:List (Value×AV)}{o:Km}{k:Nat}{b:Bool}{s:SS}{dec:List Cd}{st:List (List Sk)}(e:o=⟨k,b,s,dec,st⟩) :
  AV.tup [vi (k:Nat),vb b]=.tup [vi (o.res:Nat),vb o.found]∧Ap (uM roots C A s dec st) Ab=Ap (uM roots C A o.ss o.dec o.stack) Ab:=by rw[e];exact Zr
abbrev Zf:Ji:=[(1000,1000),(1001,1001),(1002,1002),(1003,1003),(1004,1004),(1005,1005),(1006,1006),(1007,1007),(1008,1008),(1009,1009)]
def Gr(roots:List Rq)(dec:List Cd)(m:Nat):ByteArray×List Nd:=((DE roots dec).take m).foldl (Eu dec) (mt,[])
theorem YO{roots:List Rq}{dec:List Cd}{m:Nat}{n:Nd}(h:(DE roots dec)[m]?=some n):Gr roots dec (m+1)=Eu dec (Gr roots dec m) n:=by
 unfold Gr;rw[BA,h,KD];rfl
theorem me{roots:List Rq}{dec:List Cd}{m:Nat}(h:(DE roots dec).length≤m):Gr roots dec m=GW roots dec:=by
 unfold Gr GW;rw[AL h]
def Fo(roots:List Rq)(dec:List Cd)(j:Nat):Nat:=roots.length+((dec.take j).map fun c=>c.rel.reqs.length).sum
theorem Um(c:Cd):(QR c).length=c.rel.reqs.length:=K5 _ _ _
theorem dK(roots:List Rq)(dec:List Cd):Fo roots dec 0=roots.length:=by unfold Fo;simp
theorem dJ{roots:List Rq}{dec:List Cd}{j:Nat}(h:j<dec.length):Fo roots dec (j+1)=Fo roots dec j+dec[j].rel.reqs.length:=by
 unfold Fo;rw[KF h,AG,List.sum_append];simp[Nat.add_assoc]
theorem YR(roots:List Rq)(dec:List Cd):Fo roots dec dec.length=(DE roots dec).length:=by
 unfold Fo DE Y4;rw[Dq,Ad,K5,List.length_flatten,BU]
 congr 2
 exact Bk fun c _=>(Um c).symm
theorem dC{roots:List Rq}{dec:List Cd}{i:Nat}(h:i<roots.length):(DE roots dec)[i]?=some ⟨roots[i],mt,0,(i:Nat)⟩:=by
 unfold DE Y4;rw[A3 (by rw[K5];exact h),PJ,Ge h,FN,Bo]
theorem X2{α:Type}:∀{l:List (List α)} {j k:Nat} (hj:j<l.length),k<l[j].length→l.flatten[((l.take j).map List.length).sum+k]?=l[j][k]?
 |y::l,0,k,_,hk=>by
  rw[BI,List.take_zero,Fk,List.sum_nil,Bo,A3 (show k<y.length from hk)];rfl
 |y::l,j+1,k,hj,hk=>by
  rw[BI,Jh,AQ,List.sum_cons,A1 (by omega)]
  have:=X2 (l:=l) (j:=j) (k:=k) (by simpa using hj) hk
  rw[show y.length+((l.take j).map List.length).sum+k-y.length=((l.take j).map List.length).sum+k by omega,this]
  rfl
theorem iQ{roots:List Rq}{dec:List Cd}{j k:Nat}(hj:j<dec.length)(hk:k<dec[j].rel.reqs.length):(DE roots dec)[Fo roots dec j+k]?=some ⟨dec[j].rel.reqs[k],dec[j].rel.path,dec[j].place,(k:Nat)⟩:=by
 unfold DE Y4 Fo;rw[A1 (by rw[K5];omega),K5];have h:=X2 (l:=dec.map QR) (j:=j) (k:=k) (by simpa using hj) (by rw[G4,Um];exact hk);rw[←L8,BU,show(List.length ∘ QR)=fun c=>c.rel.reqs.length from funext Um]at h;rw[show roots.length+((dec.take j).map fun c=>c.rel.reqs.length).sum+k-roots.length=((dec.take j).map fun c=>c.rel.reqs.length).sum+k by omega,h,G4];unfold QR;rw[PJ,Ge hk,FN,Bo]
abbrev iZ(roots:List Rq)(C A:List (Value×AV))(s:SS)(dec:List Cd)(st:List (List Sk))(m:Nat):List (Nat×HO) :=
  [(1000,.cells (uL roots C A s dec st.length)),(1001,.tok 6 s.infs.length),(1002,.tok 1 s.drv.length),(1003,.map D4 (D6 0 s.infs)),(1004,.arr 1 (st.map AX)),
   (1005,.cells [.ref 1000 0]),(1006,.cells [vs (Gr roots dec m).1]),(1007,.cells [.slice (.ver 1008 5 m) ((Gr roots dec m).2.map Bf)]),(1008,.var 5 m ((Gr roots dec m).2.map Bf).length),(1009,.cells [.ref 1000 0])]
noncomputable abbrev cxn(pl:Si)(l:Nat)(Y:Gh→World→Prop):Cx:=⟨Tryz.prog,nH,pl,true,0,fun l' σ' g w=>l'=l→σ'=Zf→Y g w⟩
theorem Ja.pre{P:Program}{Y Y' : Gh→World→Prop}{l:Nat}{args:List AV}{h0:Nat→HO}{Q:AV→(Nat→HO)→Prop}(h:Ja P Y l args h0 Q)(hp:∀g w,Y' g w→Y g w):Ja P Y' l args h0 Q :=
 fun g w vals q1 q2 q3 q4=>h g w vals q1 q2 q3 (hp g w q4)
theorem yH(roots:List Rq)(C A:List (Value×AV))(s:SS)(dec:List Cd)(st:List (List Sk)):Bj Tryz.prog 150 [.ref 1000 0] (Ap (Jq roots C A s dec st) Ab) fun r h'=>r=.clo 192 [.ref 2000 0]∧h'=Ap (Jq roots C A s dec st++[(2000,.cells [.ref 1000 0])]) Ab:=by
 refine Cq (M4 ⟨[],[],[],[],[],[],[],[],[],[],[]⟩) [(1000,1000),(1001,1001),(1002,1002),(1003,1003),(1004,1004),(1,2000)] rfl CX hm rfl Tryz.func150 (by kernel_rfl) rfl (Nz rfl) (by kernel_rfl) rfl ?_;exact Xi _ (Yi (.refl _) Zr)
theorem yI{Y:Gh→World→Prop}(l:Nat)(roots:List Rq)(C A:List (Value×AV))(s:SS)(dec:List Cd)(st:List (List Sk))(hr:roots.length≤1073741824)(hd:dec.length≤1073741824)(m7:∀c∈dec,c.rel.reqs.length≤1073741824)
  (hy:∀m n,(DE roots dec)[m]?=some n→Ja Tryz.prog Y l [.agg (Bf n)] (Ap (iZ roots C A s dec st m) Ab) fun r h'=>r=vb true∧h'=Ap (iZ roots C A s dec st (m+1)) Ab) :
  Xt Tryz.prog Y Zf 192 [.v (.func (.yield l) #[] #[]),.ref 1005 0] (Ap (iZ roots C A s dec st 0) Ab) fun _ h'=>h'=Ap (iZ roots C A s dec st (DE roots dec).length) Ab:=by
 have hr:roots.length≤1073741824:=hr;refine im (l:=l) (cxn ⟨[],[],[],[],[],[],[],[],[],[],[4,12]⟩ l Y) Zf rfl CX hm rfl Tryz.func192 (by kernel_rfl) rfl (Nz rfl) (by kernel_rfl) rfl rfl ?_;refine Xi {i:Nat // i≤roots.length} (Xi (fun q=>⟨[(0,.v (.func (.yield l) #[] #[])),(1,.ref 1005 0),(12,sl AM roots),(13,vi (roots.map AM).length),(14,vi q.1)],[(1000,.cells (srM roots C A s dec 1004 st.length)),(1001,.tok 6 s.infs.length),(1002,.tok 1 s.drv.length),(1003,.map D4 (D6 0 s.infs)),(1004,.arr 1 (st.map AX)),(1005,.cells [.ref 1000 0]),(1006,.cells [vs (Gr roots dec q.1).1]),(1007,.cells [.slice (.ver 1008 5 q.1) ((Gr roots dec q.1).2.map Bf)]),(1008,.var 5 q.1 ((Gr roots dec q.1).2.map Bf).length),(1009,.cells [.ref 1000 0])],Ab⟩) (Xi (fun q=>roots.length-q.1) (Yi (Xi ⟨0,AF _⟩ ?_) ?_)))
 ·exact⟨Z5,Z10,Fh,Az (by kernel_rfl)⟩
 intro⟨i,i1⟩;have i1:i≤roots.length:=i1;refine Yi (fun h1=>?_) (fun h1=>?_)
 ·have h1:(i:Int)<((roots.map AM).length:Int):=h1;have n1:=Iy h1;refine Xi (AM roots[i]) (Yi (J3 n1) (Yi rfl ?_));refine Yi (Nz rfl) ?_;refine Yi (Nz rfl) ?_;refine Yi (Nz rfl) ?_;refine Xi (.gen Zf 0) (Yi rfl (Ja.imp (Ja.pre (hy i ⟨roots[i],mt,0,(i:Nat)⟩ (dC n1)) (fun g w q=>q rfl rfl)) ?_));intro v2 g2 q2;have yg:=q2.1;have yh:=q2.2;subst yg;subst yh;refine Xi ⟨[(0,.v (.func (.yield l) #[] #[])),(1,.ref 1005 0),(12,sl AM roots),(13,vi (roots.map AM).length),(14,vi i)],[(1000,.cells (srM roots C A s dec 1004 st.length)),(1001,.tok 6 s.infs.length),(1002,.tok 1 s.drv.length),(1003,.map D4 (D6 0 s.infs)),(1004,.arr 1 (st.map AX)),(1005,.cells [.ref 1000 0]),(1006,.cells [vs (Gr roots dec (i+1)).1]),(1007,.cells [.slice (.ver 1008 5 (i+1)) ((Gr roots dec (i+1)).2.map Bf)]),(1008,.var 5 (i+1) ((Gr roots dec (i+1)).2.map Bf).length),(1009,.cells [.ref 1000 0])],Ab⟩ (Yi ⟨Z5,Z10,Fh,Az (by kernel_rfl)⟩ ?_)
  refine Yi (Ii i (by omega)) ?_;refine Xi ⟨i+1,by omega⟩ ?_;exact⟨Dl roots.length i (by omega),Z5,Z10,Fh,Az (by kernel_rfl)⟩
 have h1:¬((i:Int)<((roots.map AM).length:Int)):=h1;have n1:=Ix h1;have hE:i=Fo roots dec 0:=by rw[dK];omega
 refine Xi {j:Nat // j≤dec.length} (Xi (fun q=>⟨[(0,.v (.func (.yield l) #[] #[])),(29,sl AI dec),(30,vi (dec.map AI).length),(31,vi q.1)],[(1000,.cells (srM roots C A s dec 1004 st.length)),(1001,.tok 6 s.infs.length),(1002,.tok 1 s.drv.length),(1003,.map D4 (D6 0 s.infs)),(1004,.arr 1 (st.map AX)),(1005,.cells [.ref 1000 0]),(1006,.cells [vs (Gr roots dec (Fo roots dec q.1)).1]),(1007,.cells [.slice (.ver 1008 5 (Fo roots dec q.1)) ((Gr roots dec (Fo roots dec q.1)).2.map Bf)]),(1008,.var 5 (Fo roots dec q.1) ((Gr roots dec (Fo roots dec q.1)).2.map Bf).length),(1009,.cells [.ref 1000 0])],Ab⟩) (Xi (fun q=>dec.length-q.1) (Yi (Xi ⟨0,AF _⟩ ?_) ?_)))
 ·exact⟨Z4,⟨Zr,Zr,Zr,Zr,Zr,Zr,⟨(show .cells [vs (Gr roots dec i).1]=(.cells [vs (Gr roots dec (Fo roots dec 0)).1]:HO) by rw[hE]),rfl⟩,⟨(show .cells [.slice (.ver 1008 5 i) ((Gr roots dec i).2.map Bf)]=(.cells [.slice (.ver 1008 5 (Fo roots dec 0)) ((Gr roots dec (Fo roots dec 0)).2.map Bf)]:HO) by rw[hE]),rfl⟩,⟨(show .var 5 i ((Gr roots dec i).2.map Bf).length=(.var 5 (Fo roots dec 0) ((Gr roots dec (Fo roots dec 0)).2.map Bf).length:HO) by rw[hE]),rfl⟩,Zr,Tv⟩,Fh,Az (by kernel_rfl)⟩
 intro⟨j,j1⟩;have j1:j≤dec.length:=j1;refine Yi (fun h4=>?_) (fun h4=>?_)
 ·have h4:(j:Int)<((dec.map AI).length:Int):=h4;have n4:=Iy h4;have ue:=m7 dec[j] (Ak n4);refine Xi (AI dec[j]) (Yi (J3 n4) (Yi rfl ?_));refine Yi (Nz rfl) ?_;refine Yi (Nz rfl) ?_;refine Xi {k:Nat // k≤dec[j].rel.reqs.length} (Xi (fun q=>⟨[(0,.v (.func (.yield l) #[] #[])),(6,.ref 6 0),(29,sl AI dec),(30,vi (dec.map AI).length),(31,vi j),(37,sl AM dec[j].rel.reqs),(38,vi (dec[j].rel.reqs.map AM).length),(39,vi q.1)],[(6,.cells (AI dec[j])),(1000,.cells (srM roots C A s dec 1004 st.length)),(1001,.tok 6 s.infs.length),(1002,.tok 1 s.drv.length),(1003,.map D4 (D6 0 s.infs)),(1004,.arr 1 (st.map AX)),(1005,.cells [.ref 1000 0]),(1006,.cells [vs (Gr roots dec (Fo roots dec j+q.1)).1]),(1007,.cells [.slice (.ver 1008 5 (Fo roots dec j+q.1)) ((Gr roots dec (Fo roots dec j+q.1)).2.map Bf)]),(1008,.var 5 (Fo roots dec j+q.1) ((Gr roots dec (Fo roots dec j+q.1)).2.map Bf).length),(1009,.cells [.ref 1000 0])],Ab⟩) (Xi (fun q=>dec[j].rel.reqs.length-q.1) (Yi (Xi ⟨0,AF _⟩ ?_) ?_)))
  ·exact⟨Z8,Z11,Fh,Az (by kernel_rfl)⟩
  intro⟨k,k1⟩;have k1:k≤dec[j].rel.reqs.length:=k1;refine Yi (fun h5=>?_) (fun h5=>?_)
  ·have h5:(k:Int)<((dec[j].rel.reqs.map AM).length:Int):=h5;have n5:=Iy h5;refine Xi (AM dec[j].rel.reqs[k]) (Yi (J3 n5) (Yi rfl ?_));refine Yi (Nz rfl) ?_;refine Yi (Nz rfl) ?_;refine Yi (Nz rfl) ?_;refine Xi (.gen Zf 0) (Yi rfl (Ja.imp (Ja.pre (hy (Fo roots dec j+k) ⟨dec[j].rel.reqs[k],dec[j].rel.path,dec[j].place,(k:Nat)⟩ (iQ n4 n5)) (fun g w q=>q rfl rfl)) ?_));intro v6 g6 q6;have yv:=q6.1;have yw:=q6.2;subst yv;subst yw;refine Xi ⟨[(0,.v (.func (.yield l) #[] #[])),(6,.ref 6 0),(29,sl AI dec),(30,vi (dec.map AI).length),(31,vi j),(37,sl AM dec[j].rel.reqs),(38,vi (dec[j].rel.reqs.map AM).length),(39,vi k)],[(6,.cells (AI dec[j])),(1000,.cells (srM roots C A s dec 1004 st.length)),(1001,.tok 6 s.infs.length),(1002,.tok 1 s.drv.length),(1003,.map D4 (D6 0 s.infs)),(1004,.arr 1 (st.map AX)),(1005,.cells [.ref 1000 0]),(1006,.cells [vs (Gr roots dec (Fo roots dec j+(k+1))).1]),(1007,.cells [.slice (.ver 1008 5 (Fo roots dec j+(k+1))) ((Gr roots dec (Fo roots dec j+(k+1))).2.map Bf)]),(1008,.var 5 (Fo roots dec j+(k+1)) ((Gr roots dec (Fo roots dec j+(k+1))).2.map Bf).length),(1009,.cells [.ref 1000 0])],Ab⟩ (Yi ⟨Z8,Z11,Fh,Az (by kernel_rfl)⟩ ?_)
   refine Yi (Ii k (by omega)) ?_;refine Xi ⟨k+1,by omega⟩ ?_;exact⟨by show dec[j].rel.reqs.length-(k+1)<dec[j].rel.reqs.length-k;omega,Z8,Z11,Fh,Az (by kernel_rfl)⟩
  have h5:¬((k:Int)<((dec[j].rel.reqs.map AM).length:Int)):=h5;have n5:=Ix h5;refine Yi (Ii j (by omega)) ?_;have hE:Fo roots dec j+k=Fo roots dec (j+1):=by rw[dJ n4];omega
  refine Xi ⟨j+1,by omega⟩ ?_;exact⟨Dl dec.length j (by omega),Z4,⟨Zr,Zr,Zr,Zr,Zr,Zr,⟨(show .cells [vs (Gr roots dec (Fo roots dec j+k)).1]=(.cells [vs (Gr roots dec (Fo roots dec (j+1))).1]:HO) by rw[hE]),rfl⟩,⟨(show .cells [.slice (.ver 1008 5 (Fo roots dec j+k)) ((Gr roots dec (Fo roots dec j+k)).2.map Bf)]=(.cells [.slice (.ver 1008 5 (Fo roots dec (j+1))) ((Gr roots dec (Fo roots dec (j+1))).2.map Bf)]:HO) by rw[hE]),rfl⟩,⟨(show .var 5 (Fo roots dec j+k) ((Gr roots dec (Fo roots dec j+k)).2.map Bf).length=(.var 5 (Fo roots dec (j+1)) ((Gr roots dec (Fo roots dec (j+1))).2.map Bf).length:HO) by rw[hE]),rfl⟩,Zr,Tv⟩,Fh,Az (by kernel_rfl)⟩
 have h4:¬((j:Int)<((dec.map AI).length:Int)):=h4;have n4:=Ix h4;exact Aa (fun m=>Ap (iZ roots C A s dec st m) Ab) (show Fo roots dec j=(DE roots dec).length by rw[←YR];congr 1;omega)
end Go.Eng
