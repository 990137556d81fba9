/- Lemmas for the claims of this seat, without a condition: part 24 (S4, S5, S8a, S9, S10). -/
import Derived.Test.YtddfphmpfnmknaaGreatDoorFA23
set_option maxHeartbeats 4000000
namespace Go.Eng
open Go.Proofs
def Ti(l:List Cd)(q:Rq):Bool:=l.any fun d=>decide (d.rel.path=q.path)&&!has q.set d.place
theorem US{f:Rq→Nat→Nd}{P:Nd→Bool}:∀{l:List Rq} {b i:Nat} {q:Rq},l[i]?=some q→P (f q (b+i))=true→(∀k u,k<i→l[k]?=some u→P (f u (b+k))=false)→(L9 f b l).find? P=some (f q (b+i))
 | [],_,_,_,h,_,_=>by simp at h
 |u::l,b,0,q,h,he,_=>by
  cases h
  unfold L9;rw[EJ,show P (f u b)=true from he];rfl
 |u::l,b,i+1,q,h,he,hn=>by
  unfold L9;have h0:P (f u b)=false:=hn 0 u (by omega) rfl;rw[EJ,h0]
  have:=US (f:=f) (P:=P) (l:=l) (b:=b+1) (i:=i) (q:=q) (by simpa using h) (by rw[show b+1+i=b+(i+1) by omega];exact he) (fun k v hk hv=>by
   rw[show b+1+k=b+(k+1) by omega];exact hn (k+1) v (by omega) (by simpa using hv))
  rw[show b+1+i=b+(i+1) by omega]at this;exact this
theorem Ox{f:Rq→Nat→Nd}{P:Nd→Bool}:∀{l:List Rq} {b:Nat},(∀k u,l[k]?=some u→P (f u (b+k))=false)→(L9 f b l).find? P=none
 | [],_,_=>rfl
 |u::l,b,h=>by
  unfold L9;have h0:P (f u b)=false:=h 0 u rfl;rw[EJ,h0];exact Ox fun k v hv=>by rw[show b+1+k=b+(k+1) by omega];exact h (k+1) v (by simpa using hv)
def yX:AV:=.agg [vs ⟨#[]⟩,.v (.slice none 0 0),vs ⟨#[]⟩,vi 0,vi 0]
def m9(o:Option Nd):AV:=match o with | some n=>.tup [.agg (A9 n),vb true] | none=>.tup [yX,vb false]
section
variable {dec:List Cd}{c:Cd}{i:Nat}
theorem eH(hi:i<c.rel.reqs.length)(hn:∀k q,k<i→c.rel.reqs[k]?=some q→Ti (dec++[c]) q=false){j:Nat}(hj:j<(dec++[c]).length)(h1:(dec++[c])[j].rel.path=c.rel.reqs[i].path)(h2:has c.rel.reqs[i].set (dec++[c])[j].place=false) :
  D0 dec c=some ⟨c.rel.reqs[i],c.rel.path,c.place,(i:Nat)⟩:=by
 have:=US (f:=fun q i=>⟨q,c.rel.path,c.place,(i:Nat)⟩) (P:=aH (dec++[c])) (l:=c.rel.reqs) (b:=0) (i:=i) (q:=c.rel.reqs[i]) (Ge hi)
  (Bb.2 ⟨_,AC hj,by rw[Ax h1,h2];rfl⟩) (fun k u hk hu=>hn k u hk hu)
 unfold D0 PV;rw[this,Bg]
theorem eI(hn:∀(k:Nat) (q:Rq),c.rel.reqs[k]?=some q→Ti (dec++[c]) q=false):D0 dec c=none:=by
 unfold D0 PV;exact Ox fun k u hu=>hn k u hu
theorem gE{q:Rq}(h:∀(m:Nat) (d:Cd),(dec++[c])[m]?=some d→(decide (d.rel.path=q.path)&&!has q.set d.place)=false):Ti (dec++[c]) q=false:=by
 unfold Ti;rw[Gb];intro d hd;obtain⟨m,hm⟩:=B4.1 hd;rw[h m d hm];decide
end
theorem s87(n:Nd)(c:Cd)(hq:CM n.rq.set):PC 89 [.agg (A9 n),.cptr (AA c)] (vb (!has n.rq.set c.place)):=by
 refine Ps ⟨[2],[],[],[],[],[],[],[],[],[],[]⟩ Tryz.func89 rfl (Nz rfl) ?_;refine Dp (Bt (has n.rq.set c.place)) (fun h1=>?_) (fun h1=>?_)
 ·have h1:(has n.rq.set c.place)=true:=h1;refine Xi .pure (Xi _ (Yi (cb h1 (pS n.rq.set c.place hq)) ?_));exact .of_eq (show vb false=vb (!has n.rq.set c.place) by rw[h1];rfl)
 have h1:(has n.rq.set c.place)=false:=h1;refine Xi .pure (Xi _ (Yi (cb h1 (pS n.rq.set c.place hq)) ?_));exact .of_eq (show vb true=vb (!has n.rq.set c.place) by rw[h1];rfl)
theorem yS(roots:List Rq)(C A:List (Value×AV))(s:SS)(dec:List Cd)(st:List (List Sk))(c:Cd)(hd:dec.length≤1073741823)(hr:c.rel.reqs.length≤1073741824)(hq:∀q∈c.rel.reqs,CM q.set):A3 Tryz.prog 93 [.ref 1000 0,.agg (AA c)] (Ai (I4 roots C A s dec st) Ab) fun r h'=>r=m9 (D0 dec c)∧h'=Ai (I4 roots C A s dec st) Ab:=by
 have hd:dec.length≤1073741823:=hd;have hdl:(dec++[c]).length=dec.length+1:=by simp
 refine BS (KV ⟨[3],[],[],[],[],[],[],[],[(23,3)],[],[4,8,9]⟩) [(1000,1000),(1001,1001),(1002,1002),(1003,1003),(1004,1004)] rfl Ck hm rfl Tryz.func93 (by kernel_rfl) rfl (Nz rfl) (by kernel_rfl) rfl ?_;refine Xi {i:Nat // i≤c.rel.reqs.length∧∀k q,k<i→c.rel.reqs[k]?=some q→Ti (dec++[c]) q=false} (Xi (fun q=>⟨[(0,.ref 1000 0),(3,.ref 3 0),(4,.ref 4 0),(12,sl AK c.rel.reqs),(13,vi (c.rel.reqs.map AK).length),(14,vi q.1)],[(3,.ro (AA c)),(4,.cells [vs ⟨#[]⟩,.v (.slice none 0 0),vs ⟨#[]⟩,vi 0,vi 0]),(1000,.cells (srM roots C A s dec 1004 st.length)),(1001,.tok 6 s.infs.length),(1002,.tok 1 s.drv.length),(1003,.map DS (DW 0 s.infs)),(1004,.arr 1 (st.map AR))],Ab⟩) (Xi (fun q=>c.rel.reqs.length-q.1) (Yi (Xi ⟨0,AJ _,fun k q h=>absurd h (JA k)⟩ ?_) ?_)))
 ·exact⟨Z6,Z7,Fh,Aw (by kernel_rfl)⟩
 intro⟨i,i1,i2⟩;have i1:i≤c.rel.reqs.length:=i1;have i2:∀k q,k<i→c.rel.reqs[k]?=some q→Ti (dec++[c]) q=false:=i2;refine Yi (fun h1=>?_) (fun h1=>?_)
 ·have h1:(i:Int)<((c.rel.reqs.map AK).length:Int):=h1;have n1:=LC h1;refine Xi (AK c.rel.reqs[i]) (Yi (Uo n1) (Yi rfl ?_));refine Yi (Nz rfl) ?_;refine Yi (Nz rfl) ?_;refine Xi ⟨[(0,.ref 1000 0),(3,.ref 3 0),(4,.ref 4 0),(6,vi i),(7,.ref 7 0),(12,sl AK c.rel.reqs),(13,vi (c.rel.reqs.map AK).length),(14,vi i)],[(3,.ro (AA c)),(4,.cells [vs ⟨#[]⟩,.v (.slice none 0 0),vs ⟨#[]⟩,vi 0,vi 0]),(7,.cells (AK c.rel.reqs[i])),(1000,.cells (srM roots C A s dec 1004 st.length)),(1001,.tok 6 s.infs.length),(1002,.tok 1 s.drv.length),(1003,.map DS (DW 0 s.infs)),(1004,.arr 1 (st.map AR))],Ab⟩ (Yi ⟨Z8,Z8,Fh,Aw (by kernel_rfl)⟩ ?_)
  refine Xi _ (Xi _ (Yi (by kernel_rfl) (Yi (rU dec (Br hd (by decide))) ?_)));refine Yi (Nz rfl) ?_;have b2:Df 10 [(AA c)]∧(dec.map AA).length=(dec.map AA).length∧((dec.map AA).length+([(AA c)]:List (List AV)).length)*128≤140737488355328∧(dec.map AA).length+([(AA c)]:List (List AV)).length≤9223372036854775807:=⟨⟨rfl,trivial⟩,rfl,(by simp only[Lm,Av,AF];omega),(by simp only[Lm,Av,AF];omega)⟩;refine Yi b2 ?_;refine Yi (by kernel_rfl) ?_;refine Xi {j:Nat // j≤(dec++[c]).length∧∀m d,m<j→(dec++[c])[m]?=some d→(decide (d.rel.path=c.rel.reqs[i].path)&&!has c.rel.reqs[i].set d.place)=false} (Xi (fun q=>⟨[(0,.ref 1000 0),(3,.ref 3 0),(4,.ref 4 0),(6,vi i),(7,.ref 7 0),(12,sl AK c.rel.reqs),(13,vi (c.rel.reqs.map AK).length),(14,vi i),(26,.slice (.id 12300 10) ((dec++[c]).map AA)),(27,vi ((dec++[c]).map AA).length),(28,vi q.1)],[(3,.ro (AA c)),(4,.cells [vs ⟨#[]⟩,.v (.slice none 0 0),vs ⟨#[]⟩,vi 0,vi 0]),(7,.cells (AK c.rel.reqs[i])),(1000,.cells (srM roots C A s dec 1004 st.length)),(1001,.tok 6 s.infs.length),(1002,.tok 1 s.drv.length),(1003,.map DS (DW 0 s.infs)),(1004,.arr 1 (st.map AR)),(12300,.tok 10 ((dec++[c]).map AA).length)],Ab⟩) (Xi (fun q=>(dec++[c]).length-q.1) (Yi (Xi ⟨0,AJ _,fun k q h=>absurd h (JA k)⟩ ?_) ?_)))
  ·exact⟨⟨Zr,Zr,Zr,Zr,Zr,Zr,Zr,Zr,⟨tkA,rfl⟩,⟨(show vi ((dec.map AA++[AA c]:List (List AV)).length:Int)=vi (((dec++[c]).map AA).length:Int) by rw[Ay];rfl),rfl⟩,Zr,Tv⟩,⟨Zr,Zr,Zr,Zr,Zr,Zr,Zr,Zr,⟨(show HO.tok 10 ((dec.map AA).length+[AA c].length)=.tok 10 ((dec++[c]).map AA).length by simp),rfl⟩,Tv⟩,Fh,Aw (by kernel_rfl)⟩
  intro⟨j,j1,j2⟩;have j1:j≤(dec++[c]).length:=j1;have j2:∀m d,m<j→(dec++[c])[m]?=some d→(decide (d.rel.path=c.rel.reqs[i].path)&&!has c.rel.reqs[i].set d.place)=false:=j2;refine Yi (fun h3=>?_) (fun h3=>?_)
  ·have h3:(j:Int)<(((dec++[c]).map AA).length:Int):=h3;have n3:=LC h3;refine Xi (AA ((dec++[c])[j])) (Yi (Uo n3) (Yi rfl ?_));refine Yi (Nz rfl) ?_;refine Yi (Nz rfl) ?_;refine Yi (fun h4=>?_) (fun h4=>?_)
   ·have h4:(((dec++[c])[j]).rel.path:ByteArray)=c.rel.reqs[i].path:=h4;refine Dp (Bt (has c.rel.reqs[i].set (dec++[c])[j].place)) (fun h5=>?_) (fun h5=>?_)
    ·have h5:(has c.rel.reqs[i].set (dec++[c])[j].place)=true:=h5;refine Xi .pure (Xi _ (Yi (cb h5 (pS c.rel.reqs[i].set (dec++[c])[j].place (hq _ (AC _)))) ?_));refine Xi ⟨[(0,.ref 1000 0),(3,.ref 3 0),(4,.ref 4 0),(6,vi i),(7,.ref 7 0),(12,sl AK c.rel.reqs),(13,vi (c.rel.reqs.map AK).length),(14,vi i),(26,.slice (.id 12300 10) ((dec++[c]).map AA)),(27,vi ((dec++[c]).map AA).length),(28,vi j)],[(3,.ro (AA c)),(4,.cells [vs ⟨#[]⟩,.v (.slice none 0 0),vs ⟨#[]⟩,vi 0,vi 0]),(7,.cells (AK c.rel.reqs[i])),(1000,.cells (srM roots C A s dec 1004 st.length)),(1001,.tok 6 s.infs.length),(1002,.tok 1 s.drv.length),(1003,.map DS (DW 0 s.infs)),(1004,.arr 1 (st.map AR)),(12300,.tok 10 ((dec++[c]).map AA).length)],Ab⟩ (Yi ⟨Z11,Z9,Fh,Aw (by kernel_rfl)⟩ ?_)
     refine Yi (Ii j (by omega)) ?_;refine Xi ⟨j+1,by omega,fun m d hm hd=>by
       by_cases e:m=j
       ·subst e;rw[Ge n3]at hd;cases hd;exact by rw[h5];simp
       ·exact j2 m d (by omega) hd⟩ ?_
     exact⟨by show(dec++[c]).length-(j+1)<(dec++[c]).length-j;omega,Z11,Z9,Fh,Aw (by kernel_rfl)⟩
    have h5:(has c.rel.reqs[i].set (dec++[c])[j].place)=false:=h5;refine Xi .pure (Xi _ (Yi (cb h5 (pS c.rel.reqs[i].set (dec++[c])[j].place (hq _ (AC _)))) ?_));refine Xi ⟨[(3,.ref 3 0),(4,.ref 4 0),(6,vi i),(7,.ref 7 0)],[(3,.ro (AA c)),(4,.cells [vs ⟨#[]⟩,.v (.slice none 0 0),vs ⟨#[]⟩,vi 0,vi 0]),(7,.cells (AK c.rel.reqs[i])),(1000,.cells (srM roots C A s dec 1004 st.length)),(1001,.tok 6 s.infs.length),(1002,.tok 1 s.drv.length),(1003,.map DS (DW 0 s.infs)),(1004,.arr 1 (st.map AR))],Ab⟩ (Yi ⟨Z4,Z8,Fh,Aw (by kernel_rfl)⟩ ?_)
    refine Yi (Nz rfl) ?_;refine Yi (Nz rfl) ?_;refine Yi (Nz rfl) ?_;have eC:=eH (dec:=dec) (c:=c) n1 i2 n3 h4 h5;exact Xi _ (Yi (.refl _) (Yi (show AV.tup [.agg (A9 ⟨c.rel.reqs[i],c.rel.path,c.place,(i:Nat)⟩),vb true]=m9 (D0 dec c) by rw[eC];rfl) rfl))
   have h4:¬(((dec++[c])[j]).rel.path:ByteArray)=c.rel.reqs[i].path:=h4;refine Xi ⟨[(0,.ref 1000 0),(3,.ref 3 0),(4,.ref 4 0),(6,vi i),(7,.ref 7 0),(12,sl AK c.rel.reqs),(13,vi (c.rel.reqs.map AK).length),(14,vi i),(26,.slice (.id 12300 10) ((dec++[c]).map AA)),(27,vi ((dec++[c]).map AA).length),(28,vi j)],[(3,.ro (AA c)),(4,.cells [vs ⟨#[]⟩,.v (.slice none 0 0),vs ⟨#[]⟩,vi 0,vi 0]),(7,.cells (AK c.rel.reqs[i])),(1000,.cells (srM roots C A s dec 1004 st.length)),(1001,.tok 6 s.infs.length),(1002,.tok 1 s.drv.length),(1003,.map DS (DW 0 s.infs)),(1004,.arr 1 (st.map AR)),(12300,.tok 10 ((dec++[c]).map AA).length)],Ab⟩ (Yi ⟨Z11,Z9,Fh,Aw (by kernel_rfl)⟩ ?_)
   refine Yi (Ii j (by omega)) ?_;refine Xi ⟨j+1,by omega,fun m d hm hd=>by
     by_cases e:m=j
     ·subst e;rw[Ge n3]at hd;cases hd;exact by rw[Az h4];rfl
     ·exact j2 m d (by omega) hd⟩ ?_
   exact⟨by show(dec++[c]).length-(j+1)<(dec++[c]).length-j;omega,Z11,Z9,Fh,Aw (by kernel_rfl)⟩
  have h3:¬((j:Int)<(((dec++[c]).map AA).length:Int)):=h3;have n3:=LB h3;refine Yi (Ii i (by omega)) ?_;have hmq:Ti (dec++[c]) c.rel.reqs[i]=false:=gE fun m d hd=>j2 m d (by have:=(Ap.1 hd).1;have q:=h3;rw[Lm]at q;omega) hd;refine Xi ⟨i+1,by omega,fun k q hk vF=>by
    by_cases e:k=i
    ·subst e;rw[Ge n1]at vF;cases vF;exact hmq
    ·exact i2 k q (by omega) vF⟩ ?_
  exact⟨Dl c.rel.reqs.length i (by omega),Z6,Z7,Fh,Aw (by kernel_rfl)⟩
 have h1:¬((i:Int)<((c.rel.reqs.map AK).length:Int)):=h1;have n1:=LB h1;refine Yi (Nz rfl) ?_;refine Yi (Nz rfl) ?_;have eC:=eI (dec:=dec) (c:=c) fun k q hk=>i2 k q (by have:=(Ap.1 hk).1;have q:=h1;rw[Lm]at q;omega) hk;exact Xi _ (Yi (.refl _) (Yi (show AV.tup [yX,vb false]=m9 (D0 dec c) by rw[eC];rfl) rfl))
theorem Ol{x:List Rl}{roots:List Rq}{l0:List Nf}:∀{l:List Nf} {d d' : List (List Tm)},(∀i∈l,i∈l0)→(∀t∈d,Ut (Kb x roots l0) t)→CZ x roots l d=some d'→∀t∈d',Ut (Kb x roots l0) t
 | [],d,d',_,hd,h=>by cases h;exact hd
 |i::l,d,d',hl,hd,h=>by
  unfold CZ at h;cases hi:DO x roots d i with
  |none=>rw[hi]at h;cases h
  |some t =>
   rw[hi]at h;refine Ol (fun j hj=>hl j (Ag _ hj)) (fun u hu=>?_) h;rcases AU.1 hu with hu | hu
   ·exact hd u hu
   ·rw[Am.1 hu];exact cu (hl i (Aa ..)) hd hi
section
variable {x:List Rl}{roots:List Rq}{s:SS}
theorem Fq.few(hx:AQ x=0)(hr:BK roots=0)(h:Fq x roots s):∀t∈s.drv,mA t:=fun t ht =>
 (Ol (l0:=s.infs) (fun _ h=>h) (fun _ h=>by cases h) h.der t ht).fewI (ZB hx hr h.len)
theorem H2{i:Nf}{l:List Tm}(h:s.infs.Nodup):(DJ s i l).2.infs.Nodup:=by
 cases hk:LD i 0 s.infs with
 |some k=>rw[W0 hk];exact h
 |none =>
  by_cases hf:65536≤s.infs.length
  ·rw[Uy hk hf];exact h
  ·rw[WY hk hf];show(s.infs++[i]).Nodup;rw[Gd];refine⟨h,by simp,fun a ha b hb e=>?_⟩;rw[Am.1 hb]at e;exact PS hk (e▸ha)
theorem JD.add(h:JD x roots s){i:Nf}{l:List Tm}(hi:DO x roots s.drv i=some l):JD x roots (DJ s i l).2∧(DJ s i l).1<(DJ s i l).2.drv.length∧s.drv.length≤(DJ s i l).2.drv.length :=
 ⟨⟨(Kk h.der hi).1,H2 h.nodup⟩,(Kk h.der hi).2.1,(Kl s i l).len⟩
theorem JD.dl(h:JD x roots s):s.infs.length≤65536∧s.drv.length=s.infs.length∧s.drv.length≤65536:=by
 have h1:=h.der.dlen;have h2:=h.der.len;exact⟨h2,h1,by omega⟩
theorem gN(hx:AQ x=0)(p:ByteArray):∀d,DO x roots d ⟨2,p,0,0,0,0⟩=some (HJ p (BZ x p)):=fun d=>by
 obtain⟨u,u0,u1,hu⟩:=bn hx p;have hV:F3 []:=fun _ h=>by cases h
 have ou:WU [] p (Ka [] p (Pk u)):=.ver hV (EY ⟨u0,u1⟩);have h1:Bc [(⟨p,false,Eh (BZ x p)⟩:Tm)] (Ka [] p (Pk u))=true:=by
  rw[Bx];intro t ht;rw[Am.1 ht];show Db _ (B1 (Ka [] p (Pk u)) p)=true;rw[Ia rfl];show(Cs (Pk u)&&has (Eh (BZ x p)) (place (Pk u)))=true;rw[EY ⟨u0,u1⟩,G5,FF,hu];unfold Lz;simp[u0,u1]
 have h2:Bc [(⟨p,false,Eh (BZ x p)⟩:Tm)] []=false:=rfl;have Dt:HJ p (BZ x p)≠[]:=by
  have c1:=CR (l:=[(⟨p,false,Eh (BZ x p)⟩:Tm)]) ou.val;have c2:=CR (l:=[(⟨p,false,Eh (BZ x p)⟩:Tm)]) hV;rw[h1]at c1;rw[h2]at c2;unfold HJ PQ;cases hc:CG [(⟨p,false,Eh (BZ x p)⟩:Tm)]with
  |none=>rw[hc]at c1;cases c1
  |some c =>
   rw[hc]at c2;intro e;have e:c=[]:=e;rw[e]at c2;cases c2
 unfold DO;rw[Ah (show ¬((2:Int)=0) by decide),Ah (show ¬((2:Int)=1) by decide),Ao rfl,Ao ⟨rfl,rfl,rfl,rfl⟩];unfold cI;rw[Ah (by rw[GL];exact Dt)]
theorem EH{k:Nat}(h:k<s.drv.length):s.drv[k]?=some (Dv s k):=by
 unfold Dv;rw[BT,Ge h];rfl
theorem Tc{p:ByteArray}{L:List Nat}{j k:Nat}(hj:j<L.length)(h:s.full=true∨CU (Dv s k) p=false):B3 p (L.drop j) k s=(k,s):=by
 rw[Bk hj];unfold B3;rw[Ao h]
theorem Zl{p:ByteArray}{L:List Nat}{j k:Nat}(hj:j<L.length)(h1:¬(s.full=true∨CU (Dv s k) p=false))(h:L[j]=k):B3 p (L.drop j) k s=B3 p (L.drop (j+1)) k s:=by
 rw[Bk hj]
 conv=>lhs;unfold B3
 rw[Ah h1,Ao h]
theorem cD{p:ByteArray}{L:List Nat}{j k:Nat}(hj:j<L.length)(h1:¬(s.full=true∨CU (Dv s k) p=false))(h2:¬L[j]=k)(h:(Bn (Dv s k) (Dv s L[j]) p).2≠0):B3 p (L.drop j) k s=B3 p (L.drop (j+1)) k s:=by
 rw[Bk hj]
 conv=>lhs;unfold B3
 rw[Ah h1,Ah h2,Ao h]
theorem cC{p:ByteArray}{L:List Nat}{j k:Nat}(hj:j<L.length)(h1:¬(s.full=true∨CU (Dv s k) p=false))(h2:¬L[j]=k)(h:(Bn (Dv s k) (Dv s L[j]) p).2=0) :
  B3 p (L.drop j) k s=B3 p (L.drop (j+1)) (DJ s ⟨3,p,0,0,(k:Nat),(L[j]:Nat)⟩ (Bn (Dv s k) (Dv s L[j]) p).1).1 (DJ s ⟨3,p,0,0,(k:Nat),(L[j]:Nat)⟩ (Bn (Dv s k) (Dv s L[j]) p).1).2:=by
 rw[Bk hj]
 conv=>lhs;unfold B3
 rw[Ah h1,Ah h2,Ah (fun h3=>h3 h)]
end
theorem E6{t:List Tm}(h:mA t):CM t:=by have:=h.1;unfold CM;omega
theorem yT(x:List Rl)(roots:List Rq)(C A:List (Value×AV))(s:SS)(dec:List Cd)(st:List (List Sk))(p:ByteArray)(n:Nd)(rs:List Nat)(V:AV)(hx:AQ x=0)(hr:BK roots=0)(hs:JD x roots s)(nF:∀d,DO x roots d (MR n)=some (HC n))(sX:∀r∈rs,r<s.drv.length)(hrl:rs.length≤1073741823)(hnq:CM n.rq.set)(hnp:BR (n.place+1))
  (ql:∀a,(Value.string p,a)∈A→a=V) (qm:(∀a,(Value.string p,a)∉A)→V=.v (.slice none 0 0)) (qn:∀h,PC 127 [vs p,str h V] (sl AD (HJ p (BZ x p)))):A3 Tryz.prog 96 [.ref 1000 0,vs p,.agg (A9 n),sl BJ rs] (Ai (I4 roots C A s dec st) Ab) fun r h'=>my roots C A dec st (DF x p n rs s) r h':=by
 have hw:=hs.dl;obtain⟨nS,ve,Ug⟩:=hs.add (nF s.drv)
 change JD x roots (Bf s n).2 at nS
 change (Bf s n).1<(Bf s n).2.drv.length at ve
 change s.drv.length≤(Bf s n).2.drv.length at Ug
 have KK:=nS.dl;obtain⟨kj,Iu,fO⟩:=nS.add (gN hx p (Bf s n).2.drv)
 change JD x roots (D2 x p (Bf s n).2).2 at kj
 change (D2 x p (Bf s n).2).1<(D2 x p (Bf s n).2).2.drv.length at Iu
 change (Bf s n).2.drv.length≤(D2 x p (Bf s n).2).2.drv.length at fO
 obtain⟨L,hL⟩:∃L,L=(D2 x p (Bf s n).2).1::rs:=⟨_,rfl⟩;have zE:∀r∈L,r<(D2 x p (Bf s n).2).2.drv.length:=fun r nO=>by
  rw[hL]at nO;rcases Au.1 nO with rfl | h
  ·exact Iu
  ·have:=sX r h;omega
 have xL:L.length=rs.length+1:=by rw[hL];rfl
 have ve:(Bf s n).1<(D2 x p (Bf s n).2).2.drv.length:=by omega
 refine BS (KV ⟨[6],[],[],[],[],[],[],[],[],[],[2,3,7,8,10,12]⟩) [(1000,1000),(1001,1001),(1002,1002),(1003,1003),(1004,1004)] rfl Ck hm rfl Tryz.func96 (by kernel_rfl) rfl (Nz rfl) (by kernel_rfl) rfl ?_;refine Yi (Nz rfl) ?_;refine Xi (.gen YI 0) (Yi rfl (A3.imp (xc roots C A s dec st n hw.1 hw.2.1 hs.nodup hnq hnp) ?_));intro v1 g1 q1;have ld:=q1.1;have lg:=q1.2;subst ld;subst lg;refine Xi ⟨[(0,.ref 1000 0),(1,vs p),(3,sl BJ rs),(9,vi (((Bf s n).1:Nat):Int))],[(1000,.cells [sl AK roots,.cmap CP C,.cmap CP A,.slice (.id 1001 6) ((Bf s n).2.infs.map BU),.slice (.id 1002 1) ((Bf s n).2.drv.map B5),.mref 1003,vb (Bf s n).2.full,sl AA dec,sl Ae (AI dec),.msl 1004 st.length]),(1001,.tok 6 (Bf s n).2.infs.length),(1002,.tok 1 (Bf s n).2.drv.length),(1003,.map DS (DW 0 (Bf s n).2.infs)),(1004,.arr 1 (st.map AR))],Ab⟩ (Yi ⟨Z4,Z5,Fh,Aw (by kernel_rfl)⟩ ?_)
 refine OE V (.v (.slice none 0 0)) ql qm (fun h=>h) ?_;refine Xi .pure (Xi _ (Yi (qn _) ?_));refine Xi (.gen YI 0) (Yi rfl (A3.imp (lk roots C A (Bf s n).2 dec st ⟨2,p,0,0,0,0⟩ (HJ p (BZ x p)) KK.1 KK.2.1 nS.nodup) ?_));intro v2 g2 q2;have wz:=q2.1;have wA:=q2.2;subst wz;subst wA;refine Xi ⟨[(0,.ref 1000 0),(1,vs p),(3,sl BJ rs),(9,vi (((Bf s n).1:Nat):Int)),(10,vi (((D2 x p (Bf s n).2).1:Nat):Int))],[(1000,.cells [sl AK roots,.cmap CP C,.cmap CP A,.slice (.id 1001 6) ((D2 x p (Bf s n).2).2.infs.map BU),.slice (.id 1002 1) ((D2 x p (Bf s n).2).2.drv.map B5),.mref 1003,vb (D2 x p (Bf s n).2).2.full,sl AA dec,sl Ae (AI dec),.msl 1004 st.length]),(1001,.tok 6 (D2 x p (Bf s n).2).2.infs.length),(1002,.tok 1 (D2 x p (Bf s n).2).2.drv.length),(1003,.map DS (DW 0 (D2 x p (Bf s n).2).2.infs)),(1004,.arr 1 (st.map AR))],Ab⟩ (Yi ⟨Z5,Z5,Fh,Aw (by kernel_rfl)⟩ ?_)
 have b3:Df 1 (rs.map BJ)∧([[vi (((D2 x p (Bf s n).2).1:Nat):Int)]]:List (List AV)).length=1∧(([[vi (((D2 x p (Bf s n).2).1:Nat):Int)]]:List (List AV)).length+(rs.map BJ).length)*8≤140737488355328∧([[vi (((D2 x p (Bf s n).2).1:Nat):Int)]]:List (List AV)).length+(rs.map BJ).length≤9223372036854775807:=⟨(Fj (enc:=BJ) (n:=1) (fun _=>rfl) rs),(by first | (simp;done) | (rw[Lm];assumption)),(by simp only[Lm,Av,AF];omega),(by simp only[Lm,Av,AF];omega)⟩
 refine Yi b3 ?_;refine Xi {q:Nat×Nat×SS // q.1≤L.length∧B3 p (L.drop q.1) q.2.1 q.2.2=B3 p L (Bf s n).1 (D2 x p (Bf s n).2).2∧JD x roots q.2.2∧q.2.1<q.2.2.drv.length∧∀r∈L,r<q.2.2.drv.length} (Xi (fun q=>⟨[(0,.ref 1000 0),(1,vs p),(9,vi q.1.2.1),(33,.slice (.id 31 1) (L.map BJ)),(34,vi (L.map BJ).length),(35,vi q.1.1)],[(31,.tok 1 (L.map BJ).length),(1000,.cells (srM roots C A q.1.2.2 dec 1004 st.length)),(1001,.tok 6 q.1.2.2.infs.length),(1002,.tok 1 q.1.2.2.drv.length),(1003,.map DS (DW 0 q.1.2.2.infs)),(1004,.arr 1 (st.map AR))],Ab⟩) (Xi (fun q=>L.length-q.1.1) (Yi (Xi ⟨(0,(Bf s n).1,(D2 x p (Bf s n).2).2),AJ _,by rw[List.drop_zero],kj,ve,zE⟩ ?_) ?_)))
 ·exact⟨⟨Zr,Zr,Zr,⟨(show AV.slice (.id 31 1) ([[vi (((D2 x p (Bf s n).2).1:Nat):Int)]]++rs.map BJ)=.slice (.id 31 1) (L.map BJ) by rw[hL];rfl),rfl⟩,⟨(show vi (([[vi (((D2 x p (Bf s n).2).1:Nat):Int)]]++rs.map BJ:List (List AV)).length:Int)=vi ((L.map BJ).length:Int) by rw[hL];rfl),rfl⟩,Zr,Tv⟩,⟨⟨(show HO.tok 1 (([[vi (((D2 x p (Bf s n).2).1:Nat):Int)]]:List (List AV)).length+(rs.map BJ).length)=.tok 1 (L.map BJ).length by rw[hL];simp[Nat.add_comm]),rfl⟩,Zr,Zr,Zr,Zr,Zr,Tv⟩,Fh,Aw (by kernel_rfl)⟩
 intro⟨⟨j,k,S⟩,j1,j2,j3,j4,j5⟩;have j1:j≤L.length:=j1;have j2:B3 p (L.drop j) k S=B3 p L (Bf s n).1 (D2 x p (Bf s n).2).2:=j2;have j3:JD x roots S:=j3;have j4:k<S.drv.length:=j4;have j5:∀r∈L,r<S.drv.length:=j5;have yw:=j3.dl;have sN:=j3.der.few hx hr;have gk:S.drv[k]?=some (Dv S k):=EH j4;refine Yi (fun h4=>?_) (fun h4=>?_)
 ·have h4:(j:Int)<((L.map BJ).length:Int):=h4;have n4:=LC h4;refine Xi (BJ L[j]) (Yi (Uo n4) (Yi rfl ?_));refine Yi (fun h5=>?_) (fun h5=>?_)
  ·have h5:S.full=true:=h5;refine Xi ⟨[(9,vi k)],[(1000,.cells (srM roots C A S dec 1004 st.length)),(1001,.tok 6 S.infs.length),(1002,.tok 1 S.drv.length),(1003,.map DS (DW 0 S.infs)),(1004,.arr 1 (st.map AR))],Ab⟩ (Yi ⟨Z1,Z5,Fh,Aw (by kernel_rfl)⟩ ?_)
   have eR:B3 p L (Bf s n).1 (D2 x p (Bf s n).2).2=(k,S):=by rw[←j2];exact Tc n4 (.inl h5)
   have eL:DF x p n rs s=(k,S):=by unfold DF;rw[←hL];exact eR
   exact Xi _ (Yi (.refl _) (Yi (show vi (k:Int)=vi (((DF x p n rs s).1:Nat):Int) by rw[eL]) (show Ai (I4 roots C A S dec st) Ab=Ai (I4 roots C A (DF x p n rs s).2 dec st) Ab by rw[eL])))
  have h5:S.full=false:=h5;refine Xi (B5 (Dv S k)) (Yi (Yi (Nn k) (Dg gk)) (Yi rfl ?_));refine Dp (Bt (CU (Dv S k) p)) (fun h7=>?_) (fun h7=>?_)
  ·have h7:(CU (Dv S k) p)=true:=h7;refine Xi .pure (Xi _ (Yi (cb h7 (jl (Dv S k) p (E6 (sN _ (Ar (EH j4)))))) ?_));refine Xi ⟨[(0,.ref 1000 0),(1,vs p),(9,vi k),(12,vi (L[j]:Nat)),(33,.slice (.id 31 1) (L.map BJ)),(34,vi (L.map BJ).length),(35,vi j)],[(31,.tok 1 (L.map BJ).length),(1000,.cells (srM roots C A S dec 1004 st.length)),(1001,.tok 6 S.infs.length),(1002,.tok 1 S.drv.length),(1003,.map DS (DW 0 S.infs)),(1004,.arr 1 (st.map AR))],Ab⟩ (Yi ⟨Z7,Z6,Fh,Aw (by kernel_rfl)⟩ ?_)
   refine Yi (fun h8=>?_) (fun h8=>?_)
   ·have h8:((L[j]:Nat):Int)=(k:Int):=h8;refine Xi ⟨[(0,.ref 1000 0),(1,vs p),(9,vi k),(33,.slice (.id 31 1) (L.map BJ)),(34,vi (L.map BJ).length),(35,vi j)],[(31,.tok 1 (L.map BJ).length),(1000,.cells (srM roots C A S dec 1004 st.length)),(1001,.tok 6 S.infs.length),(1002,.tok 1 S.drv.length),(1003,.map DS (DW 0 S.infs)),(1004,.arr 1 (st.map AR))],Ab⟩ (Yi ⟨Z6,Z6,Fh,Aw (by kernel_rfl)⟩ ?_)
    refine Yi (Ii j (by omega)) ?_;refine Xi ⟨(j+1,k,S),Ft n4,by rw[←(Zl (s:=S) (p:=p) (L:=L) (j:=j) (k:=k) n4 (by rw[h5,h7];simp) (by have q:=h8;omega))];exact j2,j3,j4,j5⟩ ?_;exact⟨Dl L.length j (by omega),Z6,Z6,Fh,Aw (by kernel_rfl)⟩
   have h8:¬(((L[j]:Nat):Int)=(k:Int)):=h8;refine Xi (B5 (Dv S k)) (Yi (Yi (Nn k) (Dg gk)) (Yi rfl ?_));refine Xi (B5 (Dv S L[j])) (Yi (Yi (show(0:Int)≤(L[j]:Nat) by omega) (Dg (EH (j5 _ (AC n4))))) (Yi rfl ?_));have fk:=sN _ (Ar (EH j4));have fr:=sN _ (Ar (EH (j5 _ (AC n4))));refine Xi _ (Yi (t7 (Dv S k) (Dv S L[j]) p fk.1 fr.1 fk.2 fr.2) ?_);refine Yi (by kernel_rfl) ?_;refine Xi ⟨[(0,.ref 1000 0),(1,vs p),(9,vi k),(12,vi (L[j]:Nat)),(13,sl AD (Bn (Dv S k) (Dv S L[j]) p).1),(14,vi (Bn (Dv S k) (Dv S L[j]) p).2),(33,.slice (.id 31 1) (L.map BJ)),(34,vi (L.map BJ).length),(35,vi j)],[(31,.tok 1 (L.map BJ).length),(1000,.cells (srM roots C A S dec 1004 st.length)),(1001,.tok 6 S.infs.length),(1002,.tok 1 S.drv.length),(1003,.map DS (DW 0 S.infs)),(1004,.arr 1 (st.map AR))],Ab⟩ (Yi ⟨Z9,Z6,Fh,Aw (by kernel_rfl)⟩ ?_)
   refine Yi (fun SC=>?_) (fun SC=>?_)
   ·have SC:((Bn (Dv S k) (Dv S L[j]) p).2:Int)≠(0:Int):=SC;refine Xi ⟨[(0,.ref 1000 0),(1,vs p),(9,vi k),(33,.slice (.id 31 1) (L.map BJ)),(34,vi (L.map BJ).length),(35,vi j)],[(31,.tok 1 (L.map BJ).length),(1000,.cells (srM roots C A S dec 1004 st.length)),(1001,.tok 6 S.infs.length),(1002,.tok 1 S.drv.length),(1003,.map DS (DW 0 S.infs)),(1004,.arr 1 (st.map AR))],Ab⟩ (Yi ⟨Z6,Z6,Fh,Aw (by kernel_rfl)⟩ ?_)
    refine Yi (Ii j (by omega)) ?_;refine Xi ⟨(j+1,k,S),Ft n4,by rw[←(cD (s:=S) (p:=p) (L:=L) (j:=j) (k:=k) n4 (by rw[h5,h7];simp) (by have q:=h8;omega) SC)];exact j2,j3,j4,j5⟩ ?_;exact⟨Dl L.length j (by omega),Z6,Z6,Fh,Aw (by kernel_rfl)⟩
   have SC:((Bn (Dv S k) (Dv S L[j]) p).2:Int)=(0:Int):=A4 SC;refine Xi (.gen YI 0) (Yi rfl (A3.imp (lk roots C A S dec st ⟨3,p,0,0,(k:Nat),(L[j]:Nat)⟩ (Bn (Dv S k) (Dv S L[j]) p).1 yw.1 yw.2.1 j3.nodup) ?_));intro v12 g12 lc;have ov:=lc.1;have ox:=lc.2;subst ov;subst ox;refine Xi ⟨[(0,.ref 1000 0),(1,vs p),(9,vi (((DJ S ⟨3,p,0,0,(k:Nat),(L[j]:Nat)⟩ (Bn (Dv S k) (Dv S L[j]) p).1).1:Nat):Int)),(33,.slice (.id 31 1) (L.map BJ)),(34,vi (L.map BJ).length),(35,vi j)],[(31,.tok 1 (L.map BJ).length),(1000,.cells [sl AK roots,.cmap CP C,.cmap CP A,.slice (.id 1001 6) ((DJ S ⟨3,p,0,0,(k:Nat),(L[j]:Nat)⟩ (Bn (Dv S k) (Dv S L[j]) p).1).2.infs.map BU),.slice (.id 1002 1) ((DJ S ⟨3,p,0,0,(k:Nat),(L[j]:Nat)⟩ (Bn (Dv S k) (Dv S L[j]) p).1).2.drv.map B5),.mref 1003,vb (DJ S ⟨3,p,0,0,(k:Nat),(L[j]:Nat)⟩ (Bn (Dv S k) (Dv S L[j]) p).1).2.full,sl AA dec,sl Ae (AI dec),.msl 1004 st.length]),(1001,.tok 6 (DJ S ⟨3,p,0,0,(k:Nat),(L[j]:Nat)⟩ (Bn (Dv S k) (Dv S L[j]) p).1).2.infs.length),(1002,.tok 1 (DJ S ⟨3,p,0,0,(k:Nat),(L[j]:Nat)⟩ (Bn (Dv S k) (Dv S L[j]) p).1).2.drv.length),(1003,.map DS (DW 0 (DJ S ⟨3,p,0,0,(k:Nat),(L[j]:Nat)⟩ (Bn (Dv S k) (Dv S L[j]) p).1).2.infs)),(1004,.arr 1 (st.map AR))],Ab⟩ (Yi ⟨Z6,Z6,Fh,Aw (by kernel_rfl)⟩ ?_)
   refine Yi (Ii j (by omega)) ?_;obtain⟨a1,a2,a3⟩:=j3.add (U0 (x:=x) (roots:=roots) (p:=p) j4 (j5 _ (AC n4)) SC);refine Xi ⟨(j+1,(DJ S ⟨3,p,0,0,(k:Nat),(L[j]:Nat)⟩ (Bn (Dv S k) (Dv S L[j]) p).1).1,(DJ S ⟨3,p,0,0,(k:Nat),(L[j]:Nat)⟩ (Bn (Dv S k) (Dv S L[j]) p).1).2),Ft n4,by rw[←(cC (s:=S) (p:=p) (L:=L) (j:=j) (k:=k) n4 (by rw[h5,h7];simp) (by have q:=h8;omega) SC)];exact j2,a1,a2,fun r hr=>Bu (j5 r hr) a3⟩ ?_;exact⟨Dl L.length j (by omega),Z6,Z6,Fh,Aw (by kernel_rfl)⟩
  have h7:(CU (Dv S k) p)=false:=h7;refine Xi .pure (Xi _ (Yi (cb h7 (jl (Dv S k) p (E6 (sN _ (Ar (EH j4)))))) ?_));refine Xi ⟨[(9,vi k)],[(1000,.cells (srM roots C A S dec 1004 st.length)),(1001,.tok 6 S.infs.length),(1002,.tok 1 S.drv.length),(1003,.map DS (DW 0 S.infs)),(1004,.arr 1 (st.map AR))],Ab⟩ (Yi ⟨Z1,Z5,Fh,Aw (by kernel_rfl)⟩ ?_)
  have eR:B3 p L (Bf s n).1 (D2 x p (Bf s n).2).2=(k,S):=by rw[←j2];exact Tc n4 (.inr h7)
  have eL:DF x p n rs s=(k,S):=by unfold DF;rw[←hL];exact eR
  exact Xi _ (Yi (.refl _) (Yi (show vi (k:Int)=vi (((DF x p n rs s).1:Nat):Int) by rw[eL]) (show Ai (I4 roots C A S dec st) Ab=Ai (I4 roots C A (DF x p n rs s).2 dec st) Ab by rw[eL])))
 have h4:¬((j:Int)<((L.map BJ).length:Int)):=h4;have n4:=LB h4;have hj:¬j<L.length:=by have q:=h4;rw[Lm]at q;omega
 have eR:B3 p L (Bf s n).1 (D2 x p (Bf s n).2).2=(k,S):=by rw[←j2,EB (by omega)];rfl
 have eL:DF x p n rs s=(k,S):=by unfold DF;rw[←hL];exact eR
 exact Xi _ (Yi (.refl _) (Yi (show vi (k:Int)=vi (((DF x p n rs s).1:Nat):Int) by rw[eL]) (show Ai (I4 roots C A S dec st) Ab=Ai (I4 roots C A (DF x p n rs s).2 dec st) Ab by rw[eL])))
abbrev YJ:IV:=[(1000,1000),(1001,1001),(1002,1002),(1003,1003),(500,1004)]
abbrev ti(roots:List Rq)(C A:List (Value×AV))(s:SS)(dec:List Cd)(st:List (List Sk)):List (Nat×HO) :=
 [(1000,.cells (srM roots C A s dec 2000 st.length)),(1001,.tok 6 s.infs.length),(1002,.tok 1 s.drv.length),(1003,.map DS (DW 0 s.infs)),(1004,.dead),(2000,.arr 1 (st.map AR))]
abbrev YK(roots:List Rq)(C A:List (Value×AV))(o:JC)(r:AV)(h' : Nat→HO):Prop:=r=.tup [vi (o.res:Nat),vb o.found]∧h'=Ai (ti roots C A o.ss o.dec o.stack) Ab
def yY(roots:List Rq)(C A:List (Value×AV)):Prop:=∀(s:SS) (dec:List Cd) (st:List (List Sk)),dec.length≤1000→(∀c∈dec,c.rel.reqs.length≤1073741824) →
 A3 Tryz.prog 87 [.ref 1000 0] (Ai (I4 roots C A s dec st) Ab) fun r h'=>r=.tup [vs (EF roots dec).1,sl A9 (EF roots dec).2]∧h'=Ai (I4 roots C A s dec st) Ab
theorem Ni{roots:List Rq}{C A:List (Value×AV)}{o:JC}{k:Nat}{b:Bool}{s:SS}{dec:List Cd}{st:List (List Sk)}(e:o=⟨k,b,s,dec,st⟩) :
  AV.tup [vi (k:Nat),vb b]=.tup [vi (o.res:Nat),vb o.found]∧Ai (ti roots C A s dec st) Ab=Ai (ti roots C A o.ss o.dec o.stack) Ab:=by rw[e];exact Zr
abbrev YH:IV:=[(1000,1000),(1001,1001),(1002,1002),(1003,1003),(1004,1004),(1005,1005),(1006,1006),(1007,1007),(1008,1008),(1009,1009)]
def F6(roots:List Rq)(dec:List Cd)(m:Nat):ByteArray×List Nd:=((Dm roots dec).take m).foldl (Ee dec) (mt,[])
theorem Yb{roots:List Rq}{dec:List Cd}{m:Nat}{n:Nd}(h:(Dm roots dec)[m]?=some n):F6 roots dec (m+1)=Ee dec (F6 roots dec m) n:=by
 unfold F6;rw[Bq,h,Fr];rfl
theorem kO{roots:List Rq}{dec:List Cd}{m:Nat}(h:(Dm roots dec).length≤m):F6 roots dec m=EF roots dec:=by
 unfold F6 EF;rw[AE h]
def E4(roots:List Rq)(dec:List Cd)(j:Nat):Nat:=roots.length+((dec.take j).map fun c=>c.rel.reqs.length).sum
theorem TA(c:Cd):(PV c).length=c.rel.reqs.length:=Kz _ _ _
theorem cS(roots:List Rq)(dec:List Cd):E4 roots dec 0=roots.length:=by unfold E4;simp
theorem cR{roots:List Rq}{dec:List Cd}{j:Nat}(h:j<dec.length):E4 roots dec (j+1)=E4 roots dec j+dec[j].rel.reqs.length:=by
 unfold E4;rw[Kh h,Ay,List.sum_append];simp[Nat.add_assoc]
theorem Ye(roots:List Rq)(dec:List Cd):E4 roots dec dec.length=(Dm roots dec).length:=by
 unfold E4 Dm Yt;rw[DX,Ad,Kz,List.length_flatten,BB]
 congr 2
 exact A5 fun c _=>(TA c).symm
theorem cK{roots:List Rq}{dec:List Cd}{i:Nat}(h:i<roots.length):(Dm roots dec)[i]?=some ⟨roots[i],mt,0,(i:Nat)⟩:=by
 unfold Dm Yt;rw[AX (by rw[Kz];exact h),OW,Ge h,Fy,Bg]
theorem Xv{α:Type}:∀{l:List (List α)} {j k:Nat} (hj:j<l.length),k<l[j].length→l.flatten[((l.take j).map List.length).sum+k]?=l[j][k]?
 |y::l,0,k,_,hk=>by
  rw[Bv,List.take_zero,E1,List.sum_nil,Bg,AX (show k<y.length from hk)];rfl
 |y::l,j+1,k,hj,hk=>by
  rw[Bv,IU,AL,List.sum_cons,AY (by omega)]
  have:=Xv (l:=l) (j:=j) (k:=k) (by simpa using hj) hk
  rw[show y.length+((l.take j).map List.length).sum+k-y.length=((l.take j).map List.length).sum+k by omega,this]
  rfl
theorem gI{roots:List Rq}{dec:List Cd}{j k:Nat}(hj:j<dec.length)(hk:k<dec[j].rel.reqs.length):(Dm roots dec)[E4 roots dec j+k]?=some ⟨dec[j].rel.reqs[k],dec[j].rel.path,dec[j].place,(k:Nat)⟩:=by
 unfold Dm Yt E4;rw[AY (by rw[Kz];omega),Kz];have h:=Xv (l:=dec.map PV) (j:=j) (k:=k) (by simpa using hj) (by rw[List.getElem_map,TA];exact hk);rw[←List.map_take,BB,show(List.length ∘ PV)=fun c=>c.rel.reqs.length from funext TA]at h;rw[show roots.length+((dec.take j).map fun c=>c.rel.reqs.length).sum+k-roots.length=((dec.take j).map fun c=>c.rel.reqs.length).sum+k by omega,h,List.getElem_map];unfold PV;rw[OW,Ge hk,Fy,Bg]
abbrev gR(roots:List Rq)(C A:List (Value×AV))(s:SS)(dec:List Cd)(st:List (List Sk))(m:Nat):List (Nat×HO) :=
  [(1000,.cells (th roots C A s dec st.length)),(1001,.tok 6 s.infs.length),(1002,.tok 1 s.drv.length),(1003,.map DS (DW 0 s.infs)),(1004,.arr 1 (st.map AR)),
   (1005,.cells [.ref 1000 0]),(1006,.cells [vs (F6 roots dec m).1]),(1007,.cells [.slice (.ver 1008 5 m) ((F6 roots dec m).2.map A9)]),(1008,.var 5 m ((F6 roots dec m).2.map A9).length),(1009,.cells [.ref 1000 0])]
noncomputable abbrev zp(pl:RO)(l:Nat)(Y:Gh→World→Prop):Cx:=⟨Tryz.prog,ml,pl,true,0,fun l' σ' g w=>l'=l→σ'=YH→Y g w⟩
theorem IM.pre{P:Program}{Y Y' : Gh→World→Prop}{l:Nat}{args:List AV}{h0:Nat→HO}{Q:AV→(Nat→HO)→Prop}(h:IM P Y l args h0 Q)(hp:∀g w,Y' g w→Y g w):IM P Y' l args h0 Q :=
 fun g w vals q1 q2 q3 q4=>h g w vals q1 q2 q3 (hp g w q4)
theorem wX(roots:List Rq)(C A:List (Value×AV))(s:SS)(dec:List Cd)(st:List (List Sk)):A3 Tryz.prog 117 [.ref 1000 0] (Ai (I4 roots C A s dec st) Ab) fun r h'=>r=.clo 170 [.ref 2000 0]∧h'=Ai (I4 roots C A s dec st++[(2000,.cells [.ref 1000 0])]) Ab:=by
 refine BS (KV ⟨[],[],[],[],[],[],[],[],[],[],[]⟩) [(1000,1000),(1001,1001),(1002,1002),(1003,1003),(1004,1004),(1,2000)] rfl Ck hm rfl Tryz.func117 (by kernel_rfl) rfl (Nz rfl) (by kernel_rfl) rfl ?_;exact Xi _ (Yi (.refl _) Zr)
theorem wY{Y:Gh→World→Prop}(l:Nat)(roots:List Rq)(C A:List (Value×AV))(s:SS)(dec:List Cd)(st:List (List Sk))(hr:roots.length≤1073741824)(hd:dec.length≤1073741824)(pd:∀c∈dec,c.rel.reqs.length≤1073741824)
  (hy:∀m n,(Dm roots dec)[m]?=some n→IM Tryz.prog Y l [.agg (A9 n)] (Ai (gR roots C A s dec st m) Ab) fun r h'=>r=vb true∧h'=Ai (gR roots C A s dec st (m+1)) Ab) :
  WS Tryz.prog Y YH 170 [.v (.func (.yield l) #[] #[]),.ref 1005 0] (Ai (gR roots C A s dec st 0) Ab) fun _ h'=>h'=Ai (gR roots C A s dec st (Dm roots dec).length) Ab:=by
 have hr:roots.length≤1073741824:=hr;refine ge (l:=l) (zp ⟨[],[],[],[],[],[],[],[],[],[],[4,12]⟩ l Y) YH rfl Ck hm rfl Tryz.func170 (by kernel_rfl) rfl (Nz rfl) (by kernel_rfl) rfl rfl ?_;refine Xi {i:Nat // i≤roots.length} (Xi (fun q=>⟨[(0,.v (.func (.yield l) #[] #[])),(1,.ref 1005 0),(12,sl AK roots),(13,vi (roots.map AK).length),(14,vi q.1)],[(1000,.cells (srM roots C A s dec 1004 st.length)),(1001,.tok 6 s.infs.length),(1002,.tok 1 s.drv.length),(1003,.map DS (DW 0 s.infs)),(1004,.arr 1 (st.map AR)),(1005,.cells [.ref 1000 0]),(1006,.cells [vs (F6 roots dec q.1).1]),(1007,.cells [.slice (.ver 1008 5 q.1) ((F6 roots dec q.1).2.map A9)]),(1008,.var 5 q.1 ((F6 roots dec q.1).2.map A9).length),(1009,.cells [.ref 1000 0])],Ab⟩) (Xi (fun q=>roots.length-q.1) (Yi (Xi ⟨0,AJ _⟩ ?_) ?_)))
 ·exact⟨Z5,Z10,Fh,Aw (by kernel_rfl)⟩
 intro⟨i,i1⟩;have i1:i≤roots.length:=i1;refine Yi (fun h1=>?_) (fun h1=>?_)
 ·have h1:(i:Int)<((roots.map AK).length:Int):=h1;have n1:=LC h1;refine Xi (AK roots[i]) (Yi (Uo n1) (Yi rfl ?_));refine Yi (Nz rfl) ?_;refine Yi (Nz rfl) ?_;refine Yi (Nz rfl) ?_;refine Xi (.gen YH 0) (Yi rfl (IM.imp (IM.pre (hy i ⟨roots[i],mt,0,(i:Nat)⟩ (cK n1)) (fun g w q=>q rfl rfl)) ?_));intro v2 g2 q2;have wz:=q2.1;have wA:=q2.2;subst wz;subst wA;refine Xi ⟨[(0,.v (.func (.yield l) #[] #[])),(1,.ref 1005 0),(12,sl AK roots),(13,vi (roots.map AK).length),(14,vi i)],[(1000,.cells (srM roots C A s dec 1004 st.length)),(1001,.tok 6 s.infs.length),(1002,.tok 1 s.drv.length),(1003,.map DS (DW 0 s.infs)),(1004,.arr 1 (st.map AR)),(1005,.cells [.ref 1000 0]),(1006,.cells [vs (F6 roots dec (i+1)).1]),(1007,.cells [.slice (.ver 1008 5 (i+1)) ((F6 roots dec (i+1)).2.map A9)]),(1008,.var 5 (i+1) ((F6 roots dec (i+1)).2.map A9).length),(1009,.cells [.ref 1000 0])],Ab⟩ (Yi ⟨Z5,Z10,Fh,Aw (by kernel_rfl)⟩ ?_)
  refine Yi (Ii i (by omega)) ?_;refine Xi ⟨i+1,by omega⟩ ?_;exact⟨Dl roots.length i (by omega),Z5,Z10,Fh,Aw (by kernel_rfl)⟩
 have h1:¬((i:Int)<((roots.map AK).length:Int)):=h1;have n1:=LB h1;have hE:i=E4 roots dec 0:=by rw[cS];omega
 refine Xi {j:Nat // j≤dec.length} (Xi (fun q=>⟨[(0,.v (.func (.yield l) #[] #[])),(29,sl AA dec),(30,vi (dec.map AA).length),(31,vi q.1)],[(1000,.cells (srM roots C A s dec 1004 st.length)),(1001,.tok 6 s.infs.length),(1002,.tok 1 s.drv.length),(1003,.map DS (DW 0 s.infs)),(1004,.arr 1 (st.map AR)),(1005,.cells [.ref 1000 0]),(1006,.cells [vs (F6 roots dec (E4 roots dec q.1)).1]),(1007,.cells [.slice (.ver 1008 5 (E4 roots dec q.1)) ((F6 roots dec (E4 roots dec q.1)).2.map A9)]),(1008,.var 5 (E4 roots dec q.1) ((F6 roots dec (E4 roots dec q.1)).2.map A9).length),(1009,.cells [.ref 1000 0])],Ab⟩) (Xi (fun q=>dec.length-q.1) (Yi (Xi ⟨0,AJ _⟩ ?_) ?_)))
 ·exact⟨Z4,⟨Zr,Zr,Zr,Zr,Zr,Zr,⟨(show .cells [vs (F6 roots dec i).1]=(.cells [vs (F6 roots dec (E4 roots dec 0)).1]:HO) by rw[hE]),rfl⟩,⟨(show .cells [.slice (.ver 1008 5 i) ((F6 roots dec i).2.map A9)]=(.cells [.slice (.ver 1008 5 (E4 roots dec 0)) ((F6 roots dec (E4 roots dec 0)).2.map A9)]:HO) by rw[hE]),rfl⟩,⟨(show .var 5 i ((F6 roots dec i).2.map A9).length=(.var 5 (E4 roots dec 0) ((F6 roots dec (E4 roots dec 0)).2.map A9).length:HO) by rw[hE]),rfl⟩,Zr,Tv⟩,Fh,Aw (by kernel_rfl)⟩
 intro⟨j,j1⟩;have j1:j≤dec.length:=j1;refine Yi (fun h4=>?_) (fun h4=>?_)
 ·have h4:(j:Int)<((dec.map AA).length:Int):=h4;have n4:=LC h4;have sL:=pd dec[j] (AC n4);refine Xi (AA dec[j]) (Yi (Uo n4) (Yi rfl ?_));refine Yi (Nz rfl) ?_;refine Yi (Nz rfl) ?_;refine Xi {k:Nat // k≤dec[j].rel.reqs.length} (Xi (fun q=>⟨[(0,.v (.func (.yield l) #[] #[])),(6,.ref 6 0),(29,sl AA dec),(30,vi (dec.map AA).length),(31,vi j),(37,sl AK dec[j].rel.reqs),(38,vi (dec[j].rel.reqs.map AK).length),(39,vi q.1)],[(6,.cells (AA dec[j])),(1000,.cells (srM roots C A s dec 1004 st.length)),(1001,.tok 6 s.infs.length),(1002,.tok 1 s.drv.length),(1003,.map DS (DW 0 s.infs)),(1004,.arr 1 (st.map AR)),(1005,.cells [.ref 1000 0]),(1006,.cells [vs (F6 roots dec (E4 roots dec j+q.1)).1]),(1007,.cells [.slice (.ver 1008 5 (E4 roots dec j+q.1)) ((F6 roots dec (E4 roots dec j+q.1)).2.map A9)]),(1008,.var 5 (E4 roots dec j+q.1) ((F6 roots dec (E4 roots dec j+q.1)).2.map A9).length),(1009,.cells [.ref 1000 0])],Ab⟩) (Xi (fun q=>dec[j].rel.reqs.length-q.1) (Yi (Xi ⟨0,AJ _⟩ ?_) ?_)))
  ·exact⟨Z8,Z11,Fh,Aw (by kernel_rfl)⟩
  intro⟨k,k1⟩;have k1:k≤dec[j].rel.reqs.length:=k1;refine Yi (fun h5=>?_) (fun h5=>?_)
  ·have h5:(k:Int)<((dec[j].rel.reqs.map AK).length:Int):=h5;have n5:=LC h5;refine Xi (AK dec[j].rel.reqs[k]) (Yi (Uo n5) (Yi rfl ?_));refine Yi (Nz rfl) ?_;refine Yi (Nz rfl) ?_;refine Yi (Nz rfl) ?_;refine Xi (.gen YH 0) (Yi rfl (IM.imp (IM.pre (hy (E4 roots dec j+k) ⟨dec[j].rel.reqs[k],dec[j].rel.path,dec[j].place,(k:Nat)⟩ (gI n4 n5)) (fun g w q=>q rfl rfl)) ?_));intro v6 g6 q6;have wL:=q6.1;have wM:=q6.2;subst wL;subst wM;refine Xi ⟨[(0,.v (.func (.yield l) #[] #[])),(6,.ref 6 0),(29,sl AA dec),(30,vi (dec.map AA).length),(31,vi j),(37,sl AK dec[j].rel.reqs),(38,vi (dec[j].rel.reqs.map AK).length),(39,vi k)],[(6,.cells (AA dec[j])),(1000,.cells (srM roots C A s dec 1004 st.length)),(1001,.tok 6 s.infs.length),(1002,.tok 1 s.drv.length),(1003,.map DS (DW 0 s.infs)),(1004,.arr 1 (st.map AR)),(1005,.cells [.ref 1000 0]),(1006,.cells [vs (F6 roots dec (E4 roots dec j+(k+1))).1]),(1007,.cells [.slice (.ver 1008 5 (E4 roots dec j+(k+1))) ((F6 roots dec (E4 roots dec j+(k+1))).2.map A9)]),(1008,.var 5 (E4 roots dec j+(k+1)) ((F6 roots dec (E4 roots dec j+(k+1))).2.map A9).length),(1009,.cells [.ref 1000 0])],Ab⟩ (Yi ⟨Z8,Z11,Fh,Aw (by kernel_rfl)⟩ ?_)
   refine Yi (Ii k (by omega)) ?_;refine Xi ⟨k+1,by omega⟩ ?_;exact⟨by show dec[j].rel.reqs.length-(k+1)<dec[j].rel.reqs.length-k;omega,Z8,Z11,Fh,Aw (by kernel_rfl)⟩
  have h5:¬((k:Int)<((dec[j].rel.reqs.map AK).length:Int)):=h5;have n5:=LB h5;refine Yi (Ii j (by omega)) ?_;have hE:E4 roots dec j+k=E4 roots dec (j+1):=by rw[cR n4];omega
  refine Xi ⟨j+1,by omega⟩ ?_;exact⟨Dl dec.length j (by omega),Z4,⟨Zr,Zr,Zr,Zr,Zr,Zr,⟨(show .cells [vs (F6 roots dec (E4 roots dec j+k)).1]=(.cells [vs (F6 roots dec (E4 roots dec (j+1))).1]:HO) by rw[hE]),rfl⟩,⟨(show .cells [.slice (.ver 1008 5 (E4 roots dec j+k)) ((F6 roots dec (E4 roots dec j+k)).2.map A9)]=(.cells [.slice (.ver 1008 5 (E4 roots dec (j+1))) ((F6 roots dec (E4 roots dec (j+1))).2.map A9)]:HO) by rw[hE]),rfl⟩,⟨(show .var 5 (E4 roots dec j+k) ((F6 roots dec (E4 roots dec j+k)).2.map A9).length=(.var 5 (E4 roots dec (j+1)) ((F6 roots dec (E4 roots dec (j+1))).2.map A9).length:HO) by rw[hE]),rfl⟩,Zr,Tv⟩,Fh,Aw (by kernel_rfl)⟩
 have h4:¬((j:Int)<((dec.map AA).length:Int)):=h4;have n4:=LB h4;exact Ac (fun m=>Ai (gR roots C A s dec st m) Ab) (show E4 roots dec j=(Dm roots dec).length by rw[←Ye];congr 1;omega)
theorem oe{h:Nat→HO}{o k r sz:Nat}{cs:List AV}{K:(Nat→HO)→Prop}(c1:h o=.cells cs)(c2:I3 cs k=.v (.slice none 0 0))(c3:h r=.free)(hk:K (AT (AT h r (.var sz 0 0)) o (.cells (Ev cs k (.slice (.ver r sz 0) []))))):po h o k r sz K:=by
 unfold po;rw[c1];show match I3 cs k with
  |.v (.slice none 0 0)=>match h r with
   |.free=>K (AT (AT h r (.var sz 0 0)) o (.cells (Ev cs k (.slice (.ver r sz 0) []))))
   |_=>False
  |_=>False
 rw[c2,c3];exact hk
theorem oC{o k r0 sz:Nat}{bQ:Cx}{P:Program}{N:Nat}{fn:Func}{σ:IV}{Q:AV→(Nat→HO)→Prop}{b rest:Code}{st:St}(cs:List AV)(c1:st.h o=.cells cs)(c2:I3 cs k=.v (.slice none 0 0))(c3:st.h r0=.free)(σF σr:IV)(H0 Hn:List (Nat×HO))(gf:Nat)(caps:List AV)
  {lG s:Nat} {ps:Array Tmp} {GB body:Code} (hb:b=.block lG (.rangeFunc (.tmp s) ps GB body)) (k1:(Ei σF&&Dx (AT (AT st.h r0 (.var sz 0 0)) o (.cells (Ev cs k (.slice (.ver r0 sz 0) [])))) 0 0&&Dh σF 0 0)=true) (k2:Fz σF (AT (AT st.h r0 (.var sz 0 0)) o (.cells (Ev cs k (.slice (.ver r0 sz 0) []))))=Ai H0 Ab) (k3:(GH σr&&Iq σr H0)=true) (k4:Iq σr Hn=true)
  (k5:ren (Cf σF) (AT (AT st.h r0 (.var sz 0 0)) o (.cells (Ev cs k (.slice (.ver r0 sz 0) [])))) (st.t s)=.clo gf caps)
  (k6:∀(l D:Nat) (f' : FuncId) (tm:Array Value),tm.size=N→WS P (fun g w=>w.heap[l]?=some (.loop (HY f' tm ps GB body D .ready))∧∀i,BD g w (AP (Ai H0 Ab)) (ren (Cf σF) (AT (AT st.h r0 (.var sz 0 0)) o (.cells (Ev cs k (.slice (.ver r0 sz 0) [])))) (st.t i)) (tm.getD i undef)) σr gf
   (.v (.func (.yield l) #[] #[])::caps) (Ai H0 Ab) fun _ h'=>h'=Ai Hn Ab)
  (k7:En N rest=true) (k8:Rc bQ rest (Xl bQ fn.results.toList σr fun r h'=>Q (ren (Cf σ) (D4 σF 0 0 (AT (AT st.h r0 (.var sz 0 0)) o (.cells (Ev cs k (.slice (.ver r0 sz 0) [])))) h') (ren (E3 σF 0 0) h' r)) (Fz σ (D4 σF 0 0 (AT (AT st.h r0 (.var sz 0 0)) o (.cells (Ev cs k (.slice (.ver r0 sz 0) [])))) h')))
   ⟨fun i=>ren (Cf σF) (AT (AT st.h r0 (.var sz 0 0)) o (.cells (Ev cs k (.slice (.ver r0 sz 0) [])))) (st.t i),Ai Hn Ab⟩) (k9:Oc [] body=false:=by kernel_rfl):tt o k r0 sz bQ P N fn σ Q b rest st :=
 oe c1 c2 c3 ⟨σF,σr,H0,Hn,lG,s,ps,GB,body,gf,caps,hb,k1,k2,k3,k4,k5,k6,k7,k9,k8⟩
section
variable {roots:List Rq}{C A:List (Value×AV)}{s:SS}{dec:List Cd}{st:List (List Sk)}{n:Nd}
theorem Tq{m:Nat}{p:ByteArray}{o:List Nd}(e:F6 roots dec (m+1)=(p,o)){es:List (List AV)}{k:Nat}(h1:es=o.map A9)(h2:k=es.length) :
  Ai [(1000,.cells (th roots C A s dec st.length)),(1001,.tok 6 s.infs.length),(1002,.tok 1 s.drv.length),(1003,.map DS (DW 0 s.infs)),(1004,.arr 1 (st.map AR)),
   (1005,.cells [.ref 1000 0]),(1006,.cells [vs p]),(1007,.cells [.slice (.ver 1008 5 (m+1)) es]),(1008,.var 5 (m+1) k),(1009,.cells [.ref 1000 0])] Ab=Ai (gR roots C A s dec st (m+1)) Ab:=by
 subst h1;subst h2
 rw[show gR roots C A s dec st (m+1)=[(1000,.cells (th roots C A s dec st.length)),(1001,.tok 6 s.infs.length),(1002,.tok 1 s.drv.length),(1003,.map DS (DW 0 s.infs)),(1004,.arr 1 (st.map AR)),
   (1005,.cells [.ref 1000 0]),(1006,.cells [vs (F6 roots dec (m+1)).1]),(1007,.cells [.slice (.ver 1008 5 (m+1)) ((F6 roots dec (m+1)).2.map A9)]),(1008,.var 5 (m+1) ((F6 roots dec (m+1)).2.map A9).length),(1009,.cells [.ref 1000 0])]from rfl,e]
theorem gT{a:ByteArray×List Nd}(h:CC dec n.rq.path=true):Ee dec a n=(a.1,a.2):=by unfold Ee;rw[Ao (.inl h)]
theorem gH{o:List Nd}(h:(0:Int)<((o.map A9).length:Int)):o≠[]:=fun e=>by subst e;simp at h
theorem kK{o:List Nd}(h:¬(0:Int)<((o.map A9).length:Int)):o=[]:=by
 cases o with
 |nil=>rfl
 |cons y l=>exact absurd (by simp) h
theorem kP{a:ByteArray×List Nd}(h:(0:Int)<((a.2.map A9).length:Int))(hb:Er a.1 n.rq.path=true):Ee dec a n=(a.1,a.2):=by unfold Ee;rw[Ao (.inr ⟨gH h,hb⟩)]
theorem gU{a:ByteArray×List Nd}(hd:CC dec n.rq.path=false)(h:(0:Int)<((a.2.map A9).length:Int))(hb:Er a.1 n.rq.path=false)(hs:Er n.rq.path a.1=true):Ee dec a n=(n.rq.path,[n]):=by
 unfold Ee;rw[Ah (by rw[hd,hb];simp),Ao ⟨gH h,hs⟩]
theorem gV{a:ByteArray×List Nd}(hd:CC dec n.rq.path=false)(hb:Er a.1 n.rq.path=false)(hs:Er n.rq.path a.1=false):Ee dec a n=(n.rq.path,a.2++[n]):=by
 unfold Ee;rw[Ah (by rw[hd,hb];simp),Ah (by rw[hs];simp)]
theorem kR{a:ByteArray×List Nd}(hd:CC dec n.rq.path=false)(h:¬(0:Int)<((a.2.map A9).length:Int)):Ee dec a n=(n.rq.path,a.2++[n]):=by
 have:=kK h
 unfold Ee;rw[Ah (by rw[hd,this];simp),Ah (by rw[this];simp)]
theorem kQ(a:ByteArray×List Nd)(n:Nd):(Ee dec a n).2.length≤a.2.length+1:=by
 unfold Ee;split
 ·omega
 ·split
  ·simp
  ·simp
theorem aL:∀(m:Nat),(F6 roots dec m).2.length≤m
 |0=>Al _
 |m+1=>by
  have ih:=aL m;cases h:(Dm roots dec)[m]? with
  |none =>
   have e:F6 roots dec (m+1)=F6 roots dec m:=by unfold F6;rw[Bq,h];simp
   rw[e];omega
  |some n=>rw[Yb h];exact Br (kQ _ _) (Em ih)
theorem YB:∀{l l' : List (Nat×HO)},l.map Prod.fst=l'.map Prod.fst→(∀p∈l',p.2≠.free)→∀i,AP (Ai l Ab) i→AP (Ai l' Ab) i
 | [],[],_,_,_,h=>h
 |(a,o)::l,(a',o')::l',e,h,i,hu=>by
  rw[AL,AL]at e
  injection e with e1 e2
  have e1:a=a':=e1;subst e1;unfold AP at *
  by_cases q:i=a
  ·subst q;simp only[Ai,CN,JJ];exact h _ (Aa ..)
  ·simp only[Ai,Cz q,Ej]at hu⊢;exact YB e2 (fun p hp=>h p (Ag _ hp)) i hu
theorem gS(m:Nat):∀i,AP (Ai (gR roots C A s dec st 0) Ab) i→AP (Ai (gR roots C A s dec st m) Ab) i:=YB rfl (by
 repeat (first | exact Cy _ | refine CY.2 ⟨by simp,?_⟩))
theorem bj:∀{l:List Cd},(∀c∈l,c.rel.reqs.length≤1073741824)→((l.map fun c=>c.rel.reqs.length)).sum≤l.length*1073741824
 | [],_=>by simp
 |c::l,h=>by
  have h1:=h c (Aa ..);have h2:=bj fun c hc=>h c (Ag _ hc);rw[AL,List.sum_cons,Av];omega
theorem cL(hr:roots.length≤1073741824)(hd:dec.length≤1000)(h:∀c∈dec,c.rel.reqs.length≤1073741824):(Dm roots dec).length≤1074815565824:=by
 rw[←Ye];unfold E4;rw[DX]
 have:=bj h
 have:=Be 1073741824 hd
 omega
end
theorem X1(l:List Nd)(n:Nd):l.map A9++[A9 n]=(l++[n]).map A9:=by rw[Ay];rfl
theorem ON(l:List Nd)(n:Nd):(l.map A9).length+([A9 n]:List (List AV)).length=(l.map A9++[A9 n]).length:=Ad.symm
attribute [local irreducible] tt po F6 Dm Ee
theorem s64(roots:List Rq)(C A:List (Value×AV))(s:SS)(dec:List Cd)(st:List (List Sk))(hr:roots.length≤1073741824)(hd:dec.length≤1000)(pd:∀c∈dec,c.rel.reqs.length≤1073741824) :
  A3 Tryz.prog 87 [.ref 1000 0] (Ai (I4 roots C A s dec st) Ab) fun r h'=>r=.tup [vs (EF roots dec).1,sl A9 (EF roots dec).2]∧h'=Ai (I4 roots C A s dec st) Ab:=by
 refine bu 5 0 9 5 (KV ⟨[],[],[],[],[],[],[],[],[],[],[]⟩) (KV Gn) YI rfl Ck rfl Ck hm rfl rfl Tryz.func87 (by kernel_rfl) rfl (Nz rfl) (by kernel_rfl) rfl 3 ?_;refine Yi (Nz rfl) ?_;refine Xi (.gen YI 1) (Yi rfl (A3.imp (wX roots C A s dec st) ?_));intro v1 g1 q1;have ld:=q1.1;have lg:=q1.2;subst ld;subst lg;refine oC [.v (.slice none 0 0)] (by kernel_rfl) (by kernel_rfl) (by kernel_rfl) [(1000,1000),(1001,1001),(1002,1002),(1003,1003),(1004,1004),(10800,1005),(4,1006),(5,1007),(9,1008),(1,1009)] YH (gR roots C A s dec st 0) (gR roots C A s dec st (Dm roots dec).length) 170 [.ref 1005 0] rfl (by kernel_rfl) (by kernel_rfl) (by kernel_rfl) (by kernel_rfl) (by kernel_rfl) (fun l9 D9 f9 tm9 sY=>wY l9 roots C A s dec st hr (Br hd (by decide)) pd fun m n hn=>dF (σ:=YH) 1007 0 1008 (KV ⟨[],[(43,5)],[],[],[],[],[],[],[],[(500005,60001007)],[5]⟩) rfl Ck hm rfl rfl rfl sY (by kernel_rfl) (by kernel_rfl) (by kernel_rfl) (gS m) ?_) (by kernel_rfl) ?_
 ·have yf:m<(Dm roots dec).length:=(Ap.1 hn).1;have hol:=aL (roots:=roots) (dec:=dec) m;have hnl:=cL hr hd pd;have hF:=Yb hn;refine Yi (Nz rfl) ?_;refine Yi ⟨rfl,rfl⟩ ?_;refine Xi ⟨[(1,.ref 1009 0),(4,.ref 1006 0),(5,.ref 1007 0),(6,.ref 6 0)],[(6,.cells (A9 n)),(60,.tok 5 ((F6 roots dec m).2.map A9).length),(1000,.cells (srM roots C A s dec 1004 st.length)),(1001,.tok 6 s.infs.length),(1002,.tok 1 s.drv.length),(1003,.map DS (DW 0 s.infs)),(1004,.arr 1 (st.map AR)),(1005,.cells [.ref 1000 0]),(1006,.cells [vs (F6 roots dec m).1]),(1007,.cells [.slice (.id 60 5) ((F6 roots dec m).2.map A9)]),(1008,.vox m),(1009,.cells [.ref 1000 0])],Ab⟩ (Yi ⟨Z4,Z12,Fh,Aw (by kernel_rfl)⟩ ?_)
  refine Dp (Bt (CC dec n.rq.path)) (fun h2=>?_) (fun h2=>?_)
  ·have h2:(CC dec n.rq.path)=true:=h2;have lN:=(rQ roots C A s dec st n.rq.path (Br hd (by decide)));rw[show(CC dec n.rq.path)=true from h2]at lN;refine Xi (.gen YI 0) (Yi rfl (A3.imp lN ?_));intro v4 g4 q4;have wJ:=q4.1;have wK:=q4.2;subst wJ;subst wK;refine Yi ⟨rfl,rfl⟩ ?_
   -- [('(CC dec n.rq.path)=true',True)]
   exact⟨rfl,Tq (hF.trans (gT h2)) rfl rfl⟩
  have h2:(CC dec n.rq.path)=false:=h2;have xT:=(rQ roots C A s dec st n.rq.path (Br hd (by decide)));rw[show(CC dec n.rq.path)=false from h2]at xT;refine Xi (.gen YI 0) (Yi rfl (A3.imp xT ?_));intro v6 g6 q6;have wL:=q6.1;have wM:=q6.2;subst wL;subst wM;refine Yi (fun h7=>?_) (fun h7=>?_)
  ·have h7:(0:Int)<(((F6 roots dec m).2.map A9).length:Int):=h7;have n7:0<(F6 roots dec m).2.length:=by have q:=h7;rw[Lm]at q;omega
   refine Yi (fun h8=>?_) (fun h8=>?_)
   ·have h8:Er (F6 roots dec m).1 n.rq.path=true:=(GW _ _).trans h8;refine Yi ⟨rfl,rfl⟩ ?_
    -- [('(CC dec n.rq.path)=true',False),('(0:Int)<(((F6 roots dec m).2.map A9).length:Int)',True),('Er (F6 roots dec m).1 n.rq.path=true',True)]
    exact⟨rfl,Tq (hF.trans (kP h7 h8)) rfl rfl⟩
   have h8:Er (F6 roots dec m).1 n.rq.path=false:=(GW _ _).trans (AM.2 h8);refine Yi (fun _=>?_) (fun hf=>absurd h7 hf);refine Yi (fun h9=>?_) (fun h9=>?_)
   ·have h9:Er n.rq.path (F6 roots dec m).1=true:=(GW _ _).trans h9;refine Yi (Nz rfl) ?_;refine Yi (Nz rfl) ?_;refine Yi (Nz rfl) ?_;have YE:Df 5 [(A9 n)]∧([(A9 n)]:List (List AV)).length*72≤140737488355328∧([(A9 n)]:List (List AV)).length≤9223372036854775807:=⟨⟨rfl,trivial⟩,(by simp only[Av,AF];omega),(by simp only[Av,AF];omega)⟩;refine Yi YE ?_;refine Yi (Nz rfl) ?_;refine Yi ⟨rfl,rfl⟩ ?_
    -- [('(CC dec n.rq.path)=true',False),('(0:Int)<(((F6 roots dec m).2.map A9).length:Int)',True),('Er (F6 roots dec m).1 n.rq.path=true',False),('Er n.rq.path (F6 roots dec m).1=true',True)]
    exact⟨rfl,Tq (hF.trans (gU h2 h7 h8 h9)) rfl rfl⟩
   have h9:Er n.rq.path (F6 roots dec m).1=false:=(GW _ _).trans (AM.2 h9);refine Yi (Nz rfl) ?_;refine Yi (Nz rfl) ?_;have mO:Df 5 [(A9 n)]∧((F6 roots dec m).2.map A9).length=((F6 roots dec m).2.map A9).length∧(((F6 roots dec m).2.map A9).length+([(A9 n)]:List (List AV)).length)*72≤140737488355328∧((F6 roots dec m).2.map A9).length+([(A9 n)]:List (List AV)).length≤9223372036854775807:=⟨⟨rfl,trivial⟩,rfl,(by simp only[Lm,Av,AF];omega),(by simp only[Lm,Av,AF];omega)⟩;refine Yi mO ?_;refine Yi (Nz rfl) ?_;refine Yi ⟨(ON _ n).symm,rfl⟩ ?_
   -- [('(CC dec n.rq.path)=true',False),('(0:Int)<(((F6 roots dec m).2.map A9).length:Int)',True),('Er (F6 roots dec m).1 n.rq.path=true',False),('Er n.rq.path (F6 roots dec m).1=true',False)]
   exact⟨rfl,Tq (hF.trans (gV h2 h8 h9)) (X1 _ n) (ON _ n)⟩
  have h7:¬((0:Int)<(((F6 roots dec m).2.map A9).length:Int)):=h7;have n7:¬0<(F6 roots dec m).2.length:=by have q:=h7;rw[Lm]at q;omega
  refine Yi (fun hf=>absurd hf h7) (fun _=>?_);refine Yi (Nz rfl) ?_;refine Yi (Nz rfl) ?_;have sx:Df 5 [(A9 n)]∧((F6 roots dec m).2.map A9).length=((F6 roots dec m).2.map A9).length∧(((F6 roots dec m).2.map A9).length+([(A9 n)]:List (List AV)).length)*72≤140737488355328∧((F6 roots dec m).2.map A9).length+([(A9 n)]:List (List AV)).length≤9223372036854775807:=⟨⟨rfl,trivial⟩,rfl,(by simp only[Lm,Av,AF];omega),(by simp only[Lm,Av,AF];omega)⟩;refine Yi sx ?_;refine Yi (Nz rfl) ?_;refine Yi ⟨(ON _ n).symm,rfl⟩ ?_
  -- [('(CC dec n.rq.path)=true',False),('(0:Int)<(((F6 roots dec m).2.map A9).length:Int)',False)]
  exact⟨rfl,Tq (hF.trans (kR h2 h7)) (X1 _ n) (ON _ n)⟩
 refine Yi (by kernel_rfl) ?_;exact Xi _ (Yi (.refl _) ⟨show AV.tup [vs (F6 roots dec (Dm roots dec).length).1,sl A9 (F6 roots dec (Dm roots dec).length).2]=_ by rw[kO (Al _)],rfl⟩)
end Go.Eng
