/- Lemmas for the claims of this seat, without a condition: part 24 (S4, S5, S8a, S9, S10). -/
import Derived.Test.YtddfphmpfnmknaaGreatDoorCA23
set_option maxHeartbeats 4000000
namespace Go.Eng
open Go.Proofs
def Te(l:List Cd)(q:Rq):Bool:=l.any fun d=>decide (d.rel.path=q.path)&&!has q.set d.place
theorem UL{f:Rq→Nat→Nd}{P:Nd→Bool}:∀{l:List Rq} {b i:Nat} {q:Rq},l[i]?=some q→P (f q (b+i))=true→(∀k u,k<i→l[k]?=some u→P (f u (b+k))=false)→(Me f b l).find? P=some (f q (b+i))
 | [],_,_,_,h,_,_=>by simp at h
 |u::l,b,0,q,h,he,_=>by
  cases h
  unfold Me;rw[EK,show P (f u b)=true from he];rfl
 |u::l,b,i+1,q,h,he,hn=>by
  unfold Me;have h0:P (f u b)=false:=hn 0 u (by omega) rfl;rw[EK,h0]
  have:=UL (f:=f) (P:=P) (l:=l) (b:=b+1) (i:=i) (q:=q) (by simpa using h) (by rw[show b+1+i=b+(i+1) by omega];exact he) (fun k v hk hv=>by
   rw[show b+1+k=b+(k+1) by omega];exact hn (k+1) v (by omega) (by simpa using hv))
  rw[show b+1+i=b+(i+1) by omega]at this;exact this
theorem Ov{f:Rq→Nat→Nd}{P:Nd→Bool}:∀{l:List Rq} {b:Nat},(∀k u,l[k]?=some u→P (f u (b+k))=false)→(Me f b l).find? P=none
 | [],_,_=>rfl
 |u::l,b,h=>by
  unfold Me;have h0:P (f u b)=false:=h 0 u rfl;rw[EK,h0];exact Ov fun k v hv=>by rw[show b+1+k=b+(k+1) by omega];exact h (k+1) v (by simpa using hv)
def yK:AV:=.agg [vs ⟨#[]⟩,.v (.slice none 0 0),vs ⟨#[]⟩,vi 0,vi 0]
def mS(o:Option Nd):AV:=match o with | some n=>.tup [.agg (A7 n),vb true] | none=>.tup [yK,vb false]
section
variable {dec:List Cd}{c:Cd}{i:Nat}
theorem eu(hi:i<c.rel.reqs.length)(hn:∀k q,k<i→c.rel.reqs[k]?=some q→Te (dec++[c]) q=false){j:Nat}(hj:j<(dec++[c]).length)(h1:(dec++[c])[j].rel.path=c.rel.reqs[i].path)(h2:has c.rel.reqs[i].set (dec++[c])[j].place=false) :
  D2 dec c=some ⟨c.rel.reqs[i],c.rel.path,c.place,(i:Nat)⟩:=by
 have:=UL (f:=fun q i=>⟨q,c.rel.path,c.place,(i:Nat)⟩) (P:=az (dec++[c])) (l:=c.rel.reqs) (b:=0) (i:=i) (q:=c.rel.reqs[i]) (Ge hi)
  (Ba.2 ⟨_,AC hj,by rw[AA h1,h2];rfl⟩) (fun k u hk hu=>hn k u hk hu)
 unfold D2 PR;rw[this,Be]
theorem eB(hn:∀(k:Nat) (q:Rq),c.rel.reqs[k]?=some q→Te (dec++[c]) q=false):D2 dec c=none:=by
 unfold D2 PR;exact Ov fun k u hu=>hn k u hu
theorem gu{q:Rq}(h:∀(m:Nat) (d:Cd),(dec++[c])[m]?=some d→(decide (d.rel.path=q.path)&&!has q.set d.place)=false):Te (dec++[c]) q=false:=by
 unfold Te;rw[Gb];intro d hd;obtain⟨m,hm⟩:=B5.1 hd;rw[h m d hm];decide
end
theorem s87(n:Nd)(c:Cd)(hq:CO n.rq.set):PC 89 [.agg (A7 n),.cptr (Az c)] (vb (!has n.rq.set c.place)):=by
 refine Ps ⟨[2],[],[],[],[],[],[],[],[],[],[]⟩ Tryz.func89 rfl (Nz rfl) ?_;refine Dd (Bt (has n.rq.set c.place)) (fun h1=>?_) (fun h1=>?_)
 ·have h1:(has n.rq.set c.place)=true:=h1;refine Xi .pure (Xi _ (Yi (cb h1 (pM n.rq.set c.place hq)) ?_));exact .of_eq (show vb false=vb (!has n.rq.set c.place) by rw[h1];rfl)
 have h1:(has n.rq.set c.place)=false:=h1;refine Xi .pure (Xi _ (Yi (cb h1 (pM n.rq.set c.place hq)) ?_));exact .of_eq (show vb true=vb (!has n.rq.set c.place) by rw[h1];rfl)
theorem yF(roots:List Rq)(C A:List (Value×AV))(s:SS)(dec:List Cd)(st:List (List Sk))(c:Cd)(hd:dec.length≤1073741823)(hr:c.rel.reqs.length≤1073741824)(hq:∀q∈c.rel.reqs,CO q.set):A3 Tryz.prog 93 [.ref 1000 0,.agg (Az c)] (Ai (IZ roots C A s dec st) Aa) fun r h'=>r=mS (D2 dec c)∧h'=Ai (IZ roots C A s dec st) Aa:=by
 have hd:dec.length≤1073741823:=hd;have hdl:(dec++[c]).length=dec.length+1:=by simp
 refine BX (LC ⟨[3],[],[],[],[],[],[],[],[(23,3)],[],[4,8,9]⟩) [(1000,1000),(1001,1001),(1002,1002),(1003,1003),(1004,1004)] rfl Co hm rfl Tryz.func93 (by kernel_rfl) rfl (Nz rfl) (by kernel_rfl) rfl ?_;refine Xi {i:Nat // i≤c.rel.reqs.length∧∀k q,k<i→c.rel.reqs[k]?=some q→Te (dec++[c]) q=false} (Xi (fun q=>⟨[(0,.ref 1000 0),(3,.ref 3 0),(4,.ref 4 0),(12,sl AK c.rel.reqs),(13,vi (c.rel.reqs.map AK).length),(14,vi q.1)],[(3,.ro (Az c)),(4,.cells [vs ⟨#[]⟩,.v (.slice none 0 0),vs ⟨#[]⟩,vi 0,vi 0]),(1000,.cells (srM roots C A s dec 1004 st.length)),(1001,.tok 6 s.infs.length),(1002,.tok 1 s.drv.length),(1003,.map DT (DX 0 s.infs)),(1004,.arr 1 (st.map AQ))],Aa⟩) (Xi (fun q=>c.rel.reqs.length-q.1) (Yi (Xi ⟨0,AL _,fun k q h=>absurd h (Ju k)⟩ ?_) ?_)))
 ·exact⟨Z6,Z7,Fh,Aw (by kernel_rfl)⟩
 intro⟨i,i1,i2⟩;have i1:i≤c.rel.reqs.length:=i1;have i2:∀k q,k<i→c.rel.reqs[k]?=some q→Te (dec++[c]) q=false:=i2;refine Yi (fun h1=>?_) (fun h1=>?_)
 ·have h1:(i:Int)<((c.rel.reqs.map AK).length:Int):=h1;have n1:=Ma h1;refine Xi (AK c.rel.reqs[i]) (Yi (UW n1) (Yi rfl ?_));refine Yi (Nz rfl) ?_;refine Yi (Nz rfl) ?_;refine Xi ⟨[(0,.ref 1000 0),(3,.ref 3 0),(4,.ref 4 0),(6,vi i),(7,.ref 7 0),(12,sl AK c.rel.reqs),(13,vi (c.rel.reqs.map AK).length),(14,vi i)],[(3,.ro (Az c)),(4,.cells [vs ⟨#[]⟩,.v (.slice none 0 0),vs ⟨#[]⟩,vi 0,vi 0]),(7,.cells (AK c.rel.reqs[i])),(1000,.cells (srM roots C A s dec 1004 st.length)),(1001,.tok 6 s.infs.length),(1002,.tok 1 s.drv.length),(1003,.map DT (DX 0 s.infs)),(1004,.arr 1 (st.map AQ))],Aa⟩ (Yi ⟨Z8,Z8,Fh,Aw (by kernel_rfl)⟩ ?_)
  refine Xi _ (Xi _ (Yi (by kernel_rfl) (Yi (rR dec (Br hd (by decide))) ?_)));refine Yi (Nz rfl) ?_;have b2:De 10 [(Az c)]∧(dec.map Az).length=(dec.map Az).length∧((dec.map Az).length+([(Az c)]:List (List AV)).length)*128≤140737488355328∧(dec.map Az).length+([(Az c)]:List (List AV)).length≤9223372036854775807:=⟨⟨rfl,trivial⟩,rfl,(by simp only[Lm,Au,AE];omega),(by simp only[Lm,Au,AE];omega)⟩;refine Yi b2 ?_;refine Yi (by kernel_rfl) ?_;refine Xi {j:Nat // j≤(dec++[c]).length∧∀m d,m<j→(dec++[c])[m]?=some d→(decide (d.rel.path=c.rel.reqs[i].path)&&!has c.rel.reqs[i].set d.place)=false} (Xi (fun q=>⟨[(0,.ref 1000 0),(3,.ref 3 0),(4,.ref 4 0),(6,vi i),(7,.ref 7 0),(12,sl AK c.rel.reqs),(13,vi (c.rel.reqs.map AK).length),(14,vi i),(26,.slice (.id 12300 10) ((dec++[c]).map Az)),(27,vi ((dec++[c]).map Az).length),(28,vi q.1)],[(3,.ro (Az c)),(4,.cells [vs ⟨#[]⟩,.v (.slice none 0 0),vs ⟨#[]⟩,vi 0,vi 0]),(7,.cells (AK c.rel.reqs[i])),(1000,.cells (srM roots C A s dec 1004 st.length)),(1001,.tok 6 s.infs.length),(1002,.tok 1 s.drv.length),(1003,.map DT (DX 0 s.infs)),(1004,.arr 1 (st.map AQ)),(12300,.tok 10 ((dec++[c]).map Az).length)],Aa⟩) (Xi (fun q=>(dec++[c]).length-q.1) (Yi (Xi ⟨0,AL _,fun k q h=>absurd h (Ju k)⟩ ?_) ?_)))
  ·exact⟨⟨Zr,Zr,Zr,Zr,Zr,Zr,Zr,Zr,⟨tkA,rfl⟩,⟨(show vi ((dec.map Az++[Az c]:List (List AV)).length:Int)=vi (((dec++[c]).map Az).length:Int) by rw[Ax];rfl),rfl⟩,Zr,Tv⟩,⟨Zr,Zr,Zr,Zr,Zr,Zr,Zr,Zr,⟨(show HO.tok 10 ((dec.map Az).length+[Az c].length)=.tok 10 ((dec++[c]).map Az).length by simp),rfl⟩,Tv⟩,Fh,Aw (by kernel_rfl)⟩
  intro⟨j,j1,j2⟩;have j1:j≤(dec++[c]).length:=j1;have j2:∀m d,m<j→(dec++[c])[m]?=some d→(decide (d.rel.path=c.rel.reqs[i].path)&&!has c.rel.reqs[i].set d.place)=false:=j2;refine Yi (fun h3=>?_) (fun h3=>?_)
  ·have h3:(j:Int)<(((dec++[c]).map Az).length:Int):=h3;have n3:=Ma h3;refine Xi (Az ((dec++[c])[j])) (Yi (UW n3) (Yi rfl ?_));refine Yi (Nz rfl) ?_;refine Yi (Nz rfl) ?_;refine Yi (fun h4=>?_) (fun h4=>?_)
   ·have h4:(((dec++[c])[j]).rel.path:ByteArray)=c.rel.reqs[i].path:=h4;refine Dd (Bt (has c.rel.reqs[i].set (dec++[c])[j].place)) (fun h5=>?_) (fun h5=>?_)
    ·have h5:(has c.rel.reqs[i].set (dec++[c])[j].place)=true:=h5;refine Xi .pure (Xi _ (Yi (cb h5 (pM c.rel.reqs[i].set (dec++[c])[j].place (hq _ (AC _)))) ?_));refine Xi ⟨[(0,.ref 1000 0),(3,.ref 3 0),(4,.ref 4 0),(6,vi i),(7,.ref 7 0),(12,sl AK c.rel.reqs),(13,vi (c.rel.reqs.map AK).length),(14,vi i),(26,.slice (.id 12300 10) ((dec++[c]).map Az)),(27,vi ((dec++[c]).map Az).length),(28,vi j)],[(3,.ro (Az c)),(4,.cells [vs ⟨#[]⟩,.v (.slice none 0 0),vs ⟨#[]⟩,vi 0,vi 0]),(7,.cells (AK c.rel.reqs[i])),(1000,.cells (srM roots C A s dec 1004 st.length)),(1001,.tok 6 s.infs.length),(1002,.tok 1 s.drv.length),(1003,.map DT (DX 0 s.infs)),(1004,.arr 1 (st.map AQ)),(12300,.tok 10 ((dec++[c]).map Az).length)],Aa⟩ (Yi ⟨Z11,Z9,Fh,Aw (by kernel_rfl)⟩ ?_)
     refine Yi (Ii j (by omega)) ?_;refine Xi ⟨j+1,by omega,fun m d hm hd=>by
       by_cases e:m=j
       ·subst e;rw[Ge n3]at hd;cases hd;exact by rw[h5];simp
       ·exact j2 m d (by omega) hd⟩ ?_
     exact⟨by show(dec++[c]).length-(j+1)<(dec++[c]).length-j;omega,Z11,Z9,Fh,Aw (by kernel_rfl)⟩
    have h5:(has c.rel.reqs[i].set (dec++[c])[j].place)=false:=h5;refine Xi .pure (Xi _ (Yi (cb h5 (pM c.rel.reqs[i].set (dec++[c])[j].place (hq _ (AC _)))) ?_));refine Xi ⟨[(3,.ref 3 0),(4,.ref 4 0),(6,vi i),(7,.ref 7 0)],[(3,.ro (Az c)),(4,.cells [vs ⟨#[]⟩,.v (.slice none 0 0),vs ⟨#[]⟩,vi 0,vi 0]),(7,.cells (AK c.rel.reqs[i])),(1000,.cells (srM roots C A s dec 1004 st.length)),(1001,.tok 6 s.infs.length),(1002,.tok 1 s.drv.length),(1003,.map DT (DX 0 s.infs)),(1004,.arr 1 (st.map AQ))],Aa⟩ (Yi ⟨Z4,Z8,Fh,Aw (by kernel_rfl)⟩ ?_)
    refine Yi (Nz rfl) ?_;refine Yi (Nz rfl) ?_;refine Yi (Nz rfl) ?_;have eC:=eu (dec:=dec) (c:=c) n1 i2 n3 h4 h5;exact Xi _ (Yi (.refl _) (Yi (show AV.tup [.agg (A7 ⟨c.rel.reqs[i],c.rel.path,c.place,(i:Nat)⟩),vb true]=mS (D2 dec c) by rw[eC];rfl) rfl))
   have h4:¬(((dec++[c])[j]).rel.path:ByteArray)=c.rel.reqs[i].path:=h4;refine Xi ⟨[(0,.ref 1000 0),(3,.ref 3 0),(4,.ref 4 0),(6,vi i),(7,.ref 7 0),(12,sl AK c.rel.reqs),(13,vi (c.rel.reqs.map AK).length),(14,vi i),(26,.slice (.id 12300 10) ((dec++[c]).map Az)),(27,vi ((dec++[c]).map Az).length),(28,vi j)],[(3,.ro (Az c)),(4,.cells [vs ⟨#[]⟩,.v (.slice none 0 0),vs ⟨#[]⟩,vi 0,vi 0]),(7,.cells (AK c.rel.reqs[i])),(1000,.cells (srM roots C A s dec 1004 st.length)),(1001,.tok 6 s.infs.length),(1002,.tok 1 s.drv.length),(1003,.map DT (DX 0 s.infs)),(1004,.arr 1 (st.map AQ)),(12300,.tok 10 ((dec++[c]).map Az).length)],Aa⟩ (Yi ⟨Z11,Z9,Fh,Aw (by kernel_rfl)⟩ ?_)
   refine Yi (Ii j (by omega)) ?_;refine Xi ⟨j+1,by omega,fun m d hm hd=>by
     by_cases e:m=j
     ·subst e;rw[Ge n3]at hd;cases hd;exact by rw[Ay h4];rfl
     ·exact j2 m d (by omega) hd⟩ ?_
   exact⟨by show(dec++[c]).length-(j+1)<(dec++[c]).length-j;omega,Z11,Z9,Fh,Aw (by kernel_rfl)⟩
  have h3:¬((j:Int)<(((dec++[c]).map Az).length:Int)):=h3;have n3:=L9 h3;refine Yi (Ii i (by omega)) ?_;have zZ:Te (dec++[c]) c.rel.reqs[i]=false:=gu fun m d hd=>j2 m d (by have:=(Ap.1 hd).1;have q:=h3;rw[Lm]at q;omega) hd;refine Xi ⟨i+1,by omega,fun k q hk vr=>by
    by_cases e:k=i
    ·subst e;rw[Ge n1]at vr;cases vr;exact zZ
    ·exact i2 k q (by omega) vr⟩ ?_
  exact⟨Dl c.rel.reqs.length i (by omega),Z6,Z7,Fh,Aw (by kernel_rfl)⟩
 have h1:¬((i:Int)<((c.rel.reqs.map AK).length:Int)):=h1;have n1:=L9 h1;refine Yi (Nz rfl) ?_;refine Yi (Nz rfl) ?_;have eC:=eB (dec:=dec) (c:=c) fun k q hk=>i2 k q (by have:=(Ap.1 hk).1;have q:=h1;rw[Lm]at q;omega) hk;exact Xi _ (Yi (.refl _) (Yi (show AV.tup [yK,vb false]=mS (D2 dec c) by rw[eC];rfl) rfl))
theorem Oj{x:List Rl}{roots:List Rq}{l0:List Nf}:∀{l:List Nf} {d d' : List (List Tm)},(∀i∈l,i∈l0)→(∀t∈d,Ul (Kd x roots l0) t)→CX x roots l d=some d'→∀t∈d',Ul (Kd x roots l0) t
 | [],d,d',_,hd,h=>by cases h;exact hd
 |i::l,d,d',hl,hd,h=>by
  unfold CX at h;cases hi:DP x roots d i with
  |none=>rw[hi]at h;cases h
  |some t =>
   rw[hi]at h;refine Oj (fun j hj=>hl j (Ag _ hj)) (fun u hu=>?_) h;rcases AU.1 hu with hu | hu
   ·exact hd u hu
   ·rw[Am.1 hu];exact cj (hl i (Ab ..)) hd hi
section
variable {x:List Rl}{roots:List Rq}{s:SS}
theorem Fo.few(hx:AT x=0)(hr:BL roots=0)(h:Fo x roots s):∀t∈s.drv,mi t:=fun t ht =>
 (Oj (l0:=s.infs) (fun _ h=>h) (fun _ h=>by cases h) h.der t ht).fewI (Zt hx hr h.len)
theorem HW{i:Nf}{l:List Tm}(h:s.infs.Nodup):(DK s i l).2.infs.Nodup:=by
 cases hk:LG i 0 s.infs with
 |some k=>rw[WV hk];exact h
 |none =>
  by_cases hf:65536≤s.infs.length
  ·rw[Uq hk hf];exact h
  ·rw[WT hk hf];show(s.infs++[i]).Nodup;rw[Gc];refine⟨h,by simp,fun a ha b hb e=>?_⟩;rw[Am.1 hb]at e;exact PO hk (e▸ha)
theorem Jy.add(h:Jy x roots s){i:Nf}{l:List Tm}(hi:DP x roots s.drv i=some l):Jy x roots (DK s i l).2∧(DK s i l).1<(DK s i l).2.drv.length∧s.drv.length≤(DK s i l).2.drv.length :=
 ⟨⟨(Kn h.der hi).1,HW h.nodup⟩,(Kn h.der hi).2.1,(Ko s i l).len⟩
theorem Jy.dl(h:Jy x roots s):s.infs.length≤65536∧s.drv.length=s.infs.length∧s.drv.length≤65536:=by
 have h1:=h.der.dlen;have h2:=h.der.len;exact⟨h2,h1,by omega⟩
theorem gG(hx:AT x=0)(p:ByteArray):∀d,DP x roots d ⟨2,p,0,0,0,0⟩=some (HE p (B1 x p)):=fun d=>by
 obtain⟨u,u0,u1,hu⟩:=aY hx p;have hV:F5 []:=fun _ h=>by cases h
 have ou:WP [] p (Kc [] p (Pi u)):=.ver hV (EY ⟨u0,u1⟩);have h1:Bb [(⟨p,false,Ej (B1 x p)⟩:Tm)] (Kc [] p (Pi u))=true:=by
  rw[Bx];intro t ht;rw[Am.1 ht];show Da _ (B2 (Kc [] p (Pi u)) p)=true;rw[H5 rfl];show(Cr (Pi u)&&has (Ej (B1 x p)) (place (Pi u)))=true;rw[EY ⟨u0,u1⟩,G1,FC,hu];unfold LD;simp[u0,u1]
 have h2:Bb [(⟨p,false,Ej (B1 x p)⟩:Tm)] []=false:=rfl;have Dr:HE p (B1 x p)≠[]:=by
  have c1:=CQ (l:=[(⟨p,false,Ej (B1 x p)⟩:Tm)]) ou.val;have c2:=CQ (l:=[(⟨p,false,Ej (B1 x p)⟩:Tm)]) hV;rw[h1]at c1;rw[h2]at c2;unfold HE PM;cases hc:CE [(⟨p,false,Ej (B1 x p)⟩:Tm)]with
  |none=>rw[hc]at c1;cases c1
  |some c =>
   rw[hc]at c2;intro e;have e:c=[]:=e;rw[e]at c2;cases c2
 unfold DP;rw[Ah (show ¬((2:Int)=0) by decide),Ah (show ¬((2:Int)=1) by decide),Ao rfl,Ao ⟨rfl,rfl,rfl,rfl⟩];unfold cB;rw[Ah (by rw[GI];exact Dr)]
theorem EI{k:Nat}(h:k<s.drv.length):s.drv[k]?=some (Dt s k):=by
 unfold Dt;rw[BR,Ge h];rfl
theorem S0{p:ByteArray}{L:List Nat}{j k:Nat}(hj:j<L.length)(h:s.full=true∨CR (Dt s k) p=false):B4 p (L.drop j) k s=(k,s):=by
 rw[Bj hj];unfold B4;rw[Ao h]
theorem Zc{p:ByteArray}{L:List Nat}{j k:Nat}(hj:j<L.length)(h1:¬(s.full=true∨CR (Dt s k) p=false))(h:L[j]=k):B4 p (L.drop j) k s=B4 p (L.drop (j+1)) k s:=by
 rw[Bj hj]
 conv=>lhs;unfold B4
 rw[Ah h1,Ao h]
theorem cu{p:ByteArray}{L:List Nat}{j k:Nat}(hj:j<L.length)(h1:¬(s.full=true∨CR (Dt s k) p=false))(h2:¬L[j]=k)(h:(Bo (Dt s k) (Dt s L[j]) p).2≠0):B4 p (L.drop j) k s=B4 p (L.drop (j+1)) k s:=by
 rw[Bj hj]
 conv=>lhs;unfold B4
 rw[Ah h1,Ah h2,Ao h]
theorem ct{p:ByteArray}{L:List Nat}{j k:Nat}(hj:j<L.length)(h1:¬(s.full=true∨CR (Dt s k) p=false))(h2:¬L[j]=k)(h:(Bo (Dt s k) (Dt s L[j]) p).2=0) :
  B4 p (L.drop j) k s=B4 p (L.drop (j+1)) (DK s ⟨3,p,0,0,(k:Nat),(L[j]:Nat)⟩ (Bo (Dt s k) (Dt s L[j]) p).1).1 (DK s ⟨3,p,0,0,(k:Nat),(L[j]:Nat)⟩ (Bo (Dt s k) (Dt s L[j]) p).1).2:=by
 rw[Bj hj]
 conv=>lhs;unfold B4
 rw[Ah h1,Ah h2,Ah (fun h3=>h3 h)]
end
theorem E5{t:List Tm}(h:mi t):CO t:=by have:=h.1;unfold CO;omega
theorem yG(x:List Rl)(roots:List Rq)(C A:List (Value×AV))(s:SS)(dec:List Cd)(st:List (List Sk))(p:ByteArray)(n:Nd)(rs:List Nat)(V:AV)(hx:AT x=0)(hr:BL roots=0)(hs:Jy x roots s)(nv:∀d,DP x roots d (MV n)=some (Hx n))(sO:∀r∈rs,r<s.drv.length)(WJ:rs.length≤1073741823)(hnq:CO n.rq.set)(hnp:BQ (n.place+1))
  (qf:∀a,(Value.string p,a)∈A→a=V) (qg:(∀a,(Value.string p,a)∉A)→V=.v (.slice none 0 0)) (qh:∀h,PC 127 [vs p,str h V] (sl AB (HE p (B1 x p)))):A3 Tryz.prog 96 [.ref 1000 0,vs p,.agg (A7 n),sl BK rs] (Ai (IZ roots C A s dec st) Aa) fun r h'=>mg roots C A dec st (DE x p n rs s) r h':=by
 have hw:=hs.dl;obtain⟨nJ,uU,T9⟩:=hs.add (nv s.drv)
 change Jy x roots (Bd s n).2 at nJ
 change (Bd s n).1<(Bd s n).2.drv.length at uU
 change s.drv.length≤(Bd s n).2.drv.length at T9
 have KP:=nJ.dl;obtain⟨jX,Ir,fG⟩:=nJ.add (gG hx p (Bd s n).2.drv)
 change Jy x roots (D4 x p (Bd s n).2).2 at jX
 change (D4 x p (Bd s n).2).1<(D4 x p (Bd s n).2).2.drv.length at Ir
 change (Bd s n).2.drv.length≤(D4 x p (Bd s n).2).2.drv.length at fG
 obtain⟨L,hL⟩:∃L,L=(D4 x p (Bd s n).2).1::rs:=⟨_,rfl⟩;have zq:∀r∈L,r<(D4 x p (Bd s n).2).2.drv.length:=fun r nF=>by
  rw[hL]at nF;rcases Av.1 nF with rfl | h
  ·exact Ir
  ·have:=sO r h;omega
 have xA:L.length=rs.length+1:=by rw[hL];rfl
 have uU:(Bd s n).1<(D4 x p (Bd s n).2).2.drv.length:=by omega
 refine BX (LC ⟨[6],[],[],[],[],[],[],[],[],[],[2,3,7,8,10,12]⟩) [(1000,1000),(1001,1001),(1002,1002),(1003,1003),(1004,1004)] rfl Co hm rfl Tryz.func96 (by kernel_rfl) rfl (Nz rfl) (by kernel_rfl) rfl ?_;refine Yi (Nz rfl) ?_;refine Xi (.gen Yz 0) (Yi rfl (A3.imp (wX roots C A s dec st n hw.1 hw.2.1 hs.nodup hnq hnp) ?_));intro v1 g1 q1;have kN:=q1.1;have kO:=q1.2;subst kN;subst kO;refine Xi ⟨[(0,.ref 1000 0),(1,vs p),(3,sl BK rs),(9,vi (((Bd s n).1:Nat):Int))],[(1000,.cells [sl AK roots,.cmap CM C,.cmap CM A,.slice (.id 1001 6) ((Bd s n).2.infs.map BS),.slice (.id 1002 1) ((Bd s n).2.drv.map B6),.mref 1003,vb (Bd s n).2.full,sl Az dec,sl Ae (AJ dec),.msl 1004 st.length]),(1001,.tok 6 (Bd s n).2.infs.length),(1002,.tok 1 (Bd s n).2.drv.length),(1003,.map DT (DX 0 (Bd s n).2.infs)),(1004,.arr 1 (st.map AQ))],Aa⟩ (Yi ⟨Z4,Z5,Fh,Aw (by kernel_rfl)⟩ ?_)
 refine OB V (.v (.slice none 0 0)) qf qg (fun h=>h) ?_;refine Xi .pure (Xi _ (Yi (qh _) ?_));refine Xi (.gen Yz 0) (Yi rfl (A3.imp (kS roots C A (Bd s n).2 dec st ⟨2,p,0,0,0,0⟩ (HE p (B1 x p)) KP.1 KP.2.1 nJ.nodup) ?_));intro v2 g2 q2;have wo:=q2.1;have wq:=q2.2;subst wo;subst wq;refine Xi ⟨[(0,.ref 1000 0),(1,vs p),(3,sl BK rs),(9,vi (((Bd s n).1:Nat):Int)),(10,vi (((D4 x p (Bd s n).2).1:Nat):Int))],[(1000,.cells [sl AK roots,.cmap CM C,.cmap CM A,.slice (.id 1001 6) ((D4 x p (Bd s n).2).2.infs.map BS),.slice (.id 1002 1) ((D4 x p (Bd s n).2).2.drv.map B6),.mref 1003,vb (D4 x p (Bd s n).2).2.full,sl Az dec,sl Ae (AJ dec),.msl 1004 st.length]),(1001,.tok 6 (D4 x p (Bd s n).2).2.infs.length),(1002,.tok 1 (D4 x p (Bd s n).2).2.drv.length),(1003,.map DT (DX 0 (D4 x p (Bd s n).2).2.infs)),(1004,.arr 1 (st.map AQ))],Aa⟩ (Yi ⟨Z5,Z5,Fh,Aw (by kernel_rfl)⟩ ?_)
 have b3:De 1 (rs.map BK)∧([[vi (((D4 x p (Bd s n).2).1:Nat):Int)]]:List (List AV)).length=1∧(([[vi (((D4 x p (Bd s n).2).1:Nat):Int)]]:List (List AV)).length+(rs.map BK).length)*8≤140737488355328∧([[vi (((D4 x p (Bd s n).2).1:Nat):Int)]]:List (List AV)).length+(rs.map BK).length≤9223372036854775807:=⟨(Fi (enc:=BK) (n:=1) (fun _=>rfl) rs),(by first | (simp;done) | (rw[Lm];assumption)),(by simp only[Lm,Au,AE];omega),(by simp only[Lm,Au,AE];omega)⟩
 refine Yi b3 ?_;refine Xi {q:Nat×Nat×SS // q.1≤L.length∧B4 p (L.drop q.1) q.2.1 q.2.2=B4 p L (Bd s n).1 (D4 x p (Bd s n).2).2∧Jy x roots q.2.2∧q.2.1<q.2.2.drv.length∧∀r∈L,r<q.2.2.drv.length} (Xi (fun q=>⟨[(0,.ref 1000 0),(1,vs p),(9,vi q.1.2.1),(33,.slice (.id 31 1) (L.map BK)),(34,vi (L.map BK).length),(35,vi q.1.1)],[(31,.tok 1 (L.map BK).length),(1000,.cells (srM roots C A q.1.2.2 dec 1004 st.length)),(1001,.tok 6 q.1.2.2.infs.length),(1002,.tok 1 q.1.2.2.drv.length),(1003,.map DT (DX 0 q.1.2.2.infs)),(1004,.arr 1 (st.map AQ))],Aa⟩) (Xi (fun q=>L.length-q.1.1) (Yi (Xi ⟨(0,(Bd s n).1,(D4 x p (Bd s n).2).2),AL _,by rw[List.drop_zero],jX,uU,zq⟩ ?_) ?_)))
 ·exact⟨⟨Zr,Zr,Zr,⟨(show AV.slice (.id 31 1) ([[vi (((D4 x p (Bd s n).2).1:Nat):Int)]]++rs.map BK)=.slice (.id 31 1) (L.map BK) by rw[hL];rfl),rfl⟩,⟨(show vi (([[vi (((D4 x p (Bd s n).2).1:Nat):Int)]]++rs.map BK:List (List AV)).length:Int)=vi ((L.map BK).length:Int) by rw[hL];rfl),rfl⟩,Zr,Tv⟩,⟨⟨(show HO.tok 1 (([[vi (((D4 x p (Bd s n).2).1:Nat):Int)]]:List (List AV)).length+(rs.map BK).length)=.tok 1 (L.map BK).length by rw[hL];simp[Nat.add_comm]),rfl⟩,Zr,Zr,Zr,Zr,Zr,Tv⟩,Fh,Aw (by kernel_rfl)⟩
 intro⟨⟨j,k,S⟩,j1,j2,j3,j4,j5⟩;have j1:j≤L.length:=j1;have j2:B4 p (L.drop j) k S=B4 p L (Bd s n).1 (D4 x p (Bd s n).2).2:=j2;have j3:Jy x roots S:=j3;have j4:k<S.drv.length:=j4;have j5:∀r∈L,r<S.drv.length:=j5;have yh:=j3.dl;have sF:=j3.der.few hx hr;have gk:S.drv[k]?=some (Dt S k):=EI j4;refine Yi (fun h4=>?_) (fun h4=>?_)
 ·have h4:(j:Int)<((L.map BK).length:Int):=h4;have n4:=Ma h4;refine Xi (BK L[j]) (Yi (UW n4) (Yi rfl ?_));refine Yi (fun h5=>?_) (fun h5=>?_)
  ·have h5:S.full=true:=h5;refine Xi ⟨[(9,vi k)],[(1000,.cells (srM roots C A S dec 1004 st.length)),(1001,.tok 6 S.infs.length),(1002,.tok 1 S.drv.length),(1003,.map DT (DX 0 S.infs)),(1004,.arr 1 (st.map AQ))],Aa⟩ (Yi ⟨Z1,Z5,Fh,Aw (by kernel_rfl)⟩ ?_)
   have eR:B4 p L (Bd s n).1 (D4 x p (Bd s n).2).2=(k,S):=by rw[←j2];exact S0 n4 (.inl h5)
   have eL:DE x p n rs s=(k,S):=by unfold DE;rw[←hL];exact eR
   exact Xi _ (Yi (.refl _) (Yi (show vi (k:Int)=vi (((DE x p n rs s).1:Nat):Int) by rw[eL]) (show Ai (IZ roots C A S dec st) Aa=Ai (IZ roots C A (DE x p n rs s).2 dec st) Aa by rw[eL])))
  have h5:S.full=false:=h5;refine Xi (B6 (Dt S k)) (Yi (Yi (Nn k) (Do gk)) (Yi rfl ?_));refine Dd (Bt (CR (Dt S k) p)) (fun h7=>?_) (fun h7=>?_)
  ·have h7:(CR (Dt S k) p)=true:=h7;refine Xi .pure (Xi _ (Yi (cb h7 (jb (Dt S k) p (E5 (sF _ (Ar (EI j4)))))) ?_));refine Xi ⟨[(0,.ref 1000 0),(1,vs p),(9,vi k),(12,vi (L[j]:Nat)),(33,.slice (.id 31 1) (L.map BK)),(34,vi (L.map BK).length),(35,vi j)],[(31,.tok 1 (L.map BK).length),(1000,.cells (srM roots C A S dec 1004 st.length)),(1001,.tok 6 S.infs.length),(1002,.tok 1 S.drv.length),(1003,.map DT (DX 0 S.infs)),(1004,.arr 1 (st.map AQ))],Aa⟩ (Yi ⟨Z7,Z6,Fh,Aw (by kernel_rfl)⟩ ?_)
   refine Yi (fun h8=>?_) (fun h8=>?_)
   ·have h8:((L[j]:Nat):Int)=(k:Int):=h8;refine Xi ⟨[(0,.ref 1000 0),(1,vs p),(9,vi k),(33,.slice (.id 31 1) (L.map BK)),(34,vi (L.map BK).length),(35,vi j)],[(31,.tok 1 (L.map BK).length),(1000,.cells (srM roots C A S dec 1004 st.length)),(1001,.tok 6 S.infs.length),(1002,.tok 1 S.drv.length),(1003,.map DT (DX 0 S.infs)),(1004,.arr 1 (st.map AQ))],Aa⟩ (Yi ⟨Z6,Z6,Fh,Aw (by kernel_rfl)⟩ ?_)
    refine Yi (Ii j (by omega)) ?_;refine Xi ⟨(j+1,k,S),Fr n4,by rw[←(Zc (s:=S) (p:=p) (L:=L) (j:=j) (k:=k) n4 (by rw[h5,h7];simp) (by have q:=h8;omega))];exact j2,j3,j4,j5⟩ ?_;exact⟨Dl L.length j (by omega),Z6,Z6,Fh,Aw (by kernel_rfl)⟩
   have h8:¬(((L[j]:Nat):Int)=(k:Int)):=h8;refine Xi (B6 (Dt S k)) (Yi (Yi (Nn k) (Do gk)) (Yi rfl ?_));refine Xi (B6 (Dt S L[j])) (Yi (Yi (show(0:Int)≤(L[j]:Nat) by omega) (Do (EI (j5 _ (AC n4))))) (Yi rfl ?_));have fk:=sF _ (Ar (EI j4));have fr:=sF _ (Ar (EI (j5 _ (AC n4))));refine Xi _ (Yi (tQ (Dt S k) (Dt S L[j]) p fk.1 fr.1 fk.2 fr.2) ?_);refine Yi (by kernel_rfl) ?_;refine Xi ⟨[(0,.ref 1000 0),(1,vs p),(9,vi k),(12,vi (L[j]:Nat)),(13,sl AB (Bo (Dt S k) (Dt S L[j]) p).1),(14,vi (Bo (Dt S k) (Dt S L[j]) p).2),(33,.slice (.id 31 1) (L.map BK)),(34,vi (L.map BK).length),(35,vi j)],[(31,.tok 1 (L.map BK).length),(1000,.cells (srM roots C A S dec 1004 st.length)),(1001,.tok 6 S.infs.length),(1002,.tok 1 S.drv.length),(1003,.map DT (DX 0 S.infs)),(1004,.arr 1 (st.map AQ))],Aa⟩ (Yi ⟨Z9,Z6,Fh,Aw (by kernel_rfl)⟩ ?_)
   refine Yi (fun Sy=>?_) (fun Sy=>?_)
   ·have Sy:((Bo (Dt S k) (Dt S L[j]) p).2:Int)≠(0:Int):=Sy;refine Xi ⟨[(0,.ref 1000 0),(1,vs p),(9,vi k),(33,.slice (.id 31 1) (L.map BK)),(34,vi (L.map BK).length),(35,vi j)],[(31,.tok 1 (L.map BK).length),(1000,.cells (srM roots C A S dec 1004 st.length)),(1001,.tok 6 S.infs.length),(1002,.tok 1 S.drv.length),(1003,.map DT (DX 0 S.infs)),(1004,.arr 1 (st.map AQ))],Aa⟩ (Yi ⟨Z6,Z6,Fh,Aw (by kernel_rfl)⟩ ?_)
    refine Yi (Ii j (by omega)) ?_;refine Xi ⟨(j+1,k,S),Fr n4,by rw[←(cu (s:=S) (p:=p) (L:=L) (j:=j) (k:=k) n4 (by rw[h5,h7];simp) (by have q:=h8;omega) Sy)];exact j2,j3,j4,j5⟩ ?_;exact⟨Dl L.length j (by omega),Z6,Z6,Fh,Aw (by kernel_rfl)⟩
   have Sy:((Bo (Dt S k) (Dt S L[j]) p).2:Int)=(0:Int):=AW Sy;refine Xi (.gen Yz 0) (Yi rfl (A3.imp (kS roots C A S dec st ⟨3,p,0,0,(k:Nat),(L[j]:Nat)⟩ (Bo (Dt S k) (Dt S L[j]) p).1 yh.1 yh.2.1 j3.nodup) ?_));intro v12 g12 kM;have oe:=kM.1;have og:=kM.2;subst oe;subst og;refine Xi ⟨[(0,.ref 1000 0),(1,vs p),(9,vi (((DK S ⟨3,p,0,0,(k:Nat),(L[j]:Nat)⟩ (Bo (Dt S k) (Dt S L[j]) p).1).1:Nat):Int)),(33,.slice (.id 31 1) (L.map BK)),(34,vi (L.map BK).length),(35,vi j)],[(31,.tok 1 (L.map BK).length),(1000,.cells [sl AK roots,.cmap CM C,.cmap CM A,.slice (.id 1001 6) ((DK S ⟨3,p,0,0,(k:Nat),(L[j]:Nat)⟩ (Bo (Dt S k) (Dt S L[j]) p).1).2.infs.map BS),.slice (.id 1002 1) ((DK S ⟨3,p,0,0,(k:Nat),(L[j]:Nat)⟩ (Bo (Dt S k) (Dt S L[j]) p).1).2.drv.map B6),.mref 1003,vb (DK S ⟨3,p,0,0,(k:Nat),(L[j]:Nat)⟩ (Bo (Dt S k) (Dt S L[j]) p).1).2.full,sl Az dec,sl Ae (AJ dec),.msl 1004 st.length]),(1001,.tok 6 (DK S ⟨3,p,0,0,(k:Nat),(L[j]:Nat)⟩ (Bo (Dt S k) (Dt S L[j]) p).1).2.infs.length),(1002,.tok 1 (DK S ⟨3,p,0,0,(k:Nat),(L[j]:Nat)⟩ (Bo (Dt S k) (Dt S L[j]) p).1).2.drv.length),(1003,.map DT (DX 0 (DK S ⟨3,p,0,0,(k:Nat),(L[j]:Nat)⟩ (Bo (Dt S k) (Dt S L[j]) p).1).2.infs)),(1004,.arr 1 (st.map AQ))],Aa⟩ (Yi ⟨Z6,Z6,Fh,Aw (by kernel_rfl)⟩ ?_)
   refine Yi (Ii j (by omega)) ?_;obtain⟨a1,a2,a3⟩:=j3.add (UT (x:=x) (roots:=roots) (p:=p) j4 (j5 _ (AC n4)) Sy);refine Xi ⟨(j+1,(DK S ⟨3,p,0,0,(k:Nat),(L[j]:Nat)⟩ (Bo (Dt S k) (Dt S L[j]) p).1).1,(DK S ⟨3,p,0,0,(k:Nat),(L[j]:Nat)⟩ (Bo (Dt S k) (Dt S L[j]) p).1).2),Fr n4,by rw[←(ct (s:=S) (p:=p) (L:=L) (j:=j) (k:=k) n4 (by rw[h5,h7];simp) (by have q:=h8;omega) Sy)];exact j2,a1,a2,fun r hr=>Bu (j5 r hr) a3⟩ ?_;exact⟨Dl L.length j (by omega),Z6,Z6,Fh,Aw (by kernel_rfl)⟩
  have h7:(CR (Dt S k) p)=false:=h7;refine Xi .pure (Xi _ (Yi (cb h7 (jb (Dt S k) p (E5 (sF _ (Ar (EI j4)))))) ?_));refine Xi ⟨[(9,vi k)],[(1000,.cells (srM roots C A S dec 1004 st.length)),(1001,.tok 6 S.infs.length),(1002,.tok 1 S.drv.length),(1003,.map DT (DX 0 S.infs)),(1004,.arr 1 (st.map AQ))],Aa⟩ (Yi ⟨Z1,Z5,Fh,Aw (by kernel_rfl)⟩ ?_)
  have eR:B4 p L (Bd s n).1 (D4 x p (Bd s n).2).2=(k,S):=by rw[←j2];exact S0 n4 (.inr h7)
  have eL:DE x p n rs s=(k,S):=by unfold DE;rw[←hL];exact eR
  exact Xi _ (Yi (.refl _) (Yi (show vi (k:Int)=vi (((DE x p n rs s).1:Nat):Int) by rw[eL]) (show Ai (IZ roots C A S dec st) Aa=Ai (IZ roots C A (DE x p n rs s).2 dec st) Aa by rw[eL])))
 have h4:¬((j:Int)<((L.map BK).length:Int)):=h4;have n4:=L9 h4;have hj:¬j<L.length:=by have q:=h4;rw[Lm]at q;omega
 have eR:B4 p L (Bd s n).1 (D4 x p (Bd s n).2).2=(k,S):=by rw[←j2,FI (by omega)];rfl
 have eL:DE x p n rs s=(k,S):=by unfold DE;rw[←hL];exact eR
 exact Xi _ (Yi (.refl _) (Yi (show vi (k:Int)=vi (((DE x p n rs s).1:Nat):Int) by rw[eL]) (show Ai (IZ roots C A S dec st) Aa=Ai (IZ roots C A (DE x p n rs s).2 dec st) Aa by rw[eL])))
abbrev YA:IR:=[(1000,1000),(1001,1001),(1002,1002),(1003,1003),(500,1004)]
abbrev s8(roots:List Rq)(C A:List (Value×AV))(s:SS)(dec:List Cd)(st:List (List Sk)):List (Nat×HO) :=
 [(1000,.cells (srM roots C A s dec 2000 st.length)),(1001,.tok 6 s.infs.length),(1002,.tok 1 s.drv.length),(1003,.map DT (DX 0 s.infs)),(1004,.dead),(2000,.arr 1 (st.map AQ))]
abbrev YB(roots:List Rq)(C A:List (Value×AV))(o:Jx)(r:AV)(h' : Nat→HO):Prop:=r=.tup [vi (o.res:Nat),vb o.found]∧h'=Ai (s8 roots C A o.ss o.dec o.stack) Aa
def yL(roots:List Rq)(C A:List (Value×AV)):Prop:=∀(s:SS) (dec:List Cd) (st:List (List Sk)),dec.length≤1000→(∀c∈dec,c.rel.reqs.length≤1073741824) →
 A3 Tryz.prog 87 [.ref 1000 0] (Ai (IZ roots C A s dec st) Aa) fun r h'=>r=.tup [vs (Eu roots dec).1,sl A7 (Eu roots dec).2]∧h'=Ai (IZ roots C A s dec st) Aa
theorem Nl{roots:List Rq}{C A:List (Value×AV)}{o:Jx}{k:Nat}{b:Bool}{s:SS}{dec:List Cd}{st:List (List Sk)}(e:o=⟨k,b,s,dec,st⟩) :
  AV.tup [vi (k:Nat),vb b]=.tup [vi (o.res:Nat),vb o.found]∧Ai (s8 roots C A s dec st) Aa=Ai (s8 roots C A o.ss o.dec o.stack) Aa:=by rw[e];exact Zr
abbrev Yy:IR:=[(1000,1000),(1001,1001),(1002,1002),(1003,1003),(1004,1004),(1005,1005),(1006,1006),(1007,1007),(1008,1008),(1009,1009)]
def F6(roots:List Rq)(dec:List Cd)(m:Nat):ByteArray×List Nd:=((Di roots dec).take m).foldl (Eh dec) (mt,[])
theorem X5{roots:List Rq}{dec:List Cd}{m:Nat}{n:Nd}(h:(Di roots dec)[m]?=some n):F6 roots dec (m+1)=Eh dec (F6 roots dec m) n:=by
 unfold F6;rw[Bq,h,Fp];rfl
theorem ku{roots:List Rq}{dec:List Cd}{m:Nat}(h:(Di roots dec).length≤m):F6 roots dec m=Eu roots dec:=by
 unfold F6 Eu;rw[AG h]
def E4(roots:List Rq)(dec:List Cd)(j:Nat):Nat:=roots.length+((dec.take j).map fun c=>c.rel.reqs.length).sum
theorem Tw(c:Cd):(PR c).length=c.rel.reqs.length:=KE _ _ _
theorem cN(roots:List Rq)(dec:List Cd):E4 roots dec 0=roots.length:=by unfold E4;simp
theorem cM{roots:List Rq}{dec:List Cd}{j:Nat}(h:j<dec.length):E4 roots dec (j+1)=E4 roots dec j+dec[j].rel.reqs.length:=by
 unfold E4;rw[Kk h,Ax,List.sum_append];simp[Nat.add_assoc]
theorem X8(roots:List Rq)(dec:List Cd):E4 roots dec dec.length=(Di roots dec).length:=by
 unfold E4 Di Yn;rw[DZ,Ad,KE,List.length_flatten,BB]
 congr 2
 exact A9 fun c _=>(Tw c).symm
theorem cD{roots:List Rq}{dec:List Cd}{i:Nat}(h:i<roots.length):(Di roots dec)[i]?=some ⟨roots[i],mt,0,(i:Nat)⟩:=by
 unfold Di Yn;rw[AX (by rw[KE];exact h),OU,Ge h,Fv,Be]
theorem Xn{α:Type}:∀{l:List (List α)} {j k:Nat} (hj:j<l.length),k<l[j].length→l.flatten[((l.take j).map List.length).sum+k]?=l[j][k]?
 |y::l,0,k,_,hk=>by
  rw[Bm,List.take_zero,E1,List.sum_nil,Be,AX (show k<y.length from hk)];rfl
 |y::l,j+1,k,hj,hk=>by
  rw[Bm,IQ,AH,List.sum_cons,AZ (by omega)]
  have:=Xn (l:=l) (j:=j) (k:=k) (by simpa using hj) hk
  rw[show y.length+((l.take j).map List.length).sum+k-y.length=((l.take j).map List.length).sum+k by omega,this]
  rfl
theorem gy{roots:List Rq}{dec:List Cd}{j k:Nat}(hj:j<dec.length)(hk:k<dec[j].rel.reqs.length):(Di roots dec)[E4 roots dec j+k]?=some ⟨dec[j].rel.reqs[k],dec[j].rel.path,dec[j].place,(k:Nat)⟩:=by
 unfold Di Yn E4;rw[AZ (by rw[KE];omega),KE];have h:=Xn (l:=dec.map PR) (j:=j) (k:=k) (by simpa using hj) (by rw[List.getElem_map,Tw];exact hk);rw[←List.map_take,BB,show(List.length ∘ PR)=fun c=>c.rel.reqs.length from funext Tw]at h;rw[show roots.length+((dec.take j).map fun c=>c.rel.reqs.length).sum+k-roots.length=((dec.take j).map fun c=>c.rel.reqs.length).sum+k by omega,h,List.getElem_map];unfold PR;rw[OU,Ge hk,Fv,Be]
abbrev gK(roots:List Rq)(C A:List (Value×AV))(s:SS)(dec:List Cd)(st:List (List Sk))(m:Nat):List (Nat×HO) :=
  [(1000,.cells (s7 roots C A s dec st.length)),(1001,.tok 6 s.infs.length),(1002,.tok 1 s.drv.length),(1003,.map DT (DX 0 s.infs)),(1004,.arr 1 (st.map AQ)),
   (1005,.cells [.ref 1000 0]),(1006,.cells [vs (F6 roots dec m).1]),(1007,.cells [.slice (.ver 1008 5 m) ((F6 roots dec m).2.map A7)]),(1008,.var 5 m ((F6 roots dec m).2.map A7).length),(1009,.cells [.ref 1000 0])]
noncomputable abbrev zd(pl:RK)(l:Nat)(Y:Gh→World→Prop):Cx:=⟨Tryz.prog,l5,pl,true,0,fun l' σ' g w=>l'=l→σ'=Yy→Y g w⟩
theorem II.pre{P:Program}{Y Y' : Gh→World→Prop}{l:Nat}{args:List AV}{h0:Nat→HO}{Q:AV→(Nat→HO)→Prop}(h:II P Y l args h0 Q)(hp:∀g w,Y' g w→Y g w):II P Y' l args h0 Q :=
 fun g w vals q1 q2 q3 q4=>h g w vals q1 q2 q3 (hp g w q4)
theorem wO(roots:List Rq)(C A:List (Value×AV))(s:SS)(dec:List Cd)(st:List (List Sk)):A3 Tryz.prog 117 [.ref 1000 0] (Ai (IZ roots C A s dec st) Aa) fun r h'=>r=.clo 170 [.ref 2000 0]∧h'=Ai (IZ roots C A s dec st++[(2000,.cells [.ref 1000 0])]) Aa:=by
 refine BX (LC ⟨[],[],[],[],[],[],[],[],[],[],[]⟩) [(1000,1000),(1001,1001),(1002,1002),(1003,1003),(1004,1004),(1,2000)] rfl Co hm rfl Tryz.func117 (by kernel_rfl) rfl (Nz rfl) (by kernel_rfl) rfl ?_;exact Xi _ (Yi (.refl _) Zr)
theorem wP{Y:Gh→World→Prop}(l:Nat)(roots:List Rq)(C A:List (Value×AV))(s:SS)(dec:List Cd)(st:List (List Sk))(hr:roots.length≤1073741824)(hd:dec.length≤1073741824)(o5:∀c∈dec,c.rel.reqs.length≤1073741824)
  (hy:∀m n,(Di roots dec)[m]?=some n→II Tryz.prog Y l [.agg (A7 n)] (Ai (gK roots C A s dec st m) Aa) fun r h'=>r=vb true∧h'=Ai (gK roots C A s dec st (m+1)) Aa) :
  WN Tryz.prog Y Yy 170 [.v (.func (.yield l) #[] #[]),.ref 1005 0] (Ai (gK roots C A s dec st 0) Aa) fun _ h'=>h'=Ai (gK roots C A s dec st (Di roots dec).length) Aa:=by
 have hr:roots.length≤1073741824:=hr;refine fS (l:=l) (zd ⟨[],[],[],[],[],[],[],[],[],[],[4,12]⟩ l Y) Yy rfl Co hm rfl Tryz.func170 (by kernel_rfl) rfl (Nz rfl) (by kernel_rfl) rfl rfl ?_;refine Xi {i:Nat // i≤roots.length} (Xi (fun q=>⟨[(0,.v (.func (.yield l) #[] #[])),(1,.ref 1005 0),(12,sl AK roots),(13,vi (roots.map AK).length),(14,vi q.1)],[(1000,.cells (srM roots C A s dec 1004 st.length)),(1001,.tok 6 s.infs.length),(1002,.tok 1 s.drv.length),(1003,.map DT (DX 0 s.infs)),(1004,.arr 1 (st.map AQ)),(1005,.cells [.ref 1000 0]),(1006,.cells [vs (F6 roots dec q.1).1]),(1007,.cells [.slice (.ver 1008 5 q.1) ((F6 roots dec q.1).2.map A7)]),(1008,.var 5 q.1 ((F6 roots dec q.1).2.map A7).length),(1009,.cells [.ref 1000 0])],Aa⟩) (Xi (fun q=>roots.length-q.1) (Yi (Xi ⟨0,AL _⟩ ?_) ?_)))
 ·exact⟨Z5,Z10,Fh,Aw (by kernel_rfl)⟩
 intro⟨i,i1⟩;have i1:i≤roots.length:=i1;refine Yi (fun h1=>?_) (fun h1=>?_)
 ·have h1:(i:Int)<((roots.map AK).length:Int):=h1;have n1:=Ma h1;refine Xi (AK roots[i]) (Yi (UW n1) (Yi rfl ?_));refine Yi (Nz rfl) ?_;refine Yi (Nz rfl) ?_;refine Yi (Nz rfl) ?_;refine Xi (.gen Yy 0) (Yi rfl (II.imp (II.pre (hy i ⟨roots[i],mt,0,(i:Nat)⟩ (cD n1)) (fun g w q=>q rfl rfl)) ?_));intro v2 g2 q2;have wo:=q2.1;have wq:=q2.2;subst wo;subst wq;refine Xi ⟨[(0,.v (.func (.yield l) #[] #[])),(1,.ref 1005 0),(12,sl AK roots),(13,vi (roots.map AK).length),(14,vi i)],[(1000,.cells (srM roots C A s dec 1004 st.length)),(1001,.tok 6 s.infs.length),(1002,.tok 1 s.drv.length),(1003,.map DT (DX 0 s.infs)),(1004,.arr 1 (st.map AQ)),(1005,.cells [.ref 1000 0]),(1006,.cells [vs (F6 roots dec (i+1)).1]),(1007,.cells [.slice (.ver 1008 5 (i+1)) ((F6 roots dec (i+1)).2.map A7)]),(1008,.var 5 (i+1) ((F6 roots dec (i+1)).2.map A7).length),(1009,.cells [.ref 1000 0])],Aa⟩ (Yi ⟨Z5,Z10,Fh,Aw (by kernel_rfl)⟩ ?_)
  refine Yi (Ii i (by omega)) ?_;refine Xi ⟨i+1,by omega⟩ ?_;exact⟨Dl roots.length i (by omega),Z5,Z10,Fh,Aw (by kernel_rfl)⟩
 have h1:¬((i:Int)<((roots.map AK).length:Int)):=h1;have n1:=L9 h1;have hE:i=E4 roots dec 0:=by rw[cN];omega
 refine Xi {j:Nat // j≤dec.length} (Xi (fun q=>⟨[(0,.v (.func (.yield l) #[] #[])),(29,sl Az dec),(30,vi (dec.map Az).length),(31,vi q.1)],[(1000,.cells (srM roots C A s dec 1004 st.length)),(1001,.tok 6 s.infs.length),(1002,.tok 1 s.drv.length),(1003,.map DT (DX 0 s.infs)),(1004,.arr 1 (st.map AQ)),(1005,.cells [.ref 1000 0]),(1006,.cells [vs (F6 roots dec (E4 roots dec q.1)).1]),(1007,.cells [.slice (.ver 1008 5 (E4 roots dec q.1)) ((F6 roots dec (E4 roots dec q.1)).2.map A7)]),(1008,.var 5 (E4 roots dec q.1) ((F6 roots dec (E4 roots dec q.1)).2.map A7).length),(1009,.cells [.ref 1000 0])],Aa⟩) (Xi (fun q=>dec.length-q.1) (Yi (Xi ⟨0,AL _⟩ ?_) ?_)))
 ·exact⟨Z4,⟨Zr,Zr,Zr,Zr,Zr,Zr,⟨(show .cells [vs (F6 roots dec i).1]=(.cells [vs (F6 roots dec (E4 roots dec 0)).1]:HO) by rw[hE]),rfl⟩,⟨(show .cells [.slice (.ver 1008 5 i) ((F6 roots dec i).2.map A7)]=(.cells [.slice (.ver 1008 5 (E4 roots dec 0)) ((F6 roots dec (E4 roots dec 0)).2.map A7)]:HO) by rw[hE]),rfl⟩,⟨(show .var 5 i ((F6 roots dec i).2.map A7).length=(.var 5 (E4 roots dec 0) ((F6 roots dec (E4 roots dec 0)).2.map A7).length:HO) by rw[hE]),rfl⟩,Zr,Tv⟩,Fh,Aw (by kernel_rfl)⟩
 intro⟨j,j1⟩;have j1:j≤dec.length:=j1;refine Yi (fun h4=>?_) (fun h4=>?_)
 ·have h4:(j:Int)<((dec.map Az).length:Int):=h4;have n4:=Ma h4;have sD:=o5 dec[j] (AC n4);refine Xi (Az dec[j]) (Yi (UW n4) (Yi rfl ?_));refine Yi (Nz rfl) ?_;refine Yi (Nz rfl) ?_;refine Xi {k:Nat // k≤dec[j].rel.reqs.length} (Xi (fun q=>⟨[(0,.v (.func (.yield l) #[] #[])),(6,.ref 6 0),(29,sl Az dec),(30,vi (dec.map Az).length),(31,vi j),(37,sl AK dec[j].rel.reqs),(38,vi (dec[j].rel.reqs.map AK).length),(39,vi q.1)],[(6,.cells (Az dec[j])),(1000,.cells (srM roots C A s dec 1004 st.length)),(1001,.tok 6 s.infs.length),(1002,.tok 1 s.drv.length),(1003,.map DT (DX 0 s.infs)),(1004,.arr 1 (st.map AQ)),(1005,.cells [.ref 1000 0]),(1006,.cells [vs (F6 roots dec (E4 roots dec j+q.1)).1]),(1007,.cells [.slice (.ver 1008 5 (E4 roots dec j+q.1)) ((F6 roots dec (E4 roots dec j+q.1)).2.map A7)]),(1008,.var 5 (E4 roots dec j+q.1) ((F6 roots dec (E4 roots dec j+q.1)).2.map A7).length),(1009,.cells [.ref 1000 0])],Aa⟩) (Xi (fun q=>dec[j].rel.reqs.length-q.1) (Yi (Xi ⟨0,AL _⟩ ?_) ?_)))
  ·exact⟨Z8,Z11,Fh,Aw (by kernel_rfl)⟩
  intro⟨k,k1⟩;have k1:k≤dec[j].rel.reqs.length:=k1;refine Yi (fun h5=>?_) (fun h5=>?_)
  ·have h5:(k:Int)<((dec[j].rel.reqs.map AK).length:Int):=h5;have n5:=Ma h5;refine Xi (AK dec[j].rel.reqs[k]) (Yi (UW n5) (Yi rfl ?_));refine Yi (Nz rfl) ?_;refine Yi (Nz rfl) ?_;refine Yi (Nz rfl) ?_;refine Xi (.gen Yy 0) (Yi rfl (II.imp (II.pre (hy (E4 roots dec j+k) ⟨dec[j].rel.reqs[k],dec[j].rel.path,dec[j].place,(k:Nat)⟩ (gy n4 n5)) (fun g w q=>q rfl rfl)) ?_));intro v6 g6 q6;have wC:=q6.1;have wD:=q6.2;subst wC;subst wD;refine Xi ⟨[(0,.v (.func (.yield l) #[] #[])),(6,.ref 6 0),(29,sl Az dec),(30,vi (dec.map Az).length),(31,vi j),(37,sl AK dec[j].rel.reqs),(38,vi (dec[j].rel.reqs.map AK).length),(39,vi k)],[(6,.cells (Az dec[j])),(1000,.cells (srM roots C A s dec 1004 st.length)),(1001,.tok 6 s.infs.length),(1002,.tok 1 s.drv.length),(1003,.map DT (DX 0 s.infs)),(1004,.arr 1 (st.map AQ)),(1005,.cells [.ref 1000 0]),(1006,.cells [vs (F6 roots dec (E4 roots dec j+(k+1))).1]),(1007,.cells [.slice (.ver 1008 5 (E4 roots dec j+(k+1))) ((F6 roots dec (E4 roots dec j+(k+1))).2.map A7)]),(1008,.var 5 (E4 roots dec j+(k+1)) ((F6 roots dec (E4 roots dec j+(k+1))).2.map A7).length),(1009,.cells [.ref 1000 0])],Aa⟩ (Yi ⟨Z8,Z11,Fh,Aw (by kernel_rfl)⟩ ?_)
   refine Yi (Ii k (by omega)) ?_;refine Xi ⟨k+1,by omega⟩ ?_;exact⟨by show dec[j].rel.reqs.length-(k+1)<dec[j].rel.reqs.length-k;omega,Z8,Z11,Fh,Aw (by kernel_rfl)⟩
  have h5:¬((k:Int)<((dec[j].rel.reqs.map AK).length:Int)):=h5;have n5:=L9 h5;refine Yi (Ii j (by omega)) ?_;have hE:E4 roots dec j+k=E4 roots dec (j+1):=by rw[cM n4];omega
  refine Xi ⟨j+1,by omega⟩ ?_;exact⟨Dl dec.length j (by omega),Z4,⟨Zr,Zr,Zr,Zr,Zr,Zr,⟨(show .cells [vs (F6 roots dec (E4 roots dec j+k)).1]=(.cells [vs (F6 roots dec (E4 roots dec (j+1))).1]:HO) by rw[hE]),rfl⟩,⟨(show .cells [.slice (.ver 1008 5 (E4 roots dec j+k)) ((F6 roots dec (E4 roots dec j+k)).2.map A7)]=(.cells [.slice (.ver 1008 5 (E4 roots dec (j+1))) ((F6 roots dec (E4 roots dec (j+1))).2.map A7)]:HO) by rw[hE]),rfl⟩,⟨(show .var 5 (E4 roots dec j+k) ((F6 roots dec (E4 roots dec j+k)).2.map A7).length=(.var 5 (E4 roots dec (j+1)) ((F6 roots dec (E4 roots dec (j+1))).2.map A7).length:HO) by rw[hE]),rfl⟩,Zr,Tv⟩,Fh,Aw (by kernel_rfl)⟩
 have h4:¬((j:Int)<((dec.map Az).length:Int)):=h4;have n4:=L9 h4;exact Ac (fun m=>Ai (gK roots C A s dec st m) Aa) (show E4 roots dec j=(Di roots dec).length by rw[←X8];congr 1;omega)
theorem nY{h:Nat→HO}{o k r sz:Nat}{cs:List AV}{K:(Nat→HO)→Prop}(c1:h o=.cells cs)(c2:IY cs k=.v (.slice none 0 0))(c3:h r=.free)(hk:K (AR (AR h r (.var sz 0 0)) o (.cells (EB cs k (.slice (.ver r sz 0) []))))):ph h o k r sz K:=by
 unfold ph;rw[c1];show match IY cs k with
  |.v (.slice none 0 0)=>match h r with
   |.free=>K (AR (AR h r (.var sz 0 0)) o (.cells (EB cs k (.slice (.ver r sz 0) []))))
   |_=>False
  |_=>False
 rw[c2,c3];exact hk
theorem oo{o k r0 sz:Nat}{bI:Cx}{P:Program}{N:Nat}{fn:Func}{σ:IR}{Q:AV→(Nat→HO)→Prop}{b rest:Code}{st:St}(cs:List AV)(c1:st.h o=.cells cs)(c2:IY cs k=.v (.slice none 0 0))(c3:st.h r0=.free)(σF σr:IR)(H0 Hn:List (Nat×HO))(gf:Nat)(caps:List AV)
  {lq s:Nat} {ps:Array Tmp} {Gz body:Code} (hb:b=.block lq (.rangeFunc (.tmp s) ps Gz body)) (k1:(Ek σF&&Dv (AR (AR st.h r0 (.var sz 0 0)) o (.cells (EB cs k (.slice (.ver r0 sz 0) [])))) 0 0&&Df σF 0 0)=true) (k2:Fw σF (AR (AR st.h r0 (.var sz 0 0)) o (.cells (EB cs k (.slice (.ver r0 sz 0) []))))=Ai H0 Aa) (k3:(GE σr&&In σr H0)=true) (k4:In σr Hn=true)
  (k5:ren (Cf σF) (AR (AR st.h r0 (.var sz 0 0)) o (.cells (EB cs k (.slice (.ver r0 sz 0) [])))) (st.t s)=.clo gf caps)
  (k6:∀(l D:Nat) (f' : FuncId) (tm:Array Value),tm.size=N→WN P (fun g w=>w.heap[l]?=some (.loop (HR f' tm ps Gz body D .ready))∧∀i,BD g w (AP (Ai H0 Aa)) (ren (Cf σF) (AR (AR st.h r0 (.var sz 0 0)) o (.cells (EB cs k (.slice (.ver r0 sz 0) [])))) (st.t i)) (tm.getD i undef)) σr gf
   (.v (.func (.yield l) #[] #[])::caps) (Ai H0 Aa) fun _ h'=>h'=Ai Hn Aa)
  (k7:Er N rest=true) (k8:QX bI rest (Xc bI fn.results.toList σr fun r h'=>Q (ren (Cf σ) (D6 σF 0 0 (AR (AR st.h r0 (.var sz 0 0)) o (.cells (EB cs k (.slice (.ver r0 sz 0) [])))) h') (ren (E3 σF 0 0) h' r)) (Fw σ (D6 σF 0 0 (AR (AR st.h r0 (.var sz 0 0)) o (.cells (EB cs k (.slice (.ver r0 sz 0) [])))) h')))
   ⟨fun i=>ren (Cf σF) (AR (AR st.h r0 (.var sz 0 0)) o (.cells (EB cs k (.slice (.ver r0 sz 0) [])))) (st.t i),Ai Hn Aa⟩) (k9:Od [] body=false:=by kernel_rfl):td o k r0 sz bI P N fn σ Q b rest st :=
 nY c1 c2 c3 ⟨σF,σr,H0,Hn,lq,s,ps,Gz,body,gf,caps,hb,k1,k2,k3,k4,k5,k6,k7,k9,k8⟩
section
variable {roots:List Rq}{C A:List (Value×AV)}{s:SS}{dec:List Cd}{st:List (List Sk)}{n:Nd}
theorem Tl{m:Nat}{p:ByteArray}{o:List Nd}(e:F6 roots dec (m+1)=(p,o)){es:List (List AV)}{k:Nat}(h1:es=o.map A7)(h2:k=es.length) :
  Ai [(1000,.cells (s7 roots C A s dec st.length)),(1001,.tok 6 s.infs.length),(1002,.tok 1 s.drv.length),(1003,.map DT (DX 0 s.infs)),(1004,.arr 1 (st.map AQ)),
   (1005,.cells [.ref 1000 0]),(1006,.cells [vs p]),(1007,.cells [.slice (.ver 1008 5 (m+1)) es]),(1008,.var 5 (m+1) k),(1009,.cells [.ref 1000 0])] Aa=Ai (gK roots C A s dec st (m+1)) Aa:=by
 subst h1;subst h2
 rw[show gK roots C A s dec st (m+1)=[(1000,.cells (s7 roots C A s dec st.length)),(1001,.tok 6 s.infs.length),(1002,.tok 1 s.drv.length),(1003,.map DT (DX 0 s.infs)),(1004,.arr 1 (st.map AQ)),
   (1005,.cells [.ref 1000 0]),(1006,.cells [vs (F6 roots dec (m+1)).1]),(1007,.cells [.slice (.ver 1008 5 (m+1)) ((F6 roots dec (m+1)).2.map A7)]),(1008,.var 5 (m+1) ((F6 roots dec (m+1)).2.map A7).length),(1009,.cells [.ref 1000 0])]from rfl,e]
theorem gM{a:ByteArray×List Nd}(h:CA dec n.rq.path=true):Eh dec a n=(a.1,a.2):=by unfold Eh;rw[Ao (.inl h)]
theorem gx{o:List Nd}(h:(0:Int)<((o.map A7).length:Int)):o≠[]:=fun e=>by subst e;simp at h
theorem kp{o:List Nd}(h:¬(0:Int)<((o.map A7).length:Int)):o=[]:=by
 cases o with
 |nil=>rfl
 |cons y l=>exact absurd (by simp) h
theorem kw{a:ByteArray×List Nd}(h:(0:Int)<((a.2.map A7).length:Int))(hb:Ew a.1 n.rq.path=true):Eh dec a n=(a.1,a.2):=by unfold Eh;rw[Ao (.inr ⟨gx h,hb⟩)]
theorem gN{a:ByteArray×List Nd}(hd:CA dec n.rq.path=false)(h:(0:Int)<((a.2.map A7).length:Int))(hb:Ew a.1 n.rq.path=false)(hs:Ew n.rq.path a.1=true):Eh dec a n=(n.rq.path,[n]):=by
 unfold Eh;rw[Ah (by rw[hd,hb];simp),Ao ⟨gx h,hs⟩]
theorem gO{a:ByteArray×List Nd}(hd:CA dec n.rq.path=false)(hb:Ew a.1 n.rq.path=false)(hs:Ew n.rq.path a.1=false):Eh dec a n=(n.rq.path,a.2++[n]):=by
 unfold Eh;rw[Ah (by rw[hd,hb];simp),Ah (by rw[hs];simp)]
theorem kz{a:ByteArray×List Nd}(hd:CA dec n.rq.path=false)(h:¬(0:Int)<((a.2.map A7).length:Int)):Eh dec a n=(n.rq.path,a.2++[n]):=by
 have:=kp h
 unfold Eh;rw[Ah (by rw[hd,this];simp),Ah (by rw[this];simp)]
theorem ky(a:ByteArray×List Nd)(n:Nd):(Eh dec a n).2.length≤a.2.length+1:=by
 unfold Eh;split
 ·omega
 ·split
  ·simp
  ·simp
theorem aD:∀(m:Nat),(F6 roots dec m).2.length≤m
 |0=>Al _
 |m+1=>by
  have ih:=aD m;cases h:(Di roots dec)[m]? with
  |none =>
   have e:F6 roots dec (m+1)=F6 roots dec m:=by unfold F6;rw[Bq,h];simp
   rw[e];omega
  |some n=>rw[X5 h];exact Br (ky _ _) (Ep ih)
theorem Ys:∀{l l' : List (Nat×HO)},l.map Prod.fst=l'.map Prod.fst→(∀p∈l',p.2≠.free)→∀i,AP (Ai l Aa) i→AP (Ai l' Aa) i
 | [],[],_,_,_,h=>h
 |(a,o)::l,(a',o')::l',e,h,i,hu=>by
  rw[AH,AH]at e
  injection e with e1 e2
  have e1:a=a':=e1;subst e1;unfold AP at *
  by_cases q:i=a
  ·subst q;simp only[Ai,CK,JG];exact h _ (Ab ..)
  ·simp only[Ai,Cw q,El]at hu⊢;exact Ys e2 (fun p hp=>h p (Ag _ hp)) i hu
theorem gL(m:Nat):∀i,AP (Ai (gK roots C A s dec st 0) Aa) i→AP (Ai (gK roots C A s dec st m) Aa) i:=Ys rfl (by
 repeat (first | exact CP _ | refine CV.2 ⟨by simp,?_⟩))
theorem aV:∀{l:List Cd},(∀c∈l,c.rel.reqs.length≤1073741824)→((l.map fun c=>c.rel.reqs.length)).sum≤l.length*1073741824
 | [],_=>by simp
 |c::l,h=>by
  have h1:=h c (Ab ..);have h2:=aV fun c hc=>h c (Ag _ hc);rw[AH,List.sum_cons,Au];omega
theorem cE(hr:roots.length≤1073741824)(hd:dec.length≤1000)(h:∀c∈dec,c.rel.reqs.length≤1073741824):(Di roots dec).length≤1074815565824:=by
 rw[←X8];unfold E4;rw[DZ]
 have:=aV h
 have:=Bc 1073741824 hd
 omega
end
theorem XV(l:List Nd)(n:Nd):l.map A7++[A7 n]=(l++[n]).map A7:=by rw[Ax];rfl
theorem OL(l:List Nd)(n:Nd):(l.map A7).length+([A7 n]:List (List AV)).length=(l.map A7++[A7 n]).length:=Ad.symm
attribute [local irreducible] td ph F6 Di Eh
theorem s64(roots:List Rq)(C A:List (Value×AV))(s:SS)(dec:List Cd)(st:List (List Sk))(hr:roots.length≤1073741824)(hd:dec.length≤1000)(o5:∀c∈dec,c.rel.reqs.length≤1073741824) :
  A3 Tryz.prog 87 [.ref 1000 0] (Ai (IZ roots C A s dec st) Aa) fun r h'=>r=.tup [vs (Eu roots dec).1,sl A7 (Eu roots dec).2]∧h'=Ai (IZ roots C A s dec st) Aa:=by
 refine bj 5 0 9 5 (LC ⟨[],[],[],[],[],[],[],[],[],[],[]⟩) (LC Gl) Yz rfl Co rfl Co hm rfl rfl Tryz.func87 (by kernel_rfl) rfl (Nz rfl) (by kernel_rfl) rfl 3 ?_;refine Yi (Nz rfl) ?_;refine Xi (.gen Yz 1) (Yi rfl (A3.imp (wO roots C A s dec st) ?_));intro v1 g1 q1;have kN:=q1.1;have kO:=q1.2;subst kN;subst kO;refine oo [.v (.slice none 0 0)] (by kernel_rfl) (by kernel_rfl) (by kernel_rfl) [(1000,1000),(1001,1001),(1002,1002),(1003,1003),(1004,1004),(10800,1005),(4,1006),(5,1007),(9,1008),(1,1009)] Yy (gK roots C A s dec st 0) (gK roots C A s dec st (Di roots dec).length) 170 [.ref 1005 0] rfl (by kernel_rfl) (by kernel_rfl) (by kernel_rfl) (by kernel_rfl) (by kernel_rfl) (fun l9 D9 f9 tm9 sP=>wP l9 roots C A s dec st hr (Br hd (by decide)) o5 fun m n hn=>dz (σ:=Yy) 1007 0 1008 (LC ⟨[],[(43,5)],[],[],[],[],[],[],[],[(500005,60001007)],[5]⟩) rfl Co hm rfl rfl rfl sP (by kernel_rfl) (by kernel_rfl) (by kernel_rfl) (gL m) ?_) (by kernel_rfl) ?_
 ·have xZ:m<(Di roots dec).length:=(Ap.1 hn).1;have hol:=aD (roots:=roots) (dec:=dec) m;have hnl:=cE hr hd o5;have hF:=X5 hn;refine Yi (Nz rfl) ?_;refine Yi ⟨rfl,rfl⟩ ?_;refine Xi ⟨[(1,.ref 1009 0),(4,.ref 1006 0),(5,.ref 1007 0),(6,.ref 6 0)],[(6,.cells (A7 n)),(60,.tok 5 ((F6 roots dec m).2.map A7).length),(1000,.cells (srM roots C A s dec 1004 st.length)),(1001,.tok 6 s.infs.length),(1002,.tok 1 s.drv.length),(1003,.map DT (DX 0 s.infs)),(1004,.arr 1 (st.map AQ)),(1005,.cells [.ref 1000 0]),(1006,.cells [vs (F6 roots dec m).1]),(1007,.cells [.slice (.id 60 5) ((F6 roots dec m).2.map A7)]),(1008,.vox m),(1009,.cells [.ref 1000 0])],Aa⟩ (Yi ⟨Z4,Z12,Fh,Aw (by kernel_rfl)⟩ ?_)
  refine Dd (Bt (CA dec n.rq.path)) (fun h2=>?_) (fun h2=>?_)
  ·have h2:(CA dec n.rq.path)=true:=h2;have lC:=(rN roots C A s dec st n.rq.path (Br hd (by decide)));rw[show(CA dec n.rq.path)=true from h2]at lC;refine Xi (.gen Yz 0) (Yi rfl (A3.imp lC ?_));intro v4 g4 q4;have wA:=q4.1;have wB:=q4.2;subst wA;subst wB;refine Yi ⟨rfl,rfl⟩ ?_
   -- [('(CA dec n.rq.path)=true',True)]
   exact⟨rfl,Tl (hF.trans (gM h2)) rfl rfl⟩
  have h2:(CA dec n.rq.path)=false:=h2;have xI:=(rN roots C A s dec st n.rq.path (Br hd (by decide)));rw[show(CA dec n.rq.path)=false from h2]at xI;refine Xi (.gen Yz 0) (Yi rfl (A3.imp xI ?_));intro v6 g6 q6;have wC:=q6.1;have wD:=q6.2;subst wC;subst wD;refine Yi (fun h7=>?_) (fun h7=>?_)
  ·have h7:(0:Int)<(((F6 roots dec m).2.map A7).length:Int):=h7;have n7:0<(F6 roots dec m).2.length:=by have q:=h7;rw[Lm]at q;omega
   refine Yi (fun h8=>?_) (fun h8=>?_)
   ·have h8:Ew (F6 roots dec m).1 n.rq.path=true:=(GT _ _).trans h8;refine Yi ⟨rfl,rfl⟩ ?_
    -- [('(CA dec n.rq.path)=true',False),('(0:Int)<(((F6 roots dec m).2.map A7).length:Int)',True),('Ew (F6 roots dec m).1 n.rq.path=true',True)]
    exact⟨rfl,Tl (hF.trans (kw h7 h8)) rfl rfl⟩
   have h8:Ew (F6 roots dec m).1 n.rq.path=false:=(GT _ _).trans (AM.2 h8);refine Yi (fun _=>?_) (fun hf=>absurd h7 hf);refine Yi (fun h9=>?_) (fun h9=>?_)
   ·have h9:Ew n.rq.path (F6 roots dec m).1=true:=(GT _ _).trans h9;refine Yi (Nz rfl) ?_;refine Yi (Nz rfl) ?_;refine Yi (Nz rfl) ?_;have Yv:De 5 [(A7 n)]∧([(A7 n)]:List (List AV)).length*72≤140737488355328∧([(A7 n)]:List (List AV)).length≤9223372036854775807:=⟨⟨rfl,trivial⟩,(by simp only[Au,AE];omega),(by simp only[Au,AE];omega)⟩;refine Yi Yv ?_;refine Yi (Nz rfl) ?_;refine Yi ⟨rfl,rfl⟩ ?_
    -- [('(CA dec n.rq.path)=true',False),('(0:Int)<(((F6 roots dec m).2.map A7).length:Int)',True),('Ew (F6 roots dec m).1 n.rq.path=true',False),('Ew n.rq.path (F6 roots dec m).1=true',True)]
    exact⟨rfl,Tl (hF.trans (gN h2 h7 h8 h9)) rfl rfl⟩
   have h9:Ew n.rq.path (F6 roots dec m).1=false:=(GT _ _).trans (AM.2 h9);refine Yi (Nz rfl) ?_;refine Yi (Nz rfl) ?_;have mB:De 5 [(A7 n)]∧((F6 roots dec m).2.map A7).length=((F6 roots dec m).2.map A7).length∧(((F6 roots dec m).2.map A7).length+([(A7 n)]:List (List AV)).length)*72≤140737488355328∧((F6 roots dec m).2.map A7).length+([(A7 n)]:List (List AV)).length≤9223372036854775807:=⟨⟨rfl,trivial⟩,rfl,(by simp only[Lm,Au,AE];omega),(by simp only[Lm,Au,AE];omega)⟩;refine Yi mB ?_;refine Yi (Nz rfl) ?_;refine Yi ⟨(OL _ n).symm,rfl⟩ ?_
   -- [('(CA dec n.rq.path)=true',False),('(0:Int)<(((F6 roots dec m).2.map A7).length:Int)',True),('Ew (F6 roots dec m).1 n.rq.path=true',False),('Ew n.rq.path (F6 roots dec m).1=true',False)]
   exact⟨rfl,Tl (hF.trans (gO h2 h8 h9)) (XV _ n) (OL _ n)⟩
  have h7:¬((0:Int)<(((F6 roots dec m).2.map A7).length:Int)):=h7;have n7:¬0<(F6 roots dec m).2.length:=by have q:=h7;rw[Lm]at q;omega
  refine Yi (fun hf=>absurd hf h7) (fun _=>?_);refine Yi (Nz rfl) ?_;refine Yi (Nz rfl) ?_;have sj:De 5 [(A7 n)]∧((F6 roots dec m).2.map A7).length=((F6 roots dec m).2.map A7).length∧(((F6 roots dec m).2.map A7).length+([(A7 n)]:List (List AV)).length)*72≤140737488355328∧((F6 roots dec m).2.map A7).length+([(A7 n)]:List (List AV)).length≤9223372036854775807:=⟨⟨rfl,trivial⟩,rfl,(by simp only[Lm,Au,AE];omega),(by simp only[Lm,Au,AE];omega)⟩;refine Yi sj ?_;refine Yi (Nz rfl) ?_;refine Yi ⟨(OL _ n).symm,rfl⟩ ?_
  -- [('(CA dec n.rq.path)=true',False),('(0:Int)<(((F6 roots dec m).2.map A7).length:Int)',False)]
  exact⟨rfl,Tl (hF.trans (kz h2 h7)) (XV _ n) (OL _ n)⟩
 refine Yi (by kernel_rfl) ?_;exact Xi _ (Yi (.refl _) ⟨show AV.tup [vs (F6 roots dec (Di roots dec).length).1,sl A7 (F6 roots dec (Di roots dec).length).2]=_ by rw[ku (Al _)],rfl⟩)
end Go.Eng
