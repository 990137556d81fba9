/- Lemmas for the claims of this seat, without a condition: part 24 (S4, S5, S8a, S9, S10). -/
import Derived.Test.YtddfphmpfnmknaaGreatDoorA23
set_option maxHeartbeats 4000000
namespace Go.Eng
open Go.Proofs
def SJ(l:List Cd)(q:Rq):Bool:=l.any fun d=>decide (d.rel.path=q.path)&&!has q.set d.place
theorem Un{f:Rq→Nat→Nd}{P:Nd→Bool}:∀{l:List Rq} {b i:Nat} {q:Rq},l[i]?=some q→P (f q (b+i))=true→(∀k u,k<i→l[k]?=some u→P (f u (b+k))=false)→(LX f b l).find? P=some (f q (b+i))
 | [],_,_,_,h,_,_=>by simp at h
 |u::l,b,0,q,h,he,_=>by
  cases h
  unfold LX;rw[EE,show P (f u b)=true from he];rfl
 |u::l,b,i+1,q,h,he,hn=>by
  unfold LX;have h0:P (f u b)=false:=hn 0 u (by omega) rfl;rw[EE,h0]
  have:=Un (f:=f) (P:=P) (l:=l) (b:=b+1) (i:=i) (q:=q) (by simpa using h) (by rw[show b+1+i=b+(i+1) by omega];exact he) (fun k v hk hv=>by
   rw[show b+1+k=b+(k+1) by omega];exact hn (k+1) v (by omega) (by simpa using hv))
  rw[show b+1+i=b+(i+1) by omega]at this;exact this
theorem N9{f:Rq→Nat→Nd}{P:Nd→Bool}:∀{l:List Rq} {b:Nat},(∀k u,l[k]?=some u→P (f u (b+k))=false)→(LX f b l).find? P=none
 | [],_,_=>rfl
 |u::l,b,h=>by
  unfold LX;have h0:P (f u b)=false:=h 0 u rfl;rw[EE,h0];exact N9 fun k v hv=>by rw[show b+1+k=b+(k+1) by omega];exact h (k+1) v (by simpa using hv)
def xW:AV:=.agg [vs ⟨#[]⟩,.v (.slice none 0 0),vs ⟨#[]⟩,vi 0,vi 0]
def l7(o:Option Nd):AV:=match o with | some n=>.tup [.agg (A6 n),vb true] | none=>.tup [xW,vb false]
section
variable {dec:List Cd}{c:Cd}{i:Nat}
theorem dz(hi:i<c.rel.reqs.length)(hn:∀k q,k<i→c.rel.reqs[k]?=some q→SJ (dec++[c]) q=false){j:Nat}(hj:j<(dec++[c]).length)(h1:(dec++[c])[j].rel.path=c.rel.reqs[i].path)(h2:has c.rel.reqs[i].set (dec++[c])[j].place=false) :
  D4 dec c=some ⟨c.rel.reqs[i],c.rel.path,c.place,(i:Nat)⟩:=by
 have:=Un (f:=fun q i=>⟨q,c.rel.path,c.place,(i:Nat)⟩) (P:=ZD (dec++[c])) (l:=c.rel.reqs) (b:=0) (i:=i) (q:=c.rel.reqs[i]) (Ge hi)
  (Bd.2 ⟨_,Ax hj,by rw[AA h1,h2];rfl⟩) (fun k u hk hu=>hn k u hk hu)
 unfold D4 Pw;rw[this,Be]
theorem dA(hn:∀(k:Nat) (q:Rq),c.rel.reqs[k]?=some q→SJ (dec++[c]) q=false):D4 dec c=none:=by
 unfold D4 Pw;exact N9 fun k u hu=>hn k u hu
theorem fC{q:Rq}(h:∀(m:Nat) (d:Cd),(dec++[c])[m]?=some d→(decide (d.rel.path=q.path)&&!has q.set d.place)=false):SJ (dec++[c]) q=false:=by
 unfold SJ;rw[F3];intro d hd;obtain⟨m,hm⟩:=B1.1 hd;rw[h m d hm];decide
end
theorem z8(n:Nd)(c:Cd)(hq:CJ n.rq.set):PC 89 [.agg (A6 n),.cptr (AB c)] (vb (!has n.rq.set c.place)):=by
 refine Ps ⟨[2],[],[],[],[],[],[],[],[],[],[]⟩ Tryz.func89 rfl (Nz rfl) ?_;refine CQ (Bt (has n.rq.set c.place)) (fun h1=>?_) (fun h1=>?_)
 ·have h1:(has n.rq.set c.place)=true:=h1;refine Xi .pure (Xi _ (Yi (cb h1 (oW n.rq.set c.place hq)) ?_));exact .of_eq (show vb false=vb (!has n.rq.set c.place) by rw[h1];rfl)
 have h1:(has n.rq.set c.place)=false:=h1;refine Xi .pure (Xi _ (Yi (cb h1 (oW n.rq.set c.place hq)) ?_));exact .of_eq (show vb true=vb (!has n.rq.set c.place) by rw[h1];rfl)
theorem xR(roots:List Rq)(C A:List (Value×AV))(s:SS)(dec:List Cd)(st:List (List Sk))(c:Cd)(hd:dec.length≤1073741823)(hr:c.rel.reqs.length≤1073741824)(hq:∀q∈c.rel.reqs,CJ q.set):A3 Tryz.prog 93 [.ref 1000 0,.agg (AB c)] (Aj (IV roots C A s dec st) Aa) fun r h'=>r=l7 (D4 dec c)∧h'=Aj (IV roots C A s dec st) Aa:=by
 have hd:dec.length≤1073741823:=hd;have hdl:(dec++[c]).length=dec.length+1:=by simp
 refine BV (Ll ⟨[3],[],[],[],[],[],[],[],[(23,3)],[],[4,8,9]⟩) [(1000,1000),(1001,1001),(1002,1002),(1003,1003),(1004,1004)] rfl Cn hm rfl Tryz.func93 (by kernel_rfl) rfl (Nz rfl) (by kernel_rfl) rfl ?_;refine Xi {i:Nat // i≤c.rel.reqs.length∧∀k q,k<i→c.rel.reqs[k]?=some q→SJ (dec++[c]) q=false} (Xi (fun q=>⟨[(0,.ref 1000 0),(3,.ref 3 0),(4,.ref 4 0),(12,sl AI c.rel.reqs),(13,vi (c.rel.reqs.map AI).length),(14,vi q.1)],[(3,.ro (AB c)),(4,.cells [vs ⟨#[]⟩,.v (.slice none 0 0),vs ⟨#[]⟩,vi 0,vi 0]),(1000,.cells (srM roots C A s dec 1004 st.length)),(1001,.tok 6 s.infs.length),(1002,.tok 1 s.drv.length),(1003,.map DQ (DT 0 s.infs)),(1004,.arr 1 (st.map AQ))],Aa⟩) (Xi (fun q=>c.rel.reqs.length-q.1) (Yi (Xi ⟨0,AL _,fun k q h=>absurd h (Jo k)⟩ ?_) ?_)))
 ·exact⟨Z6,Z7,Fh,Aw (by kernel_rfl)⟩
 intro⟨i,i1,i2⟩;have i1:i≤c.rel.reqs.length:=i1;have i2:∀k q,k<i→c.rel.reqs[k]?=some q→SJ (dec++[c]) q=false:=i2;refine Yi (fun h1=>?_) (fun h1=>?_)
 ·have h1:(i:Int)<((c.rel.reqs.map AI).length:Int):=h1;have n1:=LR h1;refine Xi (AI c.rel.reqs[i]) (Yi (Sy n1) (Yi rfl ?_));refine Yi (Nz rfl) ?_;refine Yi (Nz rfl) ?_;refine Xi ⟨[(0,.ref 1000 0),(3,.ref 3 0),(4,.ref 4 0),(6,vi i),(7,.ref 7 0),(12,sl AI c.rel.reqs),(13,vi (c.rel.reqs.map AI).length),(14,vi i)],[(3,.ro (AB c)),(4,.cells [vs ⟨#[]⟩,.v (.slice none 0 0),vs ⟨#[]⟩,vi 0,vi 0]),(7,.cells (AI c.rel.reqs[i])),(1000,.cells (srM roots C A s dec 1004 st.length)),(1001,.tok 6 s.infs.length),(1002,.tok 1 s.drv.length),(1003,.map DQ (DT 0 s.infs)),(1004,.arr 1 (st.map AQ))],Aa⟩ (Yi ⟨Z8,Z8,Fh,Aw (by kernel_rfl)⟩ ?_)
  refine Xi _ (Xi _ (Yi (by kernel_rfl) (Yi (qV dec (Br hd (by decide))) ?_)));refine Yi (Nz rfl) ?_;have b2:Df 10 [(AB c)]∧(dec.map AB).length=(dec.map AB).length∧((dec.map AB).length+([(AB c)]:List (List AV)).length)*128≤140737488355328∧(dec.map AB).length+([(AB c)]:List (List AV)).length≤9223372036854775807:=⟨⟨rfl,trivial⟩,rfl,(by simp only[Lm,Ay,AG];omega),(by simp only[Lm,Ay,AG];omega)⟩;refine Yi b2 ?_;refine Yi (by kernel_rfl) ?_;refine Xi {j:Nat // j≤(dec++[c]).length∧∀m d,m<j→(dec++[c])[m]?=some d→(decide (d.rel.path=c.rel.reqs[i].path)&&!has c.rel.reqs[i].set d.place)=false} (Xi (fun q=>⟨[(0,.ref 1000 0),(3,.ref 3 0),(4,.ref 4 0),(6,vi i),(7,.ref 7 0),(12,sl AI c.rel.reqs),(13,vi (c.rel.reqs.map AI).length),(14,vi i),(26,.slice (.id 12300 10) ((dec++[c]).map AB)),(27,vi ((dec++[c]).map AB).length),(28,vi q.1)],[(3,.ro (AB c)),(4,.cells [vs ⟨#[]⟩,.v (.slice none 0 0),vs ⟨#[]⟩,vi 0,vi 0]),(7,.cells (AI c.rel.reqs[i])),(1000,.cells (srM roots C A s dec 1004 st.length)),(1001,.tok 6 s.infs.length),(1002,.tok 1 s.drv.length),(1003,.map DQ (DT 0 s.infs)),(1004,.arr 1 (st.map AQ)),(12300,.tok 10 ((dec++[c]).map AB).length)],Aa⟩) (Xi (fun q=>(dec++[c]).length-q.1) (Yi (Xi ⟨0,AL _,fun k q h=>absurd h (Jo k)⟩ ?_) ?_)))
  ·exact⟨⟨Zr,Zr,Zr,Zr,Zr,Zr,Zr,Zr,⟨tkA,rfl⟩,⟨(show vi ((dec.map AB++[AB c]:List (List AV)).length:Int)=vi (((dec++[c]).map AB).length:Int) by rw[Az];rfl),rfl⟩,Zr,Tv⟩,⟨Zr,Zr,Zr,Zr,Zr,Zr,Zr,Zr,⟨(show HO.tok 10 ((dec.map AB).length+[AB c].length)=.tok 10 ((dec++[c]).map AB).length by simp),rfl⟩,Tv⟩,Fh,Aw (by kernel_rfl)⟩
  intro⟨j,j1,j2⟩;have j1:j≤(dec++[c]).length:=j1;have j2:∀m d,m<j→(dec++[c])[m]?=some d→(decide (d.rel.path=c.rel.reqs[i].path)&&!has c.rel.reqs[i].set d.place)=false:=j2;refine Yi (fun h3=>?_) (fun h3=>?_)
  ·have h3:(j:Int)<(((dec++[c]).map AB).length:Int):=h3;have n3:=LR h3;refine Xi (AB ((dec++[c])[j])) (Yi (Sy n3) (Yi rfl ?_));refine Yi (Nz rfl) ?_;refine Yi (Nz rfl) ?_;refine Yi (fun h4=>?_) (fun h4=>?_)
   ·have h4:(((dec++[c])[j]).rel.path:ByteArray)=c.rel.reqs[i].path:=h4;refine CQ (Bt (has c.rel.reqs[i].set (dec++[c])[j].place)) (fun h5=>?_) (fun h5=>?_)
    ·have h5:(has c.rel.reqs[i].set (dec++[c])[j].place)=true:=h5;refine Xi .pure (Xi _ (Yi (cb h5 (oW c.rel.reqs[i].set (dec++[c])[j].place (hq _ (Ax _)))) ?_));refine Xi ⟨[(0,.ref 1000 0),(3,.ref 3 0),(4,.ref 4 0),(6,vi i),(7,.ref 7 0),(12,sl AI c.rel.reqs),(13,vi (c.rel.reqs.map AI).length),(14,vi i),(26,.slice (.id 12300 10) ((dec++[c]).map AB)),(27,vi ((dec++[c]).map AB).length),(28,vi j)],[(3,.ro (AB c)),(4,.cells [vs ⟨#[]⟩,.v (.slice none 0 0),vs ⟨#[]⟩,vi 0,vi 0]),(7,.cells (AI c.rel.reqs[i])),(1000,.cells (srM roots C A s dec 1004 st.length)),(1001,.tok 6 s.infs.length),(1002,.tok 1 s.drv.length),(1003,.map DQ (DT 0 s.infs)),(1004,.arr 1 (st.map AQ)),(12300,.tok 10 ((dec++[c]).map AB).length)],Aa⟩ (Yi ⟨Z11,Z9,Fh,Aw (by kernel_rfl)⟩ ?_)
     refine Yi (Ii j (by omega)) ?_;refine Xi ⟨j+1,by omega,fun m d hm hd=>by
       by_cases e:m=j
       ·subst e;rw[Ge n3]at hd;cases hd;exact by rw[h5];simp
       ·exact j2 m d (by omega) hd⟩ ?_
     exact⟨by show(dec++[c]).length-(j+1)<(dec++[c]).length-j;omega,Z11,Z9,Fh,Aw (by kernel_rfl)⟩
    have h5:(has c.rel.reqs[i].set (dec++[c])[j].place)=false:=h5;refine Xi .pure (Xi _ (Yi (cb h5 (oW c.rel.reqs[i].set (dec++[c])[j].place (hq _ (Ax _)))) ?_));refine Xi ⟨[(3,.ref 3 0),(4,.ref 4 0),(6,vi i),(7,.ref 7 0)],[(3,.ro (AB c)),(4,.cells [vs ⟨#[]⟩,.v (.slice none 0 0),vs ⟨#[]⟩,vi 0,vi 0]),(7,.cells (AI c.rel.reqs[i])),(1000,.cells (srM roots C A s dec 1004 st.length)),(1001,.tok 6 s.infs.length),(1002,.tok 1 s.drv.length),(1003,.map DQ (DT 0 s.infs)),(1004,.arr 1 (st.map AQ))],Aa⟩ (Yi ⟨Z4,Z8,Fh,Aw (by kernel_rfl)⟩ ?_)
    refine Yi (Nz rfl) ?_;refine Yi (Nz rfl) ?_;refine Yi (Nz rfl) ?_;have eC:=dz (dec:=dec) (c:=c) n1 i2 n3 h4 h5;exact Xi _ (Yi (.refl _) (Yi (show AV.tup [.agg (A6 ⟨c.rel.reqs[i],c.rel.path,c.place,(i:Nat)⟩),vb true]=l7 (D4 dec c) by rw[eC];rfl) rfl))
   have h4:¬(((dec++[c])[j]).rel.path:ByteArray)=c.rel.reqs[i].path:=h4;refine Xi ⟨[(0,.ref 1000 0),(3,.ref 3 0),(4,.ref 4 0),(6,vi i),(7,.ref 7 0),(12,sl AI c.rel.reqs),(13,vi (c.rel.reqs.map AI).length),(14,vi i),(26,.slice (.id 12300 10) ((dec++[c]).map AB)),(27,vi ((dec++[c]).map AB).length),(28,vi j)],[(3,.ro (AB c)),(4,.cells [vs ⟨#[]⟩,.v (.slice none 0 0),vs ⟨#[]⟩,vi 0,vi 0]),(7,.cells (AI c.rel.reqs[i])),(1000,.cells (srM roots C A s dec 1004 st.length)),(1001,.tok 6 s.infs.length),(1002,.tok 1 s.drv.length),(1003,.map DQ (DT 0 s.infs)),(1004,.arr 1 (st.map AQ)),(12300,.tok 10 ((dec++[c]).map AB).length)],Aa⟩ (Yi ⟨Z11,Z9,Fh,Aw (by kernel_rfl)⟩ ?_)
   refine Yi (Ii j (by omega)) ?_;refine Xi ⟨j+1,by omega,fun m d hm hd=>by
     by_cases e:m=j
     ·subst e;rw[Ge n3]at hd;cases hd;exact by rw[At h4];rfl
     ·exact j2 m d (by omega) hd⟩ ?_
   exact⟨by show(dec++[c]).length-(j+1)<(dec++[c]).length-j;omega,Z11,Z9,Fh,Aw (by kernel_rfl)⟩
  have h3:¬((j:Int)<(((dec++[c]).map AB).length:Int)):=h3;have n3:=LQ h3;refine Yi (Ii i (by omega)) ?_;have zi:SJ (dec++[c]) c.rel.reqs[i]=false:=fC fun m d hd=>j2 m d (by have:=(Ap.1 hd).1;have q:=h3;rw[Lm]at q;omega) hd;refine Xi ⟨i+1,by omega,fun k q hk uy=>by
    by_cases e:k=i
    ·subst e;rw[Ge n1]at uy;cases uy;exact zi
    ·exact i2 k q (by omega) uy⟩ ?_
  exact⟨Dl c.rel.reqs.length i (by omega),Z6,Z7,Fh,Aw (by kernel_rfl)⟩
 have h1:¬((i:Int)<((c.rel.reqs.map AI).length:Int)):=h1;have n1:=LQ h1;refine Yi (Nz rfl) ?_;refine Yi (Nz rfl) ?_;have eC:=dA (dec:=dec) (c:=c) fun k q hk=>i2 k q (by have:=(Ap.1 hk).1;have q:=h1;rw[Lm]at q;omega) hk;exact Xi _ (Yi (.refl _) (Yi (show AV.tup [xW,vb false]=l7 (D4 dec c) by rw[eC];rfl) rfl))
theorem NZ{x:List Rl}{roots:List Rq}{l0:List Nf}:∀{l:List Nf} {d d' : List (List Tm)},(∀i∈l,i∈l0)→(∀t∈d,TY (J0 x roots l0) t)→CX x roots l d=some d'→∀t∈d',TY (J0 x roots l0) t
 | [],d,d',_,hd,h=>by cases h;exact hd
 |i::l,d,d',hl,hd,h=>by
  unfold CX at h;cases hi:DN x roots d i with
  |none=>rw[hi]at h;cases h
  |some t =>
   rw[hi]at h;refine NZ (fun j hj=>hl j (Ah _ hj)) (fun u hu=>?_) h;rcases AW.1 hu with hu | hu
   ·exact hd u hu
   ·rw[Am.1 hu];exact br (hl i (Ab ..)) hd hi
section
variable {x:List Rl}{roots:List Rq}{s:SS}
theorem Fg.few(hx:AU x=0)(hr:BL roots=0)(h:Fg x roots s):∀t∈s.drv,lx t:=fun t ht =>
 (NZ (l0:=s.infs) (fun _ h=>h) (fun _ h=>by cases h) h.der t ht).fewI (YS hx hr h.len)
theorem HP{i:Nf}{l:List Tm}(h:s.infs.Nodup):(D7 s i l).2.infs.Nodup:=by
 cases hk:Lq i 0 s.infs with
 |some k=>rw[Wr hk];exact h
 |none =>
  by_cases hf:65536≤s.infs.length
  ·rw[T3 hk hf];exact h
  ·rw[Wq hk hf];show(s.infs++[i]).Nodup;rw[F4];refine⟨h,by simp,fun a ha b hb e=>?_⟩;rw[Am.1 hb]at e;exact Pt hk (e▸ha)
theorem Jq.add(h:Jq x roots s){i:Nf}{l:List Tm}(hi:DN x roots s.drv i=some l):Jq x roots (D7 s i l).2∧(D7 s i l).1<(D7 s i l).2.drv.length∧s.drv.length≤(D7 s i l).2.drv.length :=
 ⟨⟨(Ke h.der hi).1,HP h.nodup⟩,(Ke h.der hi).2.1,(Kf s i l).len⟩
theorem Jq.dl(h:Jq x roots s):s.infs.length≤65536∧s.drv.length=s.infs.length∧s.drv.length≤65536:=by
 have h1:=h.der.dlen;have h2:=h.der.len;exact⟨h2,h1,by omega⟩
theorem fM(hx:AU x=0)(p:ByteArray):∀d,DN x roots d ⟨2,p,0,0,0,0⟩=some (HM p (BZ x p)):=fun d=>by
 obtain⟨u,u0,u1,hu⟩:=ab hx p;have hV:FV []:=fun _ h=>by cases h
 have ou:Wm [] p (JZ [] p (OQ u)):=.ver hV (EQ ⟨u0,u1⟩);have h1:Bb [(⟨p,false,Ee (BZ x p)⟩:Tm)] (JZ [] p (OQ u))=true:=by
  rw[Bx];intro t ht;rw[Am.1 ht];show Db _ (BX (JZ [] p (OQ u)) p)=true;rw[H1 rfl];show(Cq (OQ u)&&has (Ee (BZ x p)) (place (OQ u)))=true;rw[EQ ⟨u0,u1⟩,GU,Fx,hu];unfold Lo;simp[u0,u1]
 have h2:Bb [(⟨p,false,Ee (BZ x p)⟩:Tm)] []=false:=rfl;have Dt:HM p (BZ x p)≠[]:=by
  have c1:=CN (l:=[(⟨p,false,Ee (BZ x p)⟩:Tm)]) ou.val;have c2:=CN (l:=[(⟨p,false,Ee (BZ x p)⟩:Tm)]) hV;rw[h1]at c1;rw[h2]at c2;unfold HM Pq;cases hc:CD [(⟨p,false,Ee (BZ x p)⟩:Tm)]with
  |none=>rw[hc]at c1;cases c1
  |some c =>
   rw[hc]at c2;intro e;have e:c=[]:=e;rw[e]at c2;cases c2
 unfold DN;rw[Ai (show ¬((2:Int)=0) by decide),Ai (show ¬((2:Int)=1) by decide),Aq rfl,Aq ⟨rfl,rfl,rfl,rfl⟩];unfold bF;rw[Ai (by rw[GB];exact Dt)]
theorem ER{k:Nat}(h:k<s.drv.length):s.drv[k]?=some (DF s k):=by
 unfold DF;rw[BP,Ge h];rfl
theorem SD{p:ByteArray}{L:List Nat}{j k:Nat}(hj:j<L.length)(h:s.full=true∨CO (DF s k) p=false):B8 p (L.drop j) k s=(k,s):=by
 rw[Bl hj];unfold B8;rw[Aq h]
theorem YE{p:ByteArray}{L:List Nat}{j k:Nat}(hj:j<L.length)(h1:¬(s.full=true∨CO (DF s k) p=false))(h:L[j]=k):B8 p (L.drop j) k s=B8 p (L.drop (j+1)) k s:=by
 rw[Bl hj]
 conv=>lhs;unfold B8
 rw[Ai h1,Aq h]
theorem bA{p:ByteArray}{L:List Nat}{j k:Nat}(hj:j<L.length)(h1:¬(s.full=true∨CO (DF s k) p=false))(h2:¬L[j]=k)(h:(Bq (DF s k) (DF s L[j]) p).2≠0):B8 p (L.drop j) k s=B8 p (L.drop (j+1)) k s:=by
 rw[Bl hj]
 conv=>lhs;unfold B8
 rw[Ai h1,Ai h2,Aq h]
theorem bz{p:ByteArray}{L:List Nat}{j k:Nat}(hj:j<L.length)(h1:¬(s.full=true∨CO (DF s k) p=false))(h2:¬L[j]=k)(h:(Bq (DF s k) (DF s L[j]) p).2=0) :
  B8 p (L.drop j) k s=B8 p (L.drop (j+1)) (D7 s ⟨3,p,0,0,(k:Nat),(L[j]:Nat)⟩ (Bq (DF s k) (DF s L[j]) p).1).1 (D7 s ⟨3,p,0,0,(k:Nat),(L[j]:Nat)⟩ (Bq (DF s k) (DF s L[j]) p).1).2:=by
 rw[Bl hj]
 conv=>lhs;unfold B8
 rw[Ai h1,Ai h2,Ai (fun h3=>h3 h)]
end
theorem EY{t:List Tm}(h:lx t):CJ t:=by have:=h.1;unfold CJ;omega
theorem xS(x:List Rl)(roots:List Rq)(C A:List (Value×AV))(s:SS)(dec:List Cd)(st:List (List Sk))(p:ByteArray)(n:Nd)(rs:List Nat)(V:AV)(hx:AU x=0)(hr:BL roots=0)(hs:Jq x roots s)(mD:∀d,DN x roots d (Su n)=some (IT n))(rR:∀r∈rs,r<s.drv.length)(Wf:rs.length≤1073741823)(hnq:CJ n.rq.set)(hnp:BK (n.place+1))
  (pt:∀a,(Value.string p,a)∈A→a=V) (pv:(∀a,(Value.string p,a)∉A)→V=.v (.slice none 0 0)) (px:∀h,PC 127 [vs p,str h V] (sl AC (HM p (BZ x p)))):A3 Tryz.prog 96 [.ref 1000 0,vs p,.agg (A6 n),sl BI rs] (Aj (IV roots C A s dec st) Aa) fun r h'=>lu roots C A dec st (DZ x p n rs s) r h':=by
 have hw:=hs.dl;obtain⟨kS,ud,TM⟩:=hs.add (mD s.drv)
 change Jq x roots (Bg s n).2 at kS
 change (Bg s n).1<(Bg s n).2.drv.length at ud
 change s.drv.length≤(Bg s n).2.drv.length at TM
 have KE:=kS.dl;obtain⟨im,In,eF⟩:=kS.add (fM hx p (Bg s n).2.drv)
 change Jq x roots (Ef x p (Bg s n).2).2 at im
 change (Ef x p (Bg s n).2).1<(Ef x p (Bg s n).2).2.drv.length at In
 change (Bg s n).2.drv.length≤(Ef x p (Bg s n).2).2.drv.length at eF
 obtain⟨L,hL⟩:∃L,L=(Ef x p (Bg s n).2).1::rs:=⟨_,rfl⟩;have yE:∀r∈L,r<(Ef x p (Bg s n).2).2.drv.length:=fun r mK=>by
  rw[hL]at mK;rcases Av.1 mK with rfl | h
  ·exact In
  ·have:=rR r h;omega
 have wM:L.length=rs.length+1:=by rw[hL];rfl
 have ud:(Bg s n).1<(Ef x p (Bg s n).2).2.drv.length:=by omega
 refine BV (Ll ⟨[6],[],[],[],[],[],[],[],[],[],[2,3,7,8,10,12]⟩) [(1000,1000),(1001,1001),(1002,1002),(1003,1003),(1004,1004)] rfl Cn hm rfl Tryz.func96 (by kernel_rfl) rfl (Nz rfl) (by kernel_rfl) rfl ?_;refine Yi (Nz rfl) ?_;refine Xi (.gen XZ 0) (Yi rfl (A3.imp (we roots C A s dec st n hw.1 hw.2.1 hs.nodup hnq hnp) ?_));intro v1 g1 q1;have jX:=q1.1;have jY:=q1.2;subst jX;subst jY;refine Xi ⟨[(0,.ref 1000 0),(1,vs p),(3,sl BI rs),(9,vi (((Bg s n).1:Nat):Int))],[(1000,.cells [sl AI roots,.cmap CM C,.cmap CM A,.slice (.id 1001 6) ((Bg s n).2.infs.map BQ),.slice (.id 1002 1) ((Bg s n).2.drv.map B2),.mref 1003,vb (Bg s n).2.full,sl AB dec,sl Af (AJ dec),.msl 1004 st.length]),(1001,.tok 6 (Bg s n).2.infs.length),(1002,.tok 1 (Bg s n).2.drv.length),(1003,.map DQ (DT 0 (Bg s n).2.infs)),(1004,.arr 1 (st.map AQ))],Aa⟩ (Yi ⟨Z4,Z5,Fh,Aw (by kernel_rfl)⟩ ?_)
 refine Of V (.v (.slice none 0 0)) pt pv (fun h=>h) ?_;refine Xi .pure (Xi _ (Yi (px _) ?_));refine Xi (.gen XZ 0) (Yi rfl (A3.imp (j9 roots C A (Bg s n).2 dec st ⟨2,p,0,0,0,0⟩ (HM p (BZ x p)) KE.1 KE.2.1 kS.nodup) ?_));intro v2 g2 q2;have vv:=q2.1;have vw:=q2.2;subst vv;subst vw;refine Xi ⟨[(0,.ref 1000 0),(1,vs p),(3,sl BI rs),(9,vi (((Bg s n).1:Nat):Int)),(10,vi (((Ef x p (Bg s n).2).1:Nat):Int))],[(1000,.cells [sl AI roots,.cmap CM C,.cmap CM A,.slice (.id 1001 6) ((Ef x p (Bg s n).2).2.infs.map BQ),.slice (.id 1002 1) ((Ef x p (Bg s n).2).2.drv.map B2),.mref 1003,vb (Ef x p (Bg s n).2).2.full,sl AB dec,sl Af (AJ dec),.msl 1004 st.length]),(1001,.tok 6 (Ef x p (Bg s n).2).2.infs.length),(1002,.tok 1 (Ef x p (Bg s n).2).2.drv.length),(1003,.map DQ (DT 0 (Ef x p (Bg s n).2).2.infs)),(1004,.arr 1 (st.map AQ))],Aa⟩ (Yi ⟨Z5,Z5,Fh,Aw (by kernel_rfl)⟩ ?_)
 have b3:Df 1 (rs.map BI)∧([[vi (((Ef x p (Bg s n).2).1:Nat):Int)]]:List (List AV)).length=1∧(([[vi (((Ef x p (Bg s n).2).1:Nat):Int)]]:List (List AV)).length+(rs.map BI).length)*8≤140737488355328∧([[vi (((Ef x p (Bg s n).2).1:Nat):Int)]]:List (List AV)).length+(rs.map BI).length≤9223372036854775807:=⟨(Fa (enc:=BI) (n:=1) (fun _=>rfl) rs),(by first | (simp;done) | (rw[Lm];assumption)),(by simp only[Lm,Ay,AG];omega),(by simp only[Lm,Ay,AG];omega)⟩
 refine Yi b3 ?_;refine Xi {q:Nat×Nat×SS // q.1≤L.length∧B8 p (L.drop q.1) q.2.1 q.2.2=B8 p L (Bg s n).1 (Ef x p (Bg s n).2).2∧Jq x roots q.2.2∧q.2.1<q.2.2.drv.length∧∀r∈L,r<q.2.2.drv.length} (Xi (fun q=>⟨[(0,.ref 1000 0),(1,vs p),(9,vi q.1.2.1),(33,.slice (.id 31 1) (L.map BI)),(34,vi (L.map BI).length),(35,vi q.1.1)],[(31,.tok 1 (L.map BI).length),(1000,.cells (srM roots C A q.1.2.2 dec 1004 st.length)),(1001,.tok 6 q.1.2.2.infs.length),(1002,.tok 1 q.1.2.2.drv.length),(1003,.map DQ (DT 0 q.1.2.2.infs)),(1004,.arr 1 (st.map AQ))],Aa⟩) (Xi (fun q=>L.length-q.1.1) (Yi (Xi ⟨(0,(Bg s n).1,(Ef x p (Bg s n).2).2),AL _,by rw[List.drop_zero],im,ud,yE⟩ ?_) ?_)))
 ·exact⟨⟨Zr,Zr,Zr,⟨(show AV.slice (.id 31 1) ([[vi (((Ef x p (Bg s n).2).1:Nat):Int)]]++rs.map BI)=.slice (.id 31 1) (L.map BI) by rw[hL];rfl),rfl⟩,⟨(show vi (([[vi (((Ef x p (Bg s n).2).1:Nat):Int)]]++rs.map BI:List (List AV)).length:Int)=vi ((L.map BI).length:Int) by rw[hL];rfl),rfl⟩,Zr,Tv⟩,⟨⟨(show HO.tok 1 (([[vi (((Ef x p (Bg s n).2).1:Nat):Int)]]:List (List AV)).length+(rs.map BI).length)=.tok 1 (L.map BI).length by rw[hL];simp[Nat.add_comm]),rfl⟩,Zr,Zr,Zr,Zr,Zr,Tv⟩,Fh,Aw (by kernel_rfl)⟩
 intro⟨⟨j,k,S⟩,j1,j2,j3,j4,j5⟩;have j1:j≤L.length:=j1;have j2:B8 p (L.drop j) k S=B8 p L (Bg s n).1 (Ef x p (Bg s n).2).2:=j2;have j3:Jq x roots S:=j3;have j4:k<S.drv.length:=j4;have j5:∀r∈L,r<S.drv.length:=j5;have xv:=j3.dl;have rI:=j3.der.few hx hr;have gk:S.drv[k]?=some (DF S k):=ER j4;refine Yi (fun h4=>?_) (fun h4=>?_)
 ·have h4:(j:Int)<((L.map BI).length:Int):=h4;have n4:=LR h4;refine Xi (BI L[j]) (Yi (Sy n4) (Yi rfl ?_));refine Yi (fun h5=>?_) (fun h5=>?_)
  ·have h5:S.full=true:=h5;refine Xi ⟨[(9,vi k)],[(1000,.cells (srM roots C A S dec 1004 st.length)),(1001,.tok 6 S.infs.length),(1002,.tok 1 S.drv.length),(1003,.map DQ (DT 0 S.infs)),(1004,.arr 1 (st.map AQ))],Aa⟩ (Yi ⟨Z1,Z5,Fh,Aw (by kernel_rfl)⟩ ?_)
   have eR:B8 p L (Bg s n).1 (Ef x p (Bg s n).2).2=(k,S):=by rw[←j2];exact SD n4 (.inl h5)
   have eL:DZ x p n rs s=(k,S):=by unfold DZ;rw[←hL];exact eR
   exact Xi _ (Yi (.refl _) (Yi (show vi (k:Int)=vi (((DZ x p n rs s).1:Nat):Int) by rw[eL]) (show Aj (IV roots C A S dec st) Aa=Aj (IV roots C A (DZ x p n rs s).2 dec st) Aa by rw[eL])))
  have h5:S.full=false:=h5;refine Xi (B2 (DF S k)) (Yi (Yi (Nn k) (Dp gk)) (Yi rfl ?_));refine CQ (Bt (CO (DF S k) p)) (fun h7=>?_) (fun h7=>?_)
  ·have h7:(CO (DF S k) p)=true:=h7;refine Xi .pure (Xi _ (Yi (cb h7 (iu (DF S k) p (EY (rI _ (Ar (ER j4)))))) ?_));refine Xi ⟨[(0,.ref 1000 0),(1,vs p),(9,vi k),(12,vi (L[j]:Nat)),(33,.slice (.id 31 1) (L.map BI)),(34,vi (L.map BI).length),(35,vi j)],[(31,.tok 1 (L.map BI).length),(1000,.cells (srM roots C A S dec 1004 st.length)),(1001,.tok 6 S.infs.length),(1002,.tok 1 S.drv.length),(1003,.map DQ (DT 0 S.infs)),(1004,.arr 1 (st.map AQ))],Aa⟩ (Yi ⟨Z7,Z6,Fh,Aw (by kernel_rfl)⟩ ?_)
   refine Yi (fun h8=>?_) (fun h8=>?_)
   ·have h8:((L[j]:Nat):Int)=(k:Int):=h8;refine Xi ⟨[(0,.ref 1000 0),(1,vs p),(9,vi k),(33,.slice (.id 31 1) (L.map BI)),(34,vi (L.map BI).length),(35,vi j)],[(31,.tok 1 (L.map BI).length),(1000,.cells (srM roots C A S dec 1004 st.length)),(1001,.tok 6 S.infs.length),(1002,.tok 1 S.drv.length),(1003,.map DQ (DT 0 S.infs)),(1004,.arr 1 (st.map AQ))],Aa⟩ (Yi ⟨Z6,Z6,Fh,Aw (by kernel_rfl)⟩ ?_)
    refine Yi (Ii j (by omega)) ?_;refine Xi ⟨(j+1,k,S),Fk n4,by rw[←(YE (s:=S) (p:=p) (L:=L) (j:=j) (k:=k) n4 (by rw[h5,h7];simp) (by have q:=h8;omega))];exact j2,j3,j4,j5⟩ ?_;exact⟨Dl L.length j (by omega),Z6,Z6,Fh,Aw (by kernel_rfl)⟩
   have h8:¬(((L[j]:Nat):Int)=(k:Int)):=h8;refine Xi (B2 (DF S k)) (Yi (Yi (Nn k) (Dp gk)) (Yi rfl ?_));refine Xi (B2 (DF S L[j])) (Yi (Yi (show(0:Int)≤(L[j]:Nat) by omega) (Dp (ER (j5 _ (Ax n4))))) (Yi rfl ?_));have fk:=rI _ (Ar (ER j4));have fr:=rI _ (Ar (ER (j5 _ (Ax n4))));refine Xi _ (Yi (sT (DF S k) (DF S L[j]) p fk.1 fr.1 fk.2 fr.2) ?_);refine Yi (by kernel_rfl) ?_;refine Xi ⟨[(0,.ref 1000 0),(1,vs p),(9,vi k),(12,vi (L[j]:Nat)),(13,sl AC (Bq (DF S k) (DF S L[j]) p).1),(14,vi (Bq (DF S k) (DF S L[j]) p).2),(33,.slice (.id 31 1) (L.map BI)),(34,vi (L.map BI).length),(35,vi j)],[(31,.tok 1 (L.map BI).length),(1000,.cells (srM roots C A S dec 1004 st.length)),(1001,.tok 6 S.infs.length),(1002,.tok 1 S.drv.length),(1003,.map DQ (DT 0 S.infs)),(1004,.arr 1 (st.map AQ))],Aa⟩ (Yi ⟨Z9,Z6,Fh,Aw (by kernel_rfl)⟩ ?_)
   refine Yi (fun RZ=>?_) (fun RZ=>?_)
   ·have RZ:((Bq (DF S k) (DF S L[j]) p).2:Int)≠(0:Int):=RZ;refine Xi ⟨[(0,.ref 1000 0),(1,vs p),(9,vi k),(33,.slice (.id 31 1) (L.map BI)),(34,vi (L.map BI).length),(35,vi j)],[(31,.tok 1 (L.map BI).length),(1000,.cells (srM roots C A S dec 1004 st.length)),(1001,.tok 6 S.infs.length),(1002,.tok 1 S.drv.length),(1003,.map DQ (DT 0 S.infs)),(1004,.arr 1 (st.map AQ))],Aa⟩ (Yi ⟨Z6,Z6,Fh,Aw (by kernel_rfl)⟩ ?_)
    refine Yi (Ii j (by omega)) ?_;refine Xi ⟨(j+1,k,S),Fk n4,by rw[←(bA (s:=S) (p:=p) (L:=L) (j:=j) (k:=k) n4 (by rw[h5,h7];simp) (by have q:=h8;omega) RZ)];exact j2,j3,j4,j5⟩ ?_;exact⟨Dl L.length j (by omega),Z6,Z6,Fh,Aw (by kernel_rfl)⟩
   have RZ:((Bq (DF S k) (DF S L[j]) p).2:Int)=(0:Int):=AR RZ;refine Xi (.gen XZ 0) (Yi rfl (A3.imp (j9 roots C A S dec st ⟨3,p,0,0,(k:Nat),(L[j]:Nat)⟩ (Bq (DF S k) (DF S L[j]) p).1 xv.1 xv.2.1 j3.nodup) ?_));intro v12 g12 jW;have nk:=jW.1;have nl:=jW.2;subst nk;subst nl;refine Xi ⟨[(0,.ref 1000 0),(1,vs p),(9,vi (((D7 S ⟨3,p,0,0,(k:Nat),(L[j]:Nat)⟩ (Bq (DF S k) (DF S L[j]) p).1).1:Nat):Int)),(33,.slice (.id 31 1) (L.map BI)),(34,vi (L.map BI).length),(35,vi j)],[(31,.tok 1 (L.map BI).length),(1000,.cells [sl AI roots,.cmap CM C,.cmap CM A,.slice (.id 1001 6) ((D7 S ⟨3,p,0,0,(k:Nat),(L[j]:Nat)⟩ (Bq (DF S k) (DF S L[j]) p).1).2.infs.map BQ),.slice (.id 1002 1) ((D7 S ⟨3,p,0,0,(k:Nat),(L[j]:Nat)⟩ (Bq (DF S k) (DF S L[j]) p).1).2.drv.map B2),.mref 1003,vb (D7 S ⟨3,p,0,0,(k:Nat),(L[j]:Nat)⟩ (Bq (DF S k) (DF S L[j]) p).1).2.full,sl AB dec,sl Af (AJ dec),.msl 1004 st.length]),(1001,.tok 6 (D7 S ⟨3,p,0,0,(k:Nat),(L[j]:Nat)⟩ (Bq (DF S k) (DF S L[j]) p).1).2.infs.length),(1002,.tok 1 (D7 S ⟨3,p,0,0,(k:Nat),(L[j]:Nat)⟩ (Bq (DF S k) (DF S L[j]) p).1).2.drv.length),(1003,.map DQ (DT 0 (D7 S ⟨3,p,0,0,(k:Nat),(L[j]:Nat)⟩ (Bq (DF S k) (DF S L[j]) p).1).2.infs)),(1004,.arr 1 (st.map AQ))],Aa⟩ (Yi ⟨Z6,Z6,Fh,Aw (by kernel_rfl)⟩ ?_)
   refine Yi (Ii j (by omega)) ?_;obtain⟨a1,a2,a3⟩:=j3.add (Uv (x:=x) (roots:=roots) (p:=p) j4 (j5 _ (Ax n4)) RZ);refine Xi ⟨(j+1,(D7 S ⟨3,p,0,0,(k:Nat),(L[j]:Nat)⟩ (Bq (DF S k) (DF S L[j]) p).1).1,(D7 S ⟨3,p,0,0,(k:Nat),(L[j]:Nat)⟩ (Bq (DF S k) (DF S L[j]) p).1).2),Fk n4,by rw[←(bz (s:=S) (p:=p) (L:=L) (j:=j) (k:=k) n4 (by rw[h5,h7];simp) (by have q:=h8;omega) RZ)];exact j2,a1,a2,fun r hr=>Bu (j5 r hr) a3⟩ ?_;exact⟨Dl L.length j (by omega),Z6,Z6,Fh,Aw (by kernel_rfl)⟩
  have h7:(CO (DF S k) p)=false:=h7;refine Xi .pure (Xi _ (Yi (cb h7 (iu (DF S k) p (EY (rI _ (Ar (ER j4)))))) ?_));refine Xi ⟨[(9,vi k)],[(1000,.cells (srM roots C A S dec 1004 st.length)),(1001,.tok 6 S.infs.length),(1002,.tok 1 S.drv.length),(1003,.map DQ (DT 0 S.infs)),(1004,.arr 1 (st.map AQ))],Aa⟩ (Yi ⟨Z1,Z5,Fh,Aw (by kernel_rfl)⟩ ?_)
  have eR:B8 p L (Bg s n).1 (Ef x p (Bg s n).2).2=(k,S):=by rw[←j2];exact SD n4 (.inr h7)
  have eL:DZ x p n rs s=(k,S):=by unfold DZ;rw[←hL];exact eR
  exact Xi _ (Yi (.refl _) (Yi (show vi (k:Int)=vi (((DZ x p n rs s).1:Nat):Int) by rw[eL]) (show Aj (IV roots C A S dec st) Aa=Aj (IV roots C A (DZ x p n rs s).2 dec st) Aa by rw[eL])))
 have h4:¬((j:Int)<((L.map BI).length:Int)):=h4;have n4:=LQ h4;have hj:¬j<L.length:=by have q:=h4;rw[Lm]at q;omega
 have eR:B8 p L (Bg s n).1 (Ef x p (Bg s n).2).2=(k,S):=by rw[←j2,FD (by omega)];rfl
 have eL:DZ x p n rs s=(k,S):=by unfold DZ;rw[←hL];exact eR
 exact Xi _ (Yi (.refl _) (Yi (show vi (k:Int)=vi (((DZ x p n rs s).1:Nat):Int) by rw[eL]) (show Aj (IV roots C A S dec st) Aa=Aj (IV roots C A (DZ x p n rs s).2 dec st) Aa by rw[eL])))
abbrev X0:IM:=[(1000,1000),(1001,1001),(1002,1002),(1003,1003),(500,1004)]
abbrev r8(roots:List Rq)(C A:List (Value×AV))(s:SS)(dec:List Cd)(st:List (List Sk)):List (Nat×HO) :=
 [(1000,.cells (srM roots C A s dec 2000 st.length)),(1001,.tok 6 s.infs.length),(1002,.tok 1 s.drv.length),(1003,.map DQ (DT 0 s.infs)),(1004,.dead),(2000,.arr 1 (st.map AQ))]
abbrev X1(roots:List Rq)(C A:List (Value×AV))(o:JN)(r:AV)(h' : Nat→HO):Prop:=r=.tup [vi (o.res:Nat),vb o.found]∧h'=Aj (r8 roots C A o.ss o.dec o.stack) Aa
def xX(roots:List Rq)(C A:List (Value×AV)):Prop:=∀(s:SS) (dec:List Cd) (st:List (List Sk)),dec.length≤1000→(∀c∈dec,c.rel.reqs.length≤1073741824) →
 A3 Tryz.prog 87 [.ref 1000 0] (Aj (IV roots C A s dec st) Aa) fun r h'=>r=.tup [vs (Gs roots dec).1,sl A6 (Gs roots dec).2]∧h'=Aj (IV roots C A s dec st) Aa
theorem M2{roots:List Rq}{C A:List (Value×AV)}{o:JN}{k:Nat}{b:Bool}{s:SS}{dec:List Cd}{st:List (List Sk)}(e:o=⟨k,b,s,dec,st⟩) :
  AV.tup [vi (k:Nat),vb b]=.tup [vi (o.res:Nat),vb o.found]∧Aj (r8 roots C A s dec st) Aa=Aj (r8 roots C A o.ss o.dec o.stack) Aa:=by rw[e];exact Zr
abbrev XY:IM:=[(1000,1000),(1001,1001),(1002,1002),(1003,1003),(1004,1004),(1005,1005),(1006,1006),(1007,1007),(1008,1008),(1009,1009)]
def FX(roots:List Rq)(dec:List Cd)(m:Nat):ByteArray×List Nd:=((Dj roots dec).take m).foldl (Ec dec) (mt,[])
theorem Xw{roots:List Rq}{dec:List Cd}{m:Nat}{n:Nd}(h:(Dj roots dec)[m]?=some n):FX roots dec (m+1)=Ec dec (FX roots dec m) n:=by
 unfold FX;rw[Bi,h,Fi];rfl
theorem jK{roots:List Rq}{dec:List Cd}{m:Nat}(h:(Dj roots dec).length≤m):FX roots dec m=Gs roots dec:=by
 unfold FX Gs;rw[AD h]
def EX(roots:List Rq)(dec:List Cd)(j:Nat):Nat:=roots.length+((dec.take j).map fun c=>c.rel.reqs.length).sum
theorem S0(c:Cd):(Pw c).length=c.rel.reqs.length:=Kt _ _ _
theorem bP(roots:List Rq)(dec:List Cd):EX roots dec 0=roots.length:=by unfold EX;simp
theorem bO{roots:List Rq}{dec:List Cd}{j:Nat}(h:j<dec.length):EX roots dec (j+1)=EX roots dec j+dec[j].rel.reqs.length:=by
 unfold EX;rw[J9 h,Az,List.sum_append];simp[Nat.add_assoc]
theorem Xz(roots:List Rq)(dec:List Cd):EX roots dec dec.length=(Dj roots dec).length:=by
 unfold EX Dj XN;rw[DU,Ad,Kt,List.length_flatten,BG]
 congr 2
 exact A8 fun c _=>(S0 c).symm
theorem bH{roots:List Rq}{dec:List Cd}{i:Nat}(h:i<roots.length):(Dj roots dec)[i]?=some ⟨roots[i],mt,0,(i:Nat)⟩:=by
 unfold Dj XN;rw[AX (by rw[Kt];exact h),Oz,Ge h,Fq,Be]
theorem WR{α:Type}:∀{l:List (List α)} {j k:Nat} (hj:j<l.length),k<l[j].length→l.flatten[((l.take j).map List.length).sum+k]?=l[j][k]?
 |y::l,0,k,_,hk=>by
  rw[Bv,List.take_zero,EU,List.sum_nil,Be,AX (show k<y.length from hk)];rfl
 |y::l,j+1,k,hj,hk=>by
  rw[Bv,IL,AK,List.sum_cons,AZ (by omega)]
  have:=WR (l:=l) (j:=j) (k:=k) (by simpa using hj) hk
  rw[show y.length+((l.take j).map List.length).sum+k-y.length=((l.take j).map List.length).sum+k by omega,this]
  rfl
theorem fH{roots:List Rq}{dec:List Cd}{j k:Nat}(hj:j<dec.length)(hk:k<dec[j].rel.reqs.length):(Dj roots dec)[EX roots dec j+k]?=some ⟨dec[j].rel.reqs[k],dec[j].rel.path,dec[j].place,(k:Nat)⟩:=by
 unfold Dj XN EX;rw[AZ (by rw[Kt];omega),Kt];have h:=WR (l:=dec.map Pw) (j:=j) (k:=k) (by simpa using hj) (by rw[List.getElem_map,S0];exact hk);rw[←List.map_take,BG,show(List.length ∘ Pw)=fun c=>c.rel.reqs.length from funext S0]at h;rw[show roots.length+((dec.take j).map fun c=>c.rel.reqs.length).sum+k-roots.length=((dec.take j).map fun c=>c.rel.reqs.length).sum+k by omega,h,List.getElem_map];unfold Pw;rw[Oz,Ge hk,Fq,Be]
abbrev fQ(roots:List Rq)(C A:List (Value×AV))(s:SS)(dec:List Cd)(st:List (List Sk))(m:Nat):List (Nat×HO) :=
  [(1000,.cells (r7 roots C A s dec st.length)),(1001,.tok 6 s.infs.length),(1002,.tok 1 s.drv.length),(1003,.map DQ (DT 0 s.infs)),(1004,.arr 1 (st.map AQ)),
   (1005,.cells [.ref 1000 0]),(1006,.cells [vs (FX roots dec m).1]),(1007,.cells [.slice (.ver 1008 5 m) ((FX roots dec m).2.map A6)]),(1008,.var 5 m ((FX roots dec m).2.map A6).length),(1009,.cells [.ref 1000 0])]
noncomputable abbrev yq(pl:Ro)(l:Nat)(Y:Gh→World→Prop):Cx:=⟨Tryz.prog,lh,pl,true,0,fun l' σ' g w=>l'=l→σ'=XY→Y g w⟩
theorem ID.pre{P:Program}{Y Y' : Gh→World→Prop}{l:Nat}{args:List AV}{h0:Nat→HO}{Q:AV→(Nat→HO)→Prop}(h:ID P Y l args h0 Q)(hp:∀g w,Y' g w→Y g w):ID P Y' l args h0 Q :=
 fun g w vals q1 q2 q3 q4=>h g w vals q1 q2 q3 (hp g w q4)
theorem vV(roots:List Rq)(C A:List (Value×AV))(s:SS)(dec:List Cd)(st:List (List Sk)):A3 Tryz.prog 117 [.ref 1000 0] (Aj (IV roots C A s dec st) Aa) fun r h'=>r=.clo 170 [.ref 2000 0]∧h'=Aj (IV roots C A s dec st++[(2000,.cells [.ref 1000 0])]) Aa:=by
 refine BV (Ll ⟨[],[],[],[],[],[],[],[],[],[],[]⟩) [(1000,1000),(1001,1001),(1002,1002),(1003,1003),(1004,1004),(1,2000)] rfl Cn hm rfl Tryz.func117 (by kernel_rfl) rfl (Nz rfl) (by kernel_rfl) rfl ?_;exact Xi _ (Yi (.refl _) Zr)
theorem vW{Y:Gh→World→Prop}(l:Nat)(roots:List Rq)(C A:List (Value×AV))(s:SS)(dec:List Cd)(st:List (List Sk))(hr:roots.length≤1073741824)(hd:dec.length≤1073741824)(n6:∀c∈dec,c.rel.reqs.length≤1073741824)
  (hy:∀m n,(Dj roots dec)[m]?=some n→ID Tryz.prog Y l [.agg (A6 n)] (Aj (fQ roots C A s dec st m) Aa) fun r h'=>r=vb true∧h'=Aj (fQ roots C A s dec st (m+1)) Aa) :
  Wj Tryz.prog Y XY 170 [.v (.func (.yield l) #[] #[]),.ref 1005 0] (Aj (fQ roots C A s dec st 0) Aa) fun _ h'=>h'=Aj (fQ roots C A s dec st (Dj roots dec).length) Aa:=by
 have hr:roots.length≤1073741824:=hr;refine eZ (l:=l) (yq ⟨[],[],[],[],[],[],[],[],[],[],[4,12]⟩ l Y) XY rfl Cn hm rfl Tryz.func170 (by kernel_rfl) rfl (Nz rfl) (by kernel_rfl) rfl rfl ?_;refine Xi {i:Nat // i≤roots.length} (Xi (fun q=>⟨[(0,.v (.func (.yield l) #[] #[])),(1,.ref 1005 0),(12,sl AI roots),(13,vi (roots.map AI).length),(14,vi q.1)],[(1000,.cells (srM roots C A s dec 1004 st.length)),(1001,.tok 6 s.infs.length),(1002,.tok 1 s.drv.length),(1003,.map DQ (DT 0 s.infs)),(1004,.arr 1 (st.map AQ)),(1005,.cells [.ref 1000 0]),(1006,.cells [vs (FX roots dec q.1).1]),(1007,.cells [.slice (.ver 1008 5 q.1) ((FX roots dec q.1).2.map A6)]),(1008,.var 5 q.1 ((FX roots dec q.1).2.map A6).length),(1009,.cells [.ref 1000 0])],Aa⟩) (Xi (fun q=>roots.length-q.1) (Yi (Xi ⟨0,AL _⟩ ?_) ?_)))
 ·exact⟨Z5,Z10,Fh,Aw (by kernel_rfl)⟩
 intro⟨i,i1⟩;have i1:i≤roots.length:=i1;refine Yi (fun h1=>?_) (fun h1=>?_)
 ·have h1:(i:Int)<((roots.map AI).length:Int):=h1;have n1:=LR h1;refine Xi (AI roots[i]) (Yi (Sy n1) (Yi rfl ?_));refine Yi (Nz rfl) ?_;refine Yi (Nz rfl) ?_;refine Yi (Nz rfl) ?_;refine Xi (.gen XY 0) (Yi rfl (ID.imp (ID.pre (hy i ⟨roots[i],mt,0,(i:Nat)⟩ (bH n1)) (fun g w q=>q rfl rfl)) ?_));intro v2 g2 q2;have vv:=q2.1;have vw:=q2.2;subst vv;subst vw;refine Xi ⟨[(0,.v (.func (.yield l) #[] #[])),(1,.ref 1005 0),(12,sl AI roots),(13,vi (roots.map AI).length),(14,vi i)],[(1000,.cells (srM roots C A s dec 1004 st.length)),(1001,.tok 6 s.infs.length),(1002,.tok 1 s.drv.length),(1003,.map DQ (DT 0 s.infs)),(1004,.arr 1 (st.map AQ)),(1005,.cells [.ref 1000 0]),(1006,.cells [vs (FX roots dec (i+1)).1]),(1007,.cells [.slice (.ver 1008 5 (i+1)) ((FX roots dec (i+1)).2.map A6)]),(1008,.var 5 (i+1) ((FX roots dec (i+1)).2.map A6).length),(1009,.cells [.ref 1000 0])],Aa⟩ (Yi ⟨Z5,Z10,Fh,Aw (by kernel_rfl)⟩ ?_)
  refine Yi (Ii i (by omega)) ?_;refine Xi ⟨i+1,by omega⟩ ?_;exact⟨Dl roots.length i (by omega),Z5,Z10,Fh,Aw (by kernel_rfl)⟩
 have h1:¬((i:Int)<((roots.map AI).length:Int)):=h1;have n1:=LQ h1;have hE:i=EX roots dec 0:=by rw[bP];omega
 refine Xi {j:Nat // j≤dec.length} (Xi (fun q=>⟨[(0,.v (.func (.yield l) #[] #[])),(29,sl AB dec),(30,vi (dec.map AB).length),(31,vi q.1)],[(1000,.cells (srM roots C A s dec 1004 st.length)),(1001,.tok 6 s.infs.length),(1002,.tok 1 s.drv.length),(1003,.map DQ (DT 0 s.infs)),(1004,.arr 1 (st.map AQ)),(1005,.cells [.ref 1000 0]),(1006,.cells [vs (FX roots dec (EX roots dec q.1)).1]),(1007,.cells [.slice (.ver 1008 5 (EX roots dec q.1)) ((FX roots dec (EX roots dec q.1)).2.map A6)]),(1008,.var 5 (EX roots dec q.1) ((FX roots dec (EX roots dec q.1)).2.map A6).length),(1009,.cells [.ref 1000 0])],Aa⟩) (Xi (fun q=>dec.length-q.1) (Yi (Xi ⟨0,AL _⟩ ?_) ?_)))
 ·exact⟨Z4,⟨Zr,Zr,Zr,Zr,Zr,Zr,⟨(show .cells [vs (FX roots dec i).1]=(.cells [vs (FX roots dec (EX roots dec 0)).1]:HO) by rw[hE]),rfl⟩,⟨(show .cells [.slice (.ver 1008 5 i) ((FX roots dec i).2.map A6)]=(.cells [.slice (.ver 1008 5 (EX roots dec 0)) ((FX roots dec (EX roots dec 0)).2.map A6)]:HO) by rw[hE]),rfl⟩,⟨(show .var 5 i ((FX roots dec i).2.map A6).length=(.var 5 (EX roots dec 0) ((FX roots dec (EX roots dec 0)).2.map A6).length:HO) by rw[hE]),rfl⟩,Zr,Tv⟩,Fh,Aw (by kernel_rfl)⟩
 intro⟨j,j1⟩;have j1:j≤dec.length:=j1;refine Yi (fun h4=>?_) (fun h4=>?_)
 ·have h4:(j:Int)<((dec.map AB).length:Int):=h4;have n4:=LR h4;have rG:=n6 dec[j] (Ax n4);refine Xi (AB dec[j]) (Yi (Sy n4) (Yi rfl ?_));refine Yi (Nz rfl) ?_;refine Yi (Nz rfl) ?_;refine Xi {k:Nat // k≤dec[j].rel.reqs.length} (Xi (fun q=>⟨[(0,.v (.func (.yield l) #[] #[])),(6,.ref 6 0),(29,sl AB dec),(30,vi (dec.map AB).length),(31,vi j),(37,sl AI dec[j].rel.reqs),(38,vi (dec[j].rel.reqs.map AI).length),(39,vi q.1)],[(6,.cells (AB dec[j])),(1000,.cells (srM roots C A s dec 1004 st.length)),(1001,.tok 6 s.infs.length),(1002,.tok 1 s.drv.length),(1003,.map DQ (DT 0 s.infs)),(1004,.arr 1 (st.map AQ)),(1005,.cells [.ref 1000 0]),(1006,.cells [vs (FX roots dec (EX roots dec j+q.1)).1]),(1007,.cells [.slice (.ver 1008 5 (EX roots dec j+q.1)) ((FX roots dec (EX roots dec j+q.1)).2.map A6)]),(1008,.var 5 (EX roots dec j+q.1) ((FX roots dec (EX roots dec j+q.1)).2.map A6).length),(1009,.cells [.ref 1000 0])],Aa⟩) (Xi (fun q=>dec[j].rel.reqs.length-q.1) (Yi (Xi ⟨0,AL _⟩ ?_) ?_)))
  ·exact⟨Z8,Z11,Fh,Aw (by kernel_rfl)⟩
  intro⟨k,k1⟩;have k1:k≤dec[j].rel.reqs.length:=k1;refine Yi (fun h5=>?_) (fun h5=>?_)
  ·have h5:(k:Int)<((dec[j].rel.reqs.map AI).length:Int):=h5;have n5:=LR h5;refine Xi (AI dec[j].rel.reqs[k]) (Yi (Sy n5) (Yi rfl ?_));refine Yi (Nz rfl) ?_;refine Yi (Nz rfl) ?_;refine Yi (Nz rfl) ?_;refine Xi (.gen XY 0) (Yi rfl (ID.imp (ID.pre (hy (EX roots dec j+k) ⟨dec[j].rel.reqs[k],dec[j].rel.path,dec[j].place,(k:Nat)⟩ (fH n4 n5)) (fun g w q=>q rfl rfl)) ?_));intro v6 g6 q6;have vJ:=q6.1;have vK:=q6.2;subst vJ;subst vK;refine Xi ⟨[(0,.v (.func (.yield l) #[] #[])),(6,.ref 6 0),(29,sl AB dec),(30,vi (dec.map AB).length),(31,vi j),(37,sl AI dec[j].rel.reqs),(38,vi (dec[j].rel.reqs.map AI).length),(39,vi k)],[(6,.cells (AB dec[j])),(1000,.cells (srM roots C A s dec 1004 st.length)),(1001,.tok 6 s.infs.length),(1002,.tok 1 s.drv.length),(1003,.map DQ (DT 0 s.infs)),(1004,.arr 1 (st.map AQ)),(1005,.cells [.ref 1000 0]),(1006,.cells [vs (FX roots dec (EX roots dec j+(k+1))).1]),(1007,.cells [.slice (.ver 1008 5 (EX roots dec j+(k+1))) ((FX roots dec (EX roots dec j+(k+1))).2.map A6)]),(1008,.var 5 (EX roots dec j+(k+1)) ((FX roots dec (EX roots dec j+(k+1))).2.map A6).length),(1009,.cells [.ref 1000 0])],Aa⟩ (Yi ⟨Z8,Z11,Fh,Aw (by kernel_rfl)⟩ ?_)
   refine Yi (Ii k (by omega)) ?_;refine Xi ⟨k+1,by omega⟩ ?_;exact⟨by show dec[j].rel.reqs.length-(k+1)<dec[j].rel.reqs.length-k;omega,Z8,Z11,Fh,Aw (by kernel_rfl)⟩
  have h5:¬((k:Int)<((dec[j].rel.reqs.map AI).length:Int)):=h5;have n5:=LQ h5;refine Yi (Ii j (by omega)) ?_;have hE:EX roots dec j+k=EX roots dec (j+1):=by rw[bO n4];omega
  refine Xi ⟨j+1,by omega⟩ ?_;exact⟨Dl dec.length j (by omega),Z4,⟨Zr,Zr,Zr,Zr,Zr,Zr,⟨(show .cells [vs (FX roots dec (EX roots dec j+k)).1]=(.cells [vs (FX roots dec (EX roots dec (j+1))).1]:HO) by rw[hE]),rfl⟩,⟨(show .cells [.slice (.ver 1008 5 (EX roots dec j+k)) ((FX roots dec (EX roots dec j+k)).2.map A6)]=(.cells [.slice (.ver 1008 5 (EX roots dec (j+1))) ((FX roots dec (EX roots dec (j+1))).2.map A6)]:HO) by rw[hE]),rfl⟩,⟨(show .var 5 (EX roots dec j+k) ((FX roots dec (EX roots dec j+k)).2.map A6).length=(.var 5 (EX roots dec (j+1)) ((FX roots dec (EX roots dec (j+1))).2.map A6).length:HO) by rw[hE]),rfl⟩,Zr,Tv⟩,Fh,Aw (by kernel_rfl)⟩
 have h4:¬((j:Int)<((dec.map AB).length:Int)):=h4;have n4:=LQ h4;exact Ac (fun m=>Aj (fQ roots C A s dec st m) Aa) (show EX roots dec j=(Dj roots dec).length by rw[←Xz];congr 1;omega)
theorem m7{h:Nat→HO}{o k r sz:Nat}{cs:List AV}{K:(Nat→HO)→Prop}(c1:h o=.cells cs)(c2:IU cs k=.v (.slice none 0 0))(c3:h r=.free)(hk:K (AS (AS h r (.var sz 0 0)) o (.cells (Et cs k (.slice (.ver r sz 0) []))))):om h o k r sz K:=by
 unfold om;rw[c1];show match IU cs k with
  |.v (.slice none 0 0)=>match h r with
   |.free=>K (AS (AS h r (.var sz 0 0)) o (.cells (Et cs k (.slice (.ver r sz 0) []))))
   |_=>False
  |_=>False
 rw[c2,c3];exact hk
theorem nt{o k r0 sz:Nat}{aM:Cx}{P:Program}{N:Nat}{fn:Func}{σ:IM}{Q:AV→(Nat→HO)→Prop}{b rest:Code}{st:St}(cs:List AV)(c1:st.h o=.cells cs)(c2:IU cs k=.v (.slice none 0 0))(c3:st.h r0=.free)(σF σr:IM)(H0 Hn:List (Nat×HO))(gf:Nat)(caps:List AV)
  {ks s:Nat} {ps:Array Tmp} {Gq body:Code} (hb:b=.block ks (.rangeFunc (.tmp s) ps Gq body)) (k1:(Eg σF&&Dw (AS (AS st.h r0 (.var sz 0 0)) o (.cells (Et cs k (.slice (.ver r0 sz 0) [])))) 0 0&&Dg σF 0 0)=true) (k2:Fr σF (AS (AS st.h r0 (.var sz 0 0)) o (.cells (Et cs k (.slice (.ver r0 sz 0) []))))=Aj H0 Aa) (k3:(Gw σr&&Ij σr H0)=true) (k4:Ij σr Hn=true)
  (k5:ren (Ce σF) (AS (AS st.h r0 (.var sz 0 0)) o (.cells (Et cs k (.slice (.ver r0 sz 0) [])))) (st.t s)=.clo gf caps)
  (k6:∀(l D:Nat) (f' : FuncId) (tm:Array Value),tm.size=N→Wj P (fun g w=>w.heap[l]?=some (.loop (HH f' tm ps Gq body D .ready))∧∀i,BC g w (AP (Aj H0 Aa)) (ren (Ce σF) (AS (AS st.h r0 (.var sz 0 0)) o (.cells (Et cs k (.slice (.ver r0 sz 0) [])))) (st.t i)) (tm.getD i undef)) σr gf
   (.v (.func (.yield l) #[] #[])::caps) (Aj H0 Aa) fun _ h'=>h'=Aj Hn Aa)
  (k7:Em N rest=true) (k8:QA aM rest (WH aM fn.results.toList σr fun r h'=>Q (ren (Ce σ) (D1 σF 0 0 (AS (AS st.h r0 (.var sz 0 0)) o (.cells (Et cs k (.slice (.ver r0 sz 0) [])))) h') (ren (EW σF 0 0) h' r)) (Fr σ (D1 σF 0 0 (AS (AS st.h r0 (.var sz 0 0)) o (.cells (Et cs k (.slice (.ver r0 sz 0) [])))) h')))
   ⟨fun i=>ren (Ce σF) (AS (AS st.h r0 (.var sz 0 0)) o (.cells (Et cs k (.slice (.ver r0 sz 0) [])))) (st.t i),Aj Hn Aa⟩) (k9:NT [] body=false:=by kernel_rfl):se o k r0 sz aM P N fn σ Q b rest st :=
 m7 c1 c2 c3 ⟨σF,σr,H0,Hn,ks,s,ps,Gq,body,gf,caps,hb,k1,k2,k3,k4,k5,k6,k7,k9,k8⟩
section
variable {roots:List Rq}{C A:List (Value×AV)}{s:SS}{dec:List Cd}{st:List (List Sk)}{n:Nd}
theorem SP{m:Nat}{p:ByteArray}{o:List Nd}(e:FX roots dec (m+1)=(p,o)){es:List (List AV)}{k:Nat}(h1:es=o.map A6)(h2:k=es.length) :
  Aj [(1000,.cells (r7 roots C A s dec st.length)),(1001,.tok 6 s.infs.length),(1002,.tok 1 s.drv.length),(1003,.map DQ (DT 0 s.infs)),(1004,.arr 1 (st.map AQ)),
   (1005,.cells [.ref 1000 0]),(1006,.cells [vs p]),(1007,.cells [.slice (.ver 1008 5 (m+1)) es]),(1008,.var 5 (m+1) k),(1009,.cells [.ref 1000 0])] Aa=Aj (fQ roots C A s dec st (m+1)) Aa:=by
 subst h1;subst h2
 rw[show fQ roots C A s dec st (m+1)=[(1000,.cells (r7 roots C A s dec st.length)),(1001,.tok 6 s.infs.length),(1002,.tok 1 s.drv.length),(1003,.map DQ (DT 0 s.infs)),(1004,.arr 1 (st.map AQ)),
   (1005,.cells [.ref 1000 0]),(1006,.cells [vs (FX roots dec (m+1)).1]),(1007,.cells [.slice (.ver 1008 5 (m+1)) ((FX roots dec (m+1)).2.map A6)]),(1008,.var 5 (m+1) ((FX roots dec (m+1)).2.map A6).length),(1009,.cells [.ref 1000 0])]from rfl,e]
theorem fS{a:ByteArray×List Nd}(h:CY dec n.rq.path=true):Ec dec a n=(a.1,a.2):=by unfold Ec;rw[Aq (.inl h)]
theorem fG{o:List Nd}(h:(0:Int)<((o.map A6).length:Int)):o≠[]:=fun e=>by subst e;simp at h
theorem jG{o:List Nd}(h:¬(0:Int)<((o.map A6).length:Int)):o=[]:=by
 cases o with
 |nil=>rfl
 |cons y l=>exact absurd (by simp) h
theorem jL{a:ByteArray×List Nd}(h:(0:Int)<((a.2.map A6).length:Int))(hb:Ep a.1 n.rq.path=true):Ec dec a n=(a.1,a.2):=by unfold Ec;rw[Aq (.inr ⟨fG h,hb⟩)]
theorem fT{a:ByteArray×List Nd}(hd:CY dec n.rq.path=false)(h:(0:Int)<((a.2.map A6).length:Int))(hb:Ep a.1 n.rq.path=false)(hs:Ep n.rq.path a.1=true):Ec dec a n=(n.rq.path,[n]):=by
 unfold Ec;rw[Ai (by rw[hd,hb];simp),Aq ⟨fG h,hs⟩]
theorem fU{a:ByteArray×List Nd}(hd:CY dec n.rq.path=false)(hb:Ep a.1 n.rq.path=false)(hs:Ep n.rq.path a.1=false):Ec dec a n=(n.rq.path,a.2++[n]):=by
 unfold Ec;rw[Ai (by rw[hd,hb];simp),Ai (by rw[hs];simp)]
theorem jN{a:ByteArray×List Nd}(hd:CY dec n.rq.path=false)(h:¬(0:Int)<((a.2.map A6).length:Int)):Ec dec a n=(n.rq.path,a.2++[n]):=by
 have:=jG h
 unfold Ec;rw[Ai (by rw[hd,this];simp),Ai (by rw[this];simp)]
theorem jM(a:ByteArray×List Nd)(n:Nd):(Ec dec a n).2.length≤a.2.length+1:=by
 unfold Ec;split
 ·omega
 ·split
  ·simp
  ·simp
theorem ZH:∀(m:Nat),(FX roots dec m).2.length≤m
 |0=>Al _
 |m+1=>by
  have ih:=ZH m;cases h:(Dj roots dec)[m]? with
  |none =>
   have e:FX roots dec (m+1)=FX roots dec m:=by unfold FX;rw[Bi,h];simp
   rw[e];omega
  |some n=>rw[Xw h];exact Br (jM _ _) (El ih)
theorem XT:∀{l l' : List (Nat×HO)},l.map Prod.fst=l'.map Prod.fst→(∀p∈l',p.2≠.free)→∀i,AP (Aj l Aa) i→AP (Aj l' Aa) i
 | [],[],_,_,_,h=>h
 |(a,o)::l,(a',o')::l',e,h,i,hu=>by
  rw[AK,AK]at e
  injection e with e1 e2
  have e1:a=a':=e1;subst e1;unfold AP at *
  by_cases q:i=a
  ·subst q;simp only[Aj,CK,Jx];exact h _ (Ab ..)
  ·simp only[Aj,Cw q,Eh]at hu⊢;exact XT e2 (fun p hp=>h p (Ah _ hp)) i hu
theorem fR(m:Nat):∀i,AP (Aj (fQ roots C A s dec st 0) Aa) i→AP (Aj (fQ roots C A s dec st m) Aa) i:=XT rfl (by
 repeat (first | exact Cj _ | refine CV.2 ⟨by simp,?_⟩))
theorem ZZ:∀{l:List Cd},(∀c∈l,c.rel.reqs.length≤1073741824)→((l.map fun c=>c.rel.reqs.length)).sum≤l.length*1073741824
 | [],_=>by simp
 |c::l,h=>by
  have h1:=h c (Ab ..);have h2:=ZZ fun c hc=>h c (Ah _ hc);rw[AK,List.sum_cons,Ay];omega
theorem bI(hr:roots.length≤1073741824)(hd:dec.length≤1000)(h:∀c∈dec,c.rel.reqs.length≤1073741824):(Dj roots dec).length≤1074815565824:=by
 rw[←Xz];unfold EX;rw[DU]
 have:=ZZ h
 have:=Bc 1073741824 hd
 omega
end
theorem Xm(l:List Nd)(n:Nd):l.map A6++[A6 n]=(l++[n]).map A6:=by rw[Az];rfl
theorem On(l:List Nd)(n:Nd):(l.map A6).length+([A6 n]:List (List AV)).length=(l.map A6++[A6 n]).length:=Ad.symm
attribute [local irreducible] se om FX Dj Ec
theorem z6(roots:List Rq)(C A:List (Value×AV))(s:SS)(dec:List Cd)(st:List (List Sk))(hr:roots.length≤1073741824)(hd:dec.length≤1000)(n6:∀c∈dec,c.rel.reqs.length≤1073741824) :
  A3 Tryz.prog 87 [.ref 1000 0] (Aj (IV roots C A s dec st) Aa) fun r h'=>r=.tup [vs (Gs roots dec).1,sl A6 (Gs roots dec).2]∧h'=Aj (IV roots C A s dec st) Aa:=by
 refine am 5 0 9 5 (Ll ⟨[],[],[],[],[],[],[],[],[],[],[]⟩) (Ll F1) XZ rfl Cn rfl Cn hm rfl rfl Tryz.func87 (by kernel_rfl) rfl (Nz rfl) (by kernel_rfl) rfl 3 ?_;refine Yi (Nz rfl) ?_;refine Xi (.gen XZ 1) (Yi rfl (A3.imp (vV roots C A s dec st) ?_));intro v1 g1 q1;have jX:=q1.1;have jY:=q1.2;subst jX;subst jY;refine nt [.v (.slice none 0 0)] (by kernel_rfl) (by kernel_rfl) (by kernel_rfl) [(1000,1000),(1001,1001),(1002,1002),(1003,1003),(1004,1004),(10800,1005),(4,1006),(5,1007),(9,1008),(1,1009)] XY (fQ roots C A s dec st 0) (fQ roots C A s dec st (Dj roots dec).length) 170 [.ref 1005 0] rfl (by kernel_rfl) (by kernel_rfl) (by kernel_rfl) (by kernel_rfl) (by kernel_rfl) (fun l9 D9 f9 tm9 rS=>vW l9 roots C A s dec st hr (Br hd (by decide)) n6 fun m n hn=>cG (σ:=XY) 1007 0 1008 (Ll ⟨[],[(43,5)],[],[],[],[],[],[],[],[(500005,60001007)],[5]⟩) rfl Cn hm rfl rfl rfl rS (by kernel_rfl) (by kernel_rfl) (by kernel_rfl) (fR m) ?_) (by kernel_rfl) ?_
 ·have xh:m<(Dj roots dec).length:=(Ap.1 hn).1;have hol:=ZH (roots:=roots) (dec:=dec) m;have hnl:=bI hr hd n6;have hF:=Xw hn;refine Yi (Nz rfl) ?_;refine Yi ⟨rfl,rfl⟩ ?_;refine Xi ⟨[(1,.ref 1009 0),(4,.ref 1006 0),(5,.ref 1007 0),(6,.ref 6 0)],[(6,.cells (A6 n)),(60,.tok 5 ((FX roots dec m).2.map A6).length),(1000,.cells (srM roots C A s dec 1004 st.length)),(1001,.tok 6 s.infs.length),(1002,.tok 1 s.drv.length),(1003,.map DQ (DT 0 s.infs)),(1004,.arr 1 (st.map AQ)),(1005,.cells [.ref 1000 0]),(1006,.cells [vs (FX roots dec m).1]),(1007,.cells [.slice (.id 60 5) ((FX roots dec m).2.map A6)]),(1008,.vox m),(1009,.cells [.ref 1000 0])],Aa⟩ (Yi ⟨Z4,Z12,Fh,Aw (by kernel_rfl)⟩ ?_)
  refine CQ (Bt (CY dec n.rq.path)) (fun h2=>?_) (fun h2=>?_)
  ·have h2:(CY dec n.rq.path)=true:=h2;have kF:=(qR roots C A s dec st n.rq.path (Br hd (by decide)));rw[show(CY dec n.rq.path)=true from h2]at kF;refine Xi (.gen XZ 0) (Yi rfl (A3.imp kF ?_));intro v4 g4 q4;have vH:=q4.1;have vI:=q4.2;subst vH;subst vI;refine Yi ⟨rfl,rfl⟩ ?_
   -- [('(CY dec n.rq.path)=true',True)]
   exact⟨rfl,SP (hF.trans (fS h2)) rfl rfl⟩
  have h2:(CY dec n.rq.path)=false:=h2;have wU:=(qR roots C A s dec st n.rq.path (Br hd (by decide)));rw[show(CY dec n.rq.path)=false from h2]at wU;refine Xi (.gen XZ 0) (Yi rfl (A3.imp wU ?_));intro v6 g6 q6;have vJ:=q6.1;have vK:=q6.2;subst vJ;subst vK;refine Yi (fun h7=>?_) (fun h7=>?_)
  ·have h7:(0:Int)<(((FX roots dec m).2.map A6).length:Int):=h7;have n7:0<(FX roots dec m).2.length:=by have q:=h7;rw[Lm]at q;omega
   refine Yi (fun h8=>?_) (fun h8=>?_)
   ·have h8:Ep (FX roots dec m).1 n.rq.path=true:=(GM _ _).trans h8;refine Yi ⟨rfl,rfl⟩ ?_
    -- [('(CY dec n.rq.path)=true',False),('(0:Int)<(((FX roots dec m).2.map A6).length:Int)',True),('Ep (FX roots dec m).1 n.rq.path=true',True)]
    exact⟨rfl,SP (hF.trans (jL h7 h8)) rfl rfl⟩
   have h8:Ep (FX roots dec m).1 n.rq.path=false:=(GM _ _).trans (AM.2 h8);refine Yi (fun _=>?_) (fun hf=>absurd h7 hf);refine Yi (fun h9=>?_) (fun h9=>?_)
   ·have h9:Ep n.rq.path (FX roots dec m).1=true:=(GM _ _).trans h9;refine Yi (Nz rfl) ?_;refine Yi (Nz rfl) ?_;refine Yi (Nz rfl) ?_;have XW:Df 5 [(A6 n)]∧([(A6 n)]:List (List AV)).length*72≤140737488355328∧([(A6 n)]:List (List AV)).length≤9223372036854775807:=⟨⟨rfl,trivial⟩,(by simp only[Ay,AG];omega),(by simp only[Ay,AG];omega)⟩;refine Yi XW ?_;refine Yi (Nz rfl) ?_;refine Yi ⟨rfl,rfl⟩ ?_
    -- [('(CY dec n.rq.path)=true',False),('(0:Int)<(((FX roots dec m).2.map A6).length:Int)',True),('Ep (FX roots dec m).1 n.rq.path=true',False),('Ep n.rq.path (FX roots dec m).1=true',True)]
    exact⟨rfl,SP (hF.trans (fT h2 h7 h8 h9)) rfl rfl⟩
   have h9:Ep n.rq.path (FX roots dec m).1=false:=(GM _ _).trans (AM.2 h9);refine Yi (Nz rfl) ?_;refine Yi (Nz rfl) ?_;have lL:Df 5 [(A6 n)]∧((FX roots dec m).2.map A6).length=((FX roots dec m).2.map A6).length∧(((FX roots dec m).2.map A6).length+([(A6 n)]:List (List AV)).length)*72≤140737488355328∧((FX roots dec m).2.map A6).length+([(A6 n)]:List (List AV)).length≤9223372036854775807:=⟨⟨rfl,trivial⟩,rfl,(by simp only[Lm,Ay,AG];omega),(by simp only[Lm,Ay,AG];omega)⟩;refine Yi lL ?_;refine Yi (Nz rfl) ?_;refine Yi ⟨(On _ n).symm,rfl⟩ ?_
   -- [('(CY dec n.rq.path)=true',False),('(0:Int)<(((FX roots dec m).2.map A6).length:Int)',True),('Ep (FX roots dec m).1 n.rq.path=true',False),('Ep n.rq.path (FX roots dec m).1=true',False)]
   exact⟨rfl,SP (hF.trans (fU h2 h8 h9)) (Xm _ n) (On _ n)⟩
  have h7:¬((0:Int)<(((FX roots dec m).2.map A6).length:Int)):=h7;have n7:¬0<(FX roots dec m).2.length:=by have q:=h7;rw[Lm]at q;omega
  refine Yi (fun hf=>absurd hf h7) (fun _=>?_);refine Yi (Nz rfl) ?_;refine Yi (Nz rfl) ?_;have rn:Df 5 [(A6 n)]∧((FX roots dec m).2.map A6).length=((FX roots dec m).2.map A6).length∧(((FX roots dec m).2.map A6).length+([(A6 n)]:List (List AV)).length)*72≤140737488355328∧((FX roots dec m).2.map A6).length+([(A6 n)]:List (List AV)).length≤9223372036854775807:=⟨⟨rfl,trivial⟩,rfl,(by simp only[Lm,Ay,AG];omega),(by simp only[Lm,Ay,AG];omega)⟩;refine Yi rn ?_;refine Yi (Nz rfl) ?_;refine Yi ⟨(On _ n).symm,rfl⟩ ?_
  -- [('(CY dec n.rq.path)=true',False),('(0:Int)<(((FX roots dec m).2.map A6).length:Int)',False)]
  exact⟨rfl,SP (hF.trans (jN h2 h7)) (Xm _ n) (On _ n)⟩
 refine Yi (by kernel_rfl) ?_;exact Xi _ (Yi (.refl _) ⟨show AV.tup [vs (FX roots dec (Dj roots dec).length).1,sl A6 (FX roots dec (Dj roots dec).length).2]=_ by rw[jK (Al _)],rfl⟩)
end Go.Eng
