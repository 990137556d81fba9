/- Lemmas for the claims of this seat, without a condition: part 24 (S4, S5, S8a, S9, S10). -/
import Derived.Test.YtddfphmpfnmknaaGreatDoorBA23
set_option maxHeartbeats 4000000
namespace Go.Eng
open Go.Proofs
def SE(l:List Cd)(q:Rq):Bool:=l.any fun d=>decide (d.rel.path=q.path)&&!has q.set d.place
theorem Ul{f:Rq→Nat→Nd}{P:Nd→Bool}:∀{l:List Rq} {b i:Nat} {q:Rq},l[i]?=some q→P (f q (b+i))=true→(∀k u,k<i→l[k]?=some u→P (f u (b+k))=false)→(LP f b l).find? P=some (f q (b+i))
 | [],_,_,_,h,_,_=>by simp at h
 |u::l,b,0,q,h,he,_=>by
  cases h
  unfold LP;rw[ED,show P (f u b)=true from he];rfl
 |u::l,b,i+1,q,h,he,hn=>by
  unfold LP;have h0:P (f u b)=false:=hn 0 u (by omega) rfl;rw[ED,h0]
  have:=Ul (f:=f) (P:=P) (l:=l) (b:=b+1) (i:=i) (q:=q) (by simpa using h) (by rw[show b+1+i=b+(i+1) by omega];exact he) (fun k v hk hv=>by
   rw[show b+1+k=b+(k+1) by omega];exact hn (k+1) v (by omega) (by simpa using hv))
  rw[show b+1+i=b+(i+1) by omega]at this;exact this
theorem N7{f:Rq→Nat→Nd}{P:Nd→Bool}:∀{l:List Rq} {b:Nat},(∀k u,l[k]?=some u→P (f u (b+k))=false)→(LP f b l).find? P=none
 | [],_,_=>rfl
 |u::l,b,h=>by
  unfold LP;have h0:P (f u b)=false:=h 0 u rfl;rw[ED,h0];exact N7 fun k v hv=>by rw[show b+1+k=b+(k+1) by omega];exact h (k+1) v (by simpa using hv)
def xW:AV:=.agg [vs ⟨#[]⟩,.v (.slice none 0 0),vs ⟨#[]⟩,vi 0,vi 0]
def lZ(o:Option Nd):AV:=match o with | some n=>.tup [.agg (A6 n),vb true] | none=>.tup [xW,vb false]
section
variable {dec:List Cd}{c:Cd}{i:Nat}
theorem du(hi:i<c.rel.reqs.length)(hn:∀k q,k<i→c.rel.reqs[k]?=some q→SE (dec++[c]) q=false){j:Nat}(hj:j<(dec++[c]).length)(h1:(dec++[c])[j].rel.path=c.rel.reqs[i].path)(h2:has c.rel.reqs[i].set (dec++[c])[j].place=false) :
  D2 dec c=some ⟨c.rel.reqs[i],c.rel.path,c.place,(i:Nat)⟩:=by
 have:=Ul (f:=fun q i=>⟨q,c.rel.path,c.place,(i:Nat)⟩) (P:=ZD (dec++[c])) (l:=c.rel.reqs) (b:=0) (i:=i) (q:=c.rel.reqs[i]) (Ge hi)
  (Bf.2 ⟨_,At hj,by rw[AE h1,h2];rfl⟩) (fun k u hk hu=>hn k u hk hu)
 unfold D2 Pu;rw[this,Bg]
theorem dv(hn:∀(k:Nat) (q:Rq),c.rel.reqs[k]?=some q→SE (dec++[c]) q=false):D2 dec c=none:=by
 unfold D2 Pu;exact N7 fun k u hu=>hn k u hu
theorem fE{q:Rq}(h:∀(m:Nat) (d:Cd),(dec++[c])[m]?=some d→(decide (d.rel.path=q.path)&&!has q.set d.place)=false):SE (dec++[c]) q=false:=by
 unfold SE;rw[F0];intro d hd;obtain⟨m,hm⟩:=B1.1 hd;rw[h m d hm];decide
end
theorem z7(n:Nd)(c:Cd)(hq:CU n.rq.set):PC 89 [.agg (A6 n),.cptr (Az c)] (vb (!has n.rq.set c.place)):=by
 refine Ps ⟨[2],[],[],[],[],[],[],[],[],[],[]⟩ Tryz.func89 rfl (Nz rfl) ?_;refine Dj (Bt (has n.rq.set c.place)) (fun h1=>?_) (fun h1=>?_)
 ·have h1:(has n.rq.set c.place)=true:=h1;refine Xi .pure (Xi _ (Yi (cb h1 (oV n.rq.set c.place hq)) ?_));exact .of_eq (show vb false=vb (!has n.rq.set c.place) by rw[h1];rfl)
 have h1:(has n.rq.set c.place)=false:=h1;refine Xi .pure (Xi _ (Yi (cb h1 (oV n.rq.set c.place hq)) ?_));exact .of_eq (show vb true=vb (!has n.rq.set c.place) by rw[h1];rfl)
theorem xR(roots:List Rq)(C A:List (Value×AV))(s:SS)(dec:List Cd)(st:List (List Sk))(c:Cd)(hd:dec.length≤1073741823)(hr:c.rel.reqs.length≤1073741824)(hq:∀q∈c.rel.reqs,CU q.set):A3 Tryz.prog 93 [.ref 1000 0,.agg (Az c)] (Aj (IR roots C A s dec st) Aa) fun r h'=>r=lZ (D2 dec c)∧h'=Aj (IR roots C A s dec st) Aa:=by
 have hd:dec.length≤1073741823:=hd;have hdl:(dec++[c]).length=dec.length+1:=by simp
 refine BV (Lh ⟨[3],[],[],[],[],[],[],[],[(23,3)],[],[4,8,9]⟩) [(1000,1000),(1001,1001),(1002,1002),(1003,1003),(1004,1004)] rfl Cs hm rfl Tryz.func93 (by kernel_rfl) rfl (Nz rfl) (by kernel_rfl) rfl ?_;refine Xi {i:Nat // i≤c.rel.reqs.length∧∀k q,k<i→c.rel.reqs[k]?=some q→SE (dec++[c]) q=false} (Xi (fun q=>⟨[(0,.ref 1000 0),(3,.ref 3 0),(4,.ref 4 0),(12,sl AN c.rel.reqs),(13,vi (c.rel.reqs.map AN).length),(14,vi q.1)],[(3,.ro (Az c)),(4,.cells [vs ⟨#[]⟩,.v (.slice none 0 0),vs ⟨#[]⟩,vi 0,vi 0]),(1000,.cells (srM roots C A s dec 1004 st.length)),(1001,.tok 6 s.infs.length),(1002,.tok 1 s.drv.length),(1003,.map DO (DR 0 s.infs)),(1004,.arr 1 (st.map AR))],Aa⟩) (Xi (fun q=>c.rel.reqs.length-q.1) (Yi (Xi ⟨0,AO _,fun k q h=>absurd h (TX k)⟩ ?_) ?_)))
 ·exact⟨Z6,Z7,Fh,Aw (by kernel_rfl)⟩
 intro⟨i,i1,i2⟩;have i1:i≤c.rel.reqs.length:=i1;have i2:∀k q,k<i→c.rel.reqs[k]?=some q→SE (dec++[c]) q=false:=i2;refine Yi (fun h1=>?_) (fun h1=>?_)
 ·have h1:(i:Int)<((c.rel.reqs.map AN).length:Int):=h1;have n1:=MB h1;refine Xi (AN c.rel.reqs[i]) (Yi (Wj n1) (Yi rfl ?_));refine Yi (Nz rfl) ?_;refine Yi (Nz rfl) ?_;refine Xi ⟨[(0,.ref 1000 0),(3,.ref 3 0),(4,.ref 4 0),(6,vi i),(7,.ref 7 0),(12,sl AN c.rel.reqs),(13,vi (c.rel.reqs.map AN).length),(14,vi i)],[(3,.ro (Az c)),(4,.cells [vs ⟨#[]⟩,.v (.slice none 0 0),vs ⟨#[]⟩,vi 0,vi 0]),(7,.cells (AN c.rel.reqs[i])),(1000,.cells (srM roots C A s dec 1004 st.length)),(1001,.tok 6 s.infs.length),(1002,.tok 1 s.drv.length),(1003,.map DO (DR 0 s.infs)),(1004,.arr 1 (st.map AR))],Aa⟩ (Yi ⟨Z8,Z8,Fh,Aw (by kernel_rfl)⟩ ?_)
  refine Xi _ (Xi _ (Yi (by kernel_rfl) (Yi (qY dec (Br hd (by decide))) ?_)));refine Yi (Nz rfl) ?_;have b2:De 10 [(Az c)]∧(dec.map Az).length=(dec.map Az).length∧((dec.map Az).length+([(Az c)]:List (List AV)).length)*128≤140737488355328∧(dec.map Az).length+([(Az c)]:List (List AV)).length≤9223372036854775807:=⟨⟨rfl,trivial⟩,rfl,(by simp only[Lm,Ax,AF];omega),(by simp only[Lm,Ax,AF];omega)⟩;refine Yi b2 ?_;refine Yi (by kernel_rfl) ?_;refine Xi {j:Nat // j≤(dec++[c]).length∧∀m d,m<j→(dec++[c])[m]?=some d→(decide (d.rel.path=c.rel.reqs[i].path)&&!has c.rel.reqs[i].set d.place)=false} (Xi (fun q=>⟨[(0,.ref 1000 0),(3,.ref 3 0),(4,.ref 4 0),(6,vi i),(7,.ref 7 0),(12,sl AN c.rel.reqs),(13,vi (c.rel.reqs.map AN).length),(14,vi i),(26,.slice (.id 12300 10) ((dec++[c]).map Az)),(27,vi ((dec++[c]).map Az).length),(28,vi q.1)],[(3,.ro (Az c)),(4,.cells [vs ⟨#[]⟩,.v (.slice none 0 0),vs ⟨#[]⟩,vi 0,vi 0]),(7,.cells (AN c.rel.reqs[i])),(1000,.cells (srM roots C A s dec 1004 st.length)),(1001,.tok 6 s.infs.length),(1002,.tok 1 s.drv.length),(1003,.map DO (DR 0 s.infs)),(1004,.arr 1 (st.map AR)),(12300,.tok 10 ((dec++[c]).map Az).length)],Aa⟩) (Xi (fun q=>(dec++[c]).length-q.1) (Yi (Xi ⟨0,AO _,fun k q h=>absurd h (TX k)⟩ ?_) ?_)))
  ·exact⟨⟨Zr,Zr,Zr,Zr,Zr,Zr,Zr,Zr,⟨tkA,rfl⟩,⟨(show vi ((dec.map Az++[Az c]:List (List AV)).length:Int)=vi (((dec++[c]).map Az).length:Int) by rw[Ay];rfl),rfl⟩,Zr,Tv⟩,⟨Zr,Zr,Zr,Zr,Zr,Zr,Zr,Zr,⟨(show HO.tok 10 ((dec.map Az).length+[Az c].length)=.tok 10 ((dec++[c]).map Az).length by simp),rfl⟩,Tv⟩,Fh,Aw (by kernel_rfl)⟩
  intro⟨j,j1,j2⟩;have j1:j≤(dec++[c]).length:=j1;have j2:∀m d,m<j→(dec++[c])[m]?=some d→(decide (d.rel.path=c.rel.reqs[i].path)&&!has c.rel.reqs[i].set d.place)=false:=j2;refine Yi (fun h3=>?_) (fun h3=>?_)
  ·have h3:(j:Int)<(((dec++[c]).map Az).length:Int):=h3;have n3:=MB h3;refine Xi (Az ((dec++[c])[j])) (Yi (Wj n3) (Yi rfl ?_));refine Yi (Nz rfl) ?_;refine Yi (Nz rfl) ?_;refine Yi (fun h4=>?_) (fun h4=>?_)
   ·have h4:(((dec++[c])[j]).rel.path:ByteArray)=c.rel.reqs[i].path:=h4;refine Dj (Bt (has c.rel.reqs[i].set (dec++[c])[j].place)) (fun h5=>?_) (fun h5=>?_)
    ·have h5:(has c.rel.reqs[i].set (dec++[c])[j].place)=true:=h5;refine Xi .pure (Xi _ (Yi (cb h5 (oV c.rel.reqs[i].set (dec++[c])[j].place (hq _ (At _)))) ?_));refine Xi ⟨[(0,.ref 1000 0),(3,.ref 3 0),(4,.ref 4 0),(6,vi i),(7,.ref 7 0),(12,sl AN c.rel.reqs),(13,vi (c.rel.reqs.map AN).length),(14,vi i),(26,.slice (.id 12300 10) ((dec++[c]).map Az)),(27,vi ((dec++[c]).map Az).length),(28,vi j)],[(3,.ro (Az c)),(4,.cells [vs ⟨#[]⟩,.v (.slice none 0 0),vs ⟨#[]⟩,vi 0,vi 0]),(7,.cells (AN c.rel.reqs[i])),(1000,.cells (srM roots C A s dec 1004 st.length)),(1001,.tok 6 s.infs.length),(1002,.tok 1 s.drv.length),(1003,.map DO (DR 0 s.infs)),(1004,.arr 1 (st.map AR)),(12300,.tok 10 ((dec++[c]).map Az).length)],Aa⟩ (Yi ⟨Z11,Z9,Fh,Aw (by kernel_rfl)⟩ ?_)
     refine Yi (Ii j (by omega)) ?_;refine Xi ⟨j+1,by omega,fun m d hm hd=>by
       by_cases e:m=j
       ·subst e;rw[Ge n3]at hd;cases hd;exact by rw[h5];simp
       ·exact j2 m d (by omega) hd⟩ ?_
     exact⟨by show(dec++[c]).length-(j+1)<(dec++[c]).length-j;omega,Z11,Z9,Fh,Aw (by kernel_rfl)⟩
    have h5:(has c.rel.reqs[i].set (dec++[c])[j].place)=false:=h5;refine Xi .pure (Xi _ (Yi (cb h5 (oV c.rel.reqs[i].set (dec++[c])[j].place (hq _ (At _)))) ?_));refine Xi ⟨[(3,.ref 3 0),(4,.ref 4 0),(6,vi i),(7,.ref 7 0)],[(3,.ro (Az c)),(4,.cells [vs ⟨#[]⟩,.v (.slice none 0 0),vs ⟨#[]⟩,vi 0,vi 0]),(7,.cells (AN c.rel.reqs[i])),(1000,.cells (srM roots C A s dec 1004 st.length)),(1001,.tok 6 s.infs.length),(1002,.tok 1 s.drv.length),(1003,.map DO (DR 0 s.infs)),(1004,.arr 1 (st.map AR))],Aa⟩ (Yi ⟨Z4,Z8,Fh,Aw (by kernel_rfl)⟩ ?_)
    refine Yi (Nz rfl) ?_;refine Yi (Nz rfl) ?_;refine Yi (Nz rfl) ?_;have eC:=du (dec:=dec) (c:=c) n1 i2 n3 h4 h5;exact Xi _ (Yi (.refl _) (Yi (show AV.tup [.agg (A6 ⟨c.rel.reqs[i],c.rel.path,c.place,(i:Nat)⟩),vb true]=lZ (D2 dec c) by rw[eC];rfl) rfl))
   have h4:¬(((dec++[c])[j]).rel.path:ByteArray)=c.rel.reqs[i].path:=h4;refine Xi ⟨[(0,.ref 1000 0),(3,.ref 3 0),(4,.ref 4 0),(6,vi i),(7,.ref 7 0),(12,sl AN c.rel.reqs),(13,vi (c.rel.reqs.map AN).length),(14,vi i),(26,.slice (.id 12300 10) ((dec++[c]).map Az)),(27,vi ((dec++[c]).map Az).length),(28,vi j)],[(3,.ro (Az c)),(4,.cells [vs ⟨#[]⟩,.v (.slice none 0 0),vs ⟨#[]⟩,vi 0,vi 0]),(7,.cells (AN c.rel.reqs[i])),(1000,.cells (srM roots C A s dec 1004 st.length)),(1001,.tok 6 s.infs.length),(1002,.tok 1 s.drv.length),(1003,.map DO (DR 0 s.infs)),(1004,.arr 1 (st.map AR)),(12300,.tok 10 ((dec++[c]).map Az).length)],Aa⟩ (Yi ⟨Z11,Z9,Fh,Aw (by kernel_rfl)⟩ ?_)
   refine Yi (Ii j (by omega)) ?_;refine Xi ⟨j+1,by omega,fun m d hm hd=>by
     by_cases e:m=j
     ·subst e;rw[Ge n3]at hd;cases hd;exact by rw[AG h4];rfl
     ·exact j2 m d (by omega) hd⟩ ?_
   exact⟨by show(dec++[c]).length-(j+1)<(dec++[c]).length-j;omega,Z11,Z9,Fh,Aw (by kernel_rfl)⟩
  have h3:¬((j:Int)<(((dec++[c]).map Az).length:Int)):=h3;have n3:=MA h3;refine Yi (Ii i (by omega)) ?_;have zi:SE (dec++[c]) c.rel.reqs[i]=false:=fE fun m d hd=>j2 m d (by have:=(Ap.1 hd).1;have q:=h3;rw[Lm]at q;omega) hd;refine Xi ⟨i+1,by omega,fun k q hk uw=>by
    by_cases e:k=i
    ·subst e;rw[Ge n1]at uw;cases uw;exact zi
    ·exact i2 k q (by omega) uw⟩ ?_
  exact⟨Dl c.rel.reqs.length i (by omega),Z6,Z7,Fh,Aw (by kernel_rfl)⟩
 have h1:¬((i:Int)<((c.rel.reqs.map AN).length:Int)):=h1;have n1:=MA h1;refine Yi (Nz rfl) ?_;refine Yi (Nz rfl) ?_;have eC:=dv (dec:=dec) (c:=c) fun k q hk=>i2 k q (by have:=(Ap.1 hk).1;have q:=h1;rw[Lm]at q;omega) hk;exact Xi _ (Yi (.refl _) (Yi (show AV.tup [xW,vb false]=lZ (D2 dec c) by rw[eC];rfl) rfl))
theorem NX{x:List Rl}{roots:List Rq}{l0:List Nf}:∀{l:List Nf} {d d' : List (List Tm)},(∀i∈l,i∈l0)→(∀t∈d,TU (JX x roots l0) t)→CX x roots l d=some d'→∀t∈d',TU (JX x roots l0) t
 | [],d,d',_,hd,h=>by cases h;exact hd
 |i::l,d,d',hl,hd,h=>by
  unfold CX at h;cases hi:DK x roots d i with
  |none=>rw[hi]at h;cases h
  |some t =>
   rw[hi]at h;refine NX (fun j hj=>hl j (Ag _ hj)) (fun u hu=>?_) h;rcases AL.1 hu with hu | hu
   ·exact hd u hu
   ·rw[Ak.1 hu];exact bp (hl i (Ab ..)) hd hi
section
variable {x:List Rl}{roots:List Rq}{s:SS}
theorem Fe.few(hx:AX x=0)(hr:BL roots=0)(h:Fe x roots s):∀t∈s.drv,lr t:=fun t ht =>
 (NX (l0:=s.infs) (fun _ h=>h) (fun _ h=>by cases h) h.der t ht).fewI (YQ hx hr h.len)
theorem HP{i:Nf}{l:List Tm}(h:s.infs.Nodup):(D5 s i l).2.infs.Nodup:=by
 cases hk:Ll i 0 s.infs with
 |some k=>rw[Ws hk];exact h
 |none =>
  by_cases hf:65536≤s.infs.length
  ·rw[T0 hk hf];exact h
  ·rw[Wr hk hf];show(s.infs++[i]).Nodup;rw[F2];refine⟨h,by simp,fun a ha b hb e=>?_⟩;rw[Ak.1 hb]at e;exact Pq hk (e▸ha)
theorem Jm.add(h:Jm x roots s){i:Nf}{l:List Tm}(hi:DK x roots s.drv i=some l):Jm x roots (D5 s i l).2∧(D5 s i l).1<(D5 s i l).2.drv.length∧s.drv.length≤(D5 s i l).2.drv.length :=
 ⟨⟨(Ka h.der hi).1,HP h.nodup⟩,(Ka h.der hi).2.1,(Kb s i l).len⟩
theorem Jm.dl(h:Jm x roots s):s.infs.length≤65536∧s.drv.length=s.infs.length∧s.drv.length≤65536:=by
 have h1:=h.der.dlen;have h2:=h.der.len;exact⟨h2,h1,by omega⟩
theorem fO(hx:AX x=0)(p:ByteArray):∀d,DK x roots d ⟨2,p,0,0,0,0⟩=some (HM p (BZ x p)):=fun d=>by
 obtain⟨u,u0,u1,hu⟩:=aa hx p;have hV:FV []:=fun _ h=>by cases h
 have ou:Wn [] p (JW [] p (OM u)):=.ver hV (EP ⟨u0,u1⟩);have h1:Bb [(⟨p,false,Ec (BZ x p)⟩:Tm)] (JW [] p (OM u))=true:=by
  rw[Bx];intro t ht;rw[Ak.1 ht];show Da _ (BX (JW [] p (OM u)) p)=true;rw[HY rfl];show(B8 (OM u)&&has (Ec (BZ x p)) (place (OM u)))=true;rw[EP ⟨u0,u1⟩,GU,Fv,hu];unfold Lj;simp[u0,u1]
 have h2:Bb [(⟨p,false,Ec (BZ x p)⟩:Tm)] []=false:=rfl;have Dt:HM p (BZ x p)≠[]:=by
  have c1:=CN (l:=[(⟨p,false,Ec (BZ x p)⟩:Tm)]) ou.val;have c2:=CN (l:=[(⟨p,false,Ec (BZ x p)⟩:Tm)]) hV;rw[h1]at c1;rw[h2]at c2;unfold HM Po;cases hc:CE [(⟨p,false,Ec (BZ x p)⟩:Tm)]with
  |none=>rw[hc]at c1;cases c1
  |some c =>
   rw[hc]at c2;intro e;have e:c=[]:=e;rw[e]at c2;cases c2
 unfold DK;rw[Ai (show ¬((2:Int)=0) by decide),Ai (show ¬((2:Int)=1) by decide),Ao rfl,Ao ⟨rfl,rfl,rfl,rfl⟩];unfold bC;rw[Ai (by rw[GA];exact Dt)]
theorem EQ{k:Nat}(h:k<s.drv.length):s.drv[k]?=some (DE s k):=by
 unfold DE;rw[BP,Ge h];rfl
theorem Sy{p:ByteArray}{L:List Nat}{j k:Nat}(hj:j<L.length)(h:s.full=true∨CP (DE s k) p=false):Ca p (L.drop j) k s=(k,s):=by
 rw[Bl hj];unfold Ca;rw[Ao h]
theorem YC{p:ByteArray}{L:List Nat}{j k:Nat}(hj:j<L.length)(h1:¬(s.full=true∨CP (DE s k) p=false))(h:L[j]=k):Ca p (L.drop j) k s=Ca p (L.drop (j+1)) k s:=by
 rw[Bl hj]
 conv=>lhs;unfold Ca
 rw[Ai h1,Ao h]
theorem bx{p:ByteArray}{L:List Nat}{j k:Nat}(hj:j<L.length)(h1:¬(s.full=true∨CP (DE s k) p=false))(h2:¬L[j]=k)(h:(Bq (DE s k) (DE s L[j]) p).2≠0):Ca p (L.drop j) k s=Ca p (L.drop (j+1)) k s:=by
 rw[Bl hj]
 conv=>lhs;unfold Ca
 rw[Ai h1,Ai h2,Ao h]
theorem bw{p:ByteArray}{L:List Nat}{j k:Nat}(hj:j<L.length)(h1:¬(s.full=true∨CP (DE s k) p=false))(h2:¬L[j]=k)(h:(Bq (DE s k) (DE s L[j]) p).2=0) :
  Ca p (L.drop j) k s=Ca p (L.drop (j+1)) (D5 s ⟨3,p,0,0,(k:Nat),(L[j]:Nat)⟩ (Bq (DE s k) (DE s L[j]) p).1).1 (D5 s ⟨3,p,0,0,(k:Nat),(L[j]:Nat)⟩ (Bq (DE s k) (DE s L[j]) p).1).2:=by
 rw[Bl hj]
 conv=>lhs;unfold Ca
 rw[Ai h1,Ai h2,Ai (fun h3=>h3 h)]
end
theorem EX{t:List Tm}(h:lr t):CU t:=by have:=h.1;unfold CU;omega
theorem xS(x:List Rl)(roots:List Rq)(C A:List (Value×AV))(s:SS)(dec:List Cd)(st:List (List Sk))(p:ByteArray)(n:Nd)(rs:List Nat)(V:AV)(hx:AX x=0)(hr:BL roots=0)(hs:Jm x roots s)(mz:∀d,DK x roots d (Sp n)=some (IP n))(rR:∀r∈rs,r<s.drv.length)(Wf:rs.length≤1073741823)(hnq:CU n.rq.set)(hnp:BM (n.place+1))
  (px:∀a,(Value.string p,a)∈A→a=V) (py:(∀a,(Value.string p,a)∉A)→V=.v (.slice none 0 0)) (pz:∀h,PC 127 [vs p,str h V] (sl AA (HM p (BZ x p)))):A3 Tryz.prog 96 [.ref 1000 0,vs p,.agg (A6 n),sl BJ rs] (Aj (IR roots C A s dec st) Aa) fun r h'=>lp roots C A dec st (DX x p n rs s) r h':=by
 have hw:=hs.dl;obtain⟨mL,ub,TH⟩:=hs.add (mz s.drv)
 change Jm x roots (Bh s n).2 at mL
 change (Bh s n).1<(Bh s n).2.drv.length at ub
 change s.drv.length≤(Bh s n).2.drv.length at TH
 have KA:=mL.dl;obtain⟨jn,Ik,eF⟩:=mL.add (fO hx p (Bh s n).2.drv)
 change Jm x roots (Ed x p (Bh s n).2).2 at jn
 change (Ed x p (Bh s n).2).1<(Ed x p (Bh s n).2).2.drv.length at Ik
 change (Bh s n).2.drv.length≤(Ed x p (Bh s n).2).2.drv.length at eF
 obtain⟨L,hL⟩:∃L,L=(Ed x p (Bh s n).2).1::rs:=⟨_,rfl⟩;have yD:∀r∈L,r<(Ed x p (Bh s n).2).2.drv.length:=fun r mH=>by
  rw[hL]at mH;rcases Au.1 mH with rfl | h
  ·exact Ik
  ·have:=rR r h;omega
 have wL:L.length=rs.length+1:=by rw[hL];rfl
 have ub:(Bh s n).1<(Ed x p (Bh s n).2).2.drv.length:=by omega
 refine BV (Lh ⟨[6],[],[],[],[],[],[],[],[],[],[2,3,7,8,10,12]⟩) [(1000,1000),(1001,1001),(1002,1002),(1003,1003),(1004,1004)] rfl Cs hm rfl Tryz.func96 (by kernel_rfl) rfl (Nz rfl) (by kernel_rfl) rfl ?_;refine Yi (Nz rfl) ?_;refine Xi (.gen XW 0) (Yi rfl (A3.imp (wb roots C A s dec st n hw.1 hw.2.1 hs.nodup hnq hnp) ?_));intro v1 g1 q1;have jY:=q1.1;have jZ:=q1.2;subst jY;subst jZ;refine Xi ⟨[(0,.ref 1000 0),(1,vs p),(3,sl BJ rs),(9,vi (((Bh s n).1:Nat):Int))],[(1000,.cells [sl AN roots,.cmap CL C,.cmap CL A,.slice (.id 1001 6) ((Bh s n).2.infs.map BQ),.slice (.id 1002 1) ((Bh s n).2.drv.map B3),.mref 1003,vb (Bh s n).2.full,sl Az dec,sl Ae (AI dec),.msl 1004 st.length]),(1001,.tok 6 (Bh s n).2.infs.length),(1002,.tok 1 (Bh s n).2.drv.length),(1003,.map DO (DR 0 (Bh s n).2.infs)),(1004,.arr 1 (st.map AR))],Aa⟩ (Yi ⟨Z4,Z5,Fh,Aw (by kernel_rfl)⟩ ?_)
 refine Od V (.v (.slice none 0 0)) px py (fun h=>h) ?_;refine Xi .pure (Xi _ (Yi (pz _) ?_));refine Xi (.gen XW 0) (Yi rfl (A3.imp (ka roots C A (Bh s n).2 dec st ⟨2,p,0,0,0,0⟩ (HM p (BZ x p)) KA.1 KA.2.1 mL.nodup) ?_));intro v2 g2 q2;have vt:=q2.1;have vu:=q2.2;subst vt;subst vu;refine Xi ⟨[(0,.ref 1000 0),(1,vs p),(3,sl BJ rs),(9,vi (((Bh s n).1:Nat):Int)),(10,vi (((Ed x p (Bh s n).2).1:Nat):Int))],[(1000,.cells [sl AN roots,.cmap CL C,.cmap CL A,.slice (.id 1001 6) ((Ed x p (Bh s n).2).2.infs.map BQ),.slice (.id 1002 1) ((Ed x p (Bh s n).2).2.drv.map B3),.mref 1003,vb (Ed x p (Bh s n).2).2.full,sl Az dec,sl Ae (AI dec),.msl 1004 st.length]),(1001,.tok 6 (Ed x p (Bh s n).2).2.infs.length),(1002,.tok 1 (Ed x p (Bh s n).2).2.drv.length),(1003,.map DO (DR 0 (Ed x p (Bh s n).2).2.infs)),(1004,.arr 1 (st.map AR))],Aa⟩ (Yi ⟨Z5,Z5,Fh,Aw (by kernel_rfl)⟩ ?_)
 have b3:De 1 (rs.map BJ)∧([[vi (((Ed x p (Bh s n).2).1:Nat):Int)]]:List (List AV)).length=1∧(([[vi (((Ed x p (Bh s n).2).1:Nat):Int)]]:List (List AV)).length+(rs.map BJ).length)*8≤140737488355328∧([[vi (((Ed x p (Bh s n).2).1:Nat):Int)]]:List (List AV)).length+(rs.map BJ).length≤9223372036854775807:=⟨(E9 (enc:=BJ) (n:=1) (fun _=>rfl) rs),(by first | (simp;done) | (rw[Lm];assumption)),(by simp only[Lm,Ax,AF];omega),(by simp only[Lm,Ax,AF];omega)⟩
 refine Yi b3 ?_;refine Xi {q:Nat×Nat×SS // q.1≤L.length∧Ca p (L.drop q.1) q.2.1 q.2.2=Ca p L (Bh s n).1 (Ed x p (Bh s n).2).2∧Jm x roots q.2.2∧q.2.1<q.2.2.drv.length∧∀r∈L,r<q.2.2.drv.length} (Xi (fun q=>⟨[(0,.ref 1000 0),(1,vs p),(9,vi q.1.2.1),(33,.slice (.id 31 1) (L.map BJ)),(34,vi (L.map BJ).length),(35,vi q.1.1)],[(31,.tok 1 (L.map BJ).length),(1000,.cells (srM roots C A q.1.2.2 dec 1004 st.length)),(1001,.tok 6 q.1.2.2.infs.length),(1002,.tok 1 q.1.2.2.drv.length),(1003,.map DO (DR 0 q.1.2.2.infs)),(1004,.arr 1 (st.map AR))],Aa⟩) (Xi (fun q=>L.length-q.1.1) (Yi (Xi ⟨(0,(Bh s n).1,(Ed x p (Bh s n).2).2),AO _,by rw[List.drop_zero],jn,ub,yD⟩ ?_) ?_)))
 ·exact⟨⟨Zr,Zr,Zr,⟨(show AV.slice (.id 31 1) ([[vi (((Ed x p (Bh s n).2).1:Nat):Int)]]++rs.map BJ)=.slice (.id 31 1) (L.map BJ) by rw[hL];rfl),rfl⟩,⟨(show vi (([[vi (((Ed x p (Bh s n).2).1:Nat):Int)]]++rs.map BJ:List (List AV)).length:Int)=vi ((L.map BJ).length:Int) by rw[hL];rfl),rfl⟩,Zr,Tv⟩,⟨⟨(show HO.tok 1 (([[vi (((Ed x p (Bh s n).2).1:Nat):Int)]]:List (List AV)).length+(rs.map BJ).length)=.tok 1 (L.map BJ).length by rw[hL];simp[Nat.add_comm]),rfl⟩,Zr,Zr,Zr,Zr,Zr,Tv⟩,Fh,Aw (by kernel_rfl)⟩
 intro⟨⟨j,k,S⟩,j1,j2,j3,j4,j5⟩;have j1:j≤L.length:=j1;have j2:Ca p (L.drop j) k S=Ca p L (Bh s n).1 (Ed x p (Bh s n).2).2:=j2;have j3:Jm x roots S:=j3;have j4:k<S.drv.length:=j4;have j5:∀r∈L,r<S.drv.length:=j5;have xw:=j3.dl;have rI:=j3.der.few hx hr;have gk:S.drv[k]?=some (DE S k):=EQ j4;refine Yi (fun h4=>?_) (fun h4=>?_)
 ·have h4:(j:Int)<((L.map BJ).length:Int):=h4;have n4:=MB h4;refine Xi (BJ L[j]) (Yi (Wj n4) (Yi rfl ?_));refine Yi (fun h5=>?_) (fun h5=>?_)
  ·have h5:S.full=true:=h5;refine Xi ⟨[(9,vi k)],[(1000,.cells (srM roots C A S dec 1004 st.length)),(1001,.tok 6 S.infs.length),(1002,.tok 1 S.drv.length),(1003,.map DO (DR 0 S.infs)),(1004,.arr 1 (st.map AR))],Aa⟩ (Yi ⟨Z1,Z5,Fh,Aw (by kernel_rfl)⟩ ?_)
   have eR:Ca p L (Bh s n).1 (Ed x p (Bh s n).2).2=(k,S):=by rw[←j2];exact Sy n4 (.inl h5)
   have eL:DX x p n rs s=(k,S):=by unfold DX;rw[←hL];exact eR
   exact Xi _ (Yi (.refl _) (Yi (show vi (k:Int)=vi (((DX x p n rs s).1:Nat):Int) by rw[eL]) (show Aj (IR roots C A S dec st) Aa=Aj (IR roots C A (DX x p n rs s).2 dec st) Aa by rw[eL])))
  have h5:S.full=false:=h5;refine Xi (B3 (DE S k)) (Yi (Yi (Nn k) (Dp gk)) (Yi rfl ?_));refine Dj (Bt (CP (DE S k) p)) (fun h7=>?_) (fun h7=>?_)
  ·have h7:(CP (DE S k) p)=true:=h7;refine Xi .pure (Xi _ (Yi (cb h7 (ir (DE S k) p (EX (rI _ (Ar (EQ j4)))))) ?_));refine Xi ⟨[(0,.ref 1000 0),(1,vs p),(9,vi k),(12,vi (L[j]:Nat)),(33,.slice (.id 31 1) (L.map BJ)),(34,vi (L.map BJ).length),(35,vi j)],[(31,.tok 1 (L.map BJ).length),(1000,.cells (srM roots C A S dec 1004 st.length)),(1001,.tok 6 S.infs.length),(1002,.tok 1 S.drv.length),(1003,.map DO (DR 0 S.infs)),(1004,.arr 1 (st.map AR))],Aa⟩ (Yi ⟨Z7,Z6,Fh,Aw (by kernel_rfl)⟩ ?_)
   refine Yi (fun h8=>?_) (fun h8=>?_)
   ·have h8:((L[j]:Nat):Int)=(k:Int):=h8;refine Xi ⟨[(0,.ref 1000 0),(1,vs p),(9,vi k),(33,.slice (.id 31 1) (L.map BJ)),(34,vi (L.map BJ).length),(35,vi j)],[(31,.tok 1 (L.map BJ).length),(1000,.cells (srM roots C A S dec 1004 st.length)),(1001,.tok 6 S.infs.length),(1002,.tok 1 S.drv.length),(1003,.map DO (DR 0 S.infs)),(1004,.arr 1 (st.map AR))],Aa⟩ (Yi ⟨Z6,Z6,Fh,Aw (by kernel_rfl)⟩ ?_)
    refine Yi (Ii j (by omega)) ?_;refine Xi ⟨(j+1,k,S),Fi n4,by rw[←(YC (s:=S) (p:=p) (L:=L) (j:=j) (k:=k) n4 (by rw[h5,h7];simp) (by have q:=h8;omega))];exact j2,j3,j4,j5⟩ ?_;exact⟨Dl L.length j (by omega),Z6,Z6,Fh,Aw (by kernel_rfl)⟩
   have h8:¬(((L[j]:Nat):Int)=(k:Int)):=h8;refine Xi (B3 (DE S k)) (Yi (Yi (Nn k) (Dp gk)) (Yi rfl ?_));refine Xi (B3 (DE S L[j])) (Yi (Yi (show(0:Int)≤(L[j]:Nat) by omega) (Dp (EQ (j5 _ (At n4))))) (Yi rfl ?_));have fk:=rI _ (Ar (EQ j4));have fr:=rI _ (Ar (EQ (j5 _ (At n4))));refine Xi _ (Yi (sR (DE S k) (DE S L[j]) p fk.1 fr.1 fk.2 fr.2) ?_);refine Yi (by kernel_rfl) ?_;refine Xi ⟨[(0,.ref 1000 0),(1,vs p),(9,vi k),(12,vi (L[j]:Nat)),(13,sl AA (Bq (DE S k) (DE S L[j]) p).1),(14,vi (Bq (DE S k) (DE S L[j]) p).2),(33,.slice (.id 31 1) (L.map BJ)),(34,vi (L.map BJ).length),(35,vi j)],[(31,.tok 1 (L.map BJ).length),(1000,.cells (srM roots C A S dec 1004 st.length)),(1001,.tok 6 S.infs.length),(1002,.tok 1 S.drv.length),(1003,.map DO (DR 0 S.infs)),(1004,.arr 1 (st.map AR))],Aa⟩ (Yi ⟨Z9,Z6,Fh,Aw (by kernel_rfl)⟩ ?_)
   refine Yi (fun RV=>?_) (fun RV=>?_)
   ·have RV:((Bq (DE S k) (DE S L[j]) p).2:Int)≠(0:Int):=RV;refine Xi ⟨[(0,.ref 1000 0),(1,vs p),(9,vi k),(33,.slice (.id 31 1) (L.map BJ)),(34,vi (L.map BJ).length),(35,vi j)],[(31,.tok 1 (L.map BJ).length),(1000,.cells (srM roots C A S dec 1004 st.length)),(1001,.tok 6 S.infs.length),(1002,.tok 1 S.drv.length),(1003,.map DO (DR 0 S.infs)),(1004,.arr 1 (st.map AR))],Aa⟩ (Yi ⟨Z6,Z6,Fh,Aw (by kernel_rfl)⟩ ?_)
    refine Yi (Ii j (by omega)) ?_;refine Xi ⟨(j+1,k,S),Fi n4,by rw[←(bx (s:=S) (p:=p) (L:=L) (j:=j) (k:=k) n4 (by rw[h5,h7];simp) (by have q:=h8;omega) RV)];exact j2,j3,j4,j5⟩ ?_;exact⟨Dl L.length j (by omega),Z6,Z6,Fh,Aw (by kernel_rfl)⟩
   have RV:((Bq (DE S k) (DE S L[j]) p).2:Int)=(0:Int):=AS RV;refine Xi (.gen XW 0) (Yi rfl (A3.imp (ka roots C A S dec st ⟨3,p,0,0,(k:Nat),(L[j]:Nat)⟩ (Bq (DE S k) (DE S L[j]) p).1 xw.1 xw.2.1 j3.nodup) ?_));intro v12 g12 jX;have nh:=jX.1;have nk:=jX.2;subst nh;subst nk;refine Xi ⟨[(0,.ref 1000 0),(1,vs p),(9,vi (((D5 S ⟨3,p,0,0,(k:Nat),(L[j]:Nat)⟩ (Bq (DE S k) (DE S L[j]) p).1).1:Nat):Int)),(33,.slice (.id 31 1) (L.map BJ)),(34,vi (L.map BJ).length),(35,vi j)],[(31,.tok 1 (L.map BJ).length),(1000,.cells [sl AN roots,.cmap CL C,.cmap CL A,.slice (.id 1001 6) ((D5 S ⟨3,p,0,0,(k:Nat),(L[j]:Nat)⟩ (Bq (DE S k) (DE S L[j]) p).1).2.infs.map BQ),.slice (.id 1002 1) ((D5 S ⟨3,p,0,0,(k:Nat),(L[j]:Nat)⟩ (Bq (DE S k) (DE S L[j]) p).1).2.drv.map B3),.mref 1003,vb (D5 S ⟨3,p,0,0,(k:Nat),(L[j]:Nat)⟩ (Bq (DE S k) (DE S L[j]) p).1).2.full,sl Az dec,sl Ae (AI dec),.msl 1004 st.length]),(1001,.tok 6 (D5 S ⟨3,p,0,0,(k:Nat),(L[j]:Nat)⟩ (Bq (DE S k) (DE S L[j]) p).1).2.infs.length),(1002,.tok 1 (D5 S ⟨3,p,0,0,(k:Nat),(L[j]:Nat)⟩ (Bq (DE S k) (DE S L[j]) p).1).2.drv.length),(1003,.map DO (DR 0 (D5 S ⟨3,p,0,0,(k:Nat),(L[j]:Nat)⟩ (Bq (DE S k) (DE S L[j]) p).1).2.infs)),(1004,.arr 1 (st.map AR))],Aa⟩ (Yi ⟨Z6,Z6,Fh,Aw (by kernel_rfl)⟩ ?_)
   refine Yi (Ii j (by omega)) ?_;obtain⟨a1,a2,a3⟩:=j3.add (Ut (x:=x) (roots:=roots) (p:=p) j4 (j5 _ (At n4)) RV);refine Xi ⟨(j+1,(D5 S ⟨3,p,0,0,(k:Nat),(L[j]:Nat)⟩ (Bq (DE S k) (DE S L[j]) p).1).1,(D5 S ⟨3,p,0,0,(k:Nat),(L[j]:Nat)⟩ (Bq (DE S k) (DE S L[j]) p).1).2),Fi n4,by rw[←(bw (s:=S) (p:=p) (L:=L) (j:=j) (k:=k) n4 (by rw[h5,h7];simp) (by have q:=h8;omega) RV)];exact j2,a1,a2,fun r hr=>Bu (j5 r hr) a3⟩ ?_;exact⟨Dl L.length j (by omega),Z6,Z6,Fh,Aw (by kernel_rfl)⟩
  have h7:(CP (DE S k) p)=false:=h7;refine Xi .pure (Xi _ (Yi (cb h7 (ir (DE S k) p (EX (rI _ (Ar (EQ j4)))))) ?_));refine Xi ⟨[(9,vi k)],[(1000,.cells (srM roots C A S dec 1004 st.length)),(1001,.tok 6 S.infs.length),(1002,.tok 1 S.drv.length),(1003,.map DO (DR 0 S.infs)),(1004,.arr 1 (st.map AR))],Aa⟩ (Yi ⟨Z1,Z5,Fh,Aw (by kernel_rfl)⟩ ?_)
  have eR:Ca p L (Bh s n).1 (Ed x p (Bh s n).2).2=(k,S):=by rw[←j2];exact Sy n4 (.inr h7)
  have eL:DX x p n rs s=(k,S):=by unfold DX;rw[←hL];exact eR
  exact Xi _ (Yi (.refl _) (Yi (show vi (k:Int)=vi (((DX x p n rs s).1:Nat):Int) by rw[eL]) (show Aj (IR roots C A S dec st) Aa=Aj (IR roots C A (DX x p n rs s).2 dec st) Aa by rw[eL])))
 have h4:¬((j:Int)<((L.map BJ).length:Int)):=h4;have n4:=MA h4;have hj:¬j<L.length:=by have q:=h4;rw[Lm]at q;omega
 have eR:Ca p L (Bh s n).1 (Ed x p (Bh s n).2).2=(k,S):=by rw[←j2,FB (by omega)];rfl
 have eL:DX x p n rs s=(k,S):=by unfold DX;rw[←hL];exact eR
 exact Xi _ (Yi (.refl _) (Yi (show vi (k:Int)=vi (((DX x p n rs s).1:Nat):Int) by rw[eL]) (show Aj (IR roots C A S dec st) Aa=Aj (IR roots C A (DX x p n rs s).2 dec st) Aa by rw[eL])))
abbrev XX:II:=[(1000,1000),(1001,1001),(1002,1002),(1003,1003),(500,1004)]
abbrev r7(roots:List Rq)(C A:List (Value×AV))(s:SS)(dec:List Cd)(st:List (List Sk)):List (Nat×HO) :=
 [(1000,.cells (srM roots C A s dec 2000 st.length)),(1001,.tok 6 s.infs.length),(1002,.tok 1 s.drv.length),(1003,.map DO (DR 0 s.infs)),(1004,.dead),(2000,.arr 1 (st.map AR))]
abbrev XY(roots:List Rq)(C A:List (Value×AV))(o:JJ)(r:AV)(h' : Nat→HO):Prop:=r=.tup [vi (o.res:Nat),vb o.found]∧h'=Aj (r7 roots C A o.ss o.dec o.stack) Aa
def xX(roots:List Rq)(C A:List (Value×AV)):Prop:=∀(s:SS) (dec:List Cd) (st:List (List Sk)),dec.length≤1000→(∀c∈dec,c.rel.reqs.length≤1073741824) →
 A3 Tryz.prog 87 [.ref 1000 0] (Aj (IR roots C A s dec st) Aa) fun r h'=>r=.tup [vs (Gs roots dec).1,sl A6 (Gs roots dec).2]∧h'=Aj (IR roots C A s dec st) Aa
theorem MX{roots:List Rq}{C A:List (Value×AV)}{o:JJ}{k:Nat}{b:Bool}{s:SS}{dec:List Cd}{st:List (List Sk)}(e:o=⟨k,b,s,dec,st⟩) :
  AV.tup [vi (k:Nat),vb b]=.tup [vi (o.res:Nat),vb o.found]∧Aj (r7 roots C A s dec st) Aa=Aj (r7 roots C A o.ss o.dec o.stack) Aa:=by rw[e];exact Zr
abbrev XV:II:=[(1000,1000),(1001,1001),(1002,1002),(1003,1003),(1004,1004),(1005,1005),(1006,1006),(1007,1007),(1008,1008),(1009,1009)]
def FX(roots:List Rq)(dec:List Cd)(m:Nat):ByteArray×List Nd:=((Dk roots dec).take m).foldl (Ea dec) (mt,[])
theorem Xx{roots:List Rq}{dec:List Cd}{m:Nat}{n:Nd}(h:(Dk roots dec)[m]?=some n):FX roots dec (m+1)=Ea dec (FX roots dec m) n:=by
 unfold FX;rw[Bn,h,Ff];rfl
theorem jK{roots:List Rq}{dec:List Cd}{m:Nat}(h:(Dk roots dec).length≤m):FX roots dec m=Gs roots dec:=by
 unfold FX Gs;rw[AD h]
def EW(roots:List Rq)(dec:List Cd)(j:Nat):Nat:=roots.length+((dec.take j).map fun c=>c.rel.reqs.length).sum
theorem SW(c:Cd):(Pu c).length=c.rel.reqs.length:=Kq _ _ _
theorem bM(roots:List Rq)(dec:List Cd):EW roots dec 0=roots.length:=by unfold EW;simp
theorem bL{roots:List Rq}{dec:List Cd}{j:Nat}(h:j<dec.length):EW roots dec (j+1)=EW roots dec j+dec[j].rel.reqs.length:=by
 unfold EW;rw[J5 h,Ay,List.sum_append];simp[Nat.add_assoc]
theorem XA(roots:List Rq)(dec:List Cd):EW roots dec dec.length=(Dk roots dec).length:=by
 unfold EW Dk XN;rw[DA,Ac,Kq,List.length_flatten,BK]
 congr 2
 exact Ba fun c _=>(SW c).symm
theorem bE{roots:List Rq}{dec:List Cd}{i:Nat}(h:i<roots.length):(Dk roots dec)[i]?=some ⟨roots[i],mt,0,(i:Nat)⟩:=by
 unfold Dk XN;rw[AY (by rw[Kq];exact h),Ox,Ge h,Fo,Bg]
theorem WS{α:Type}:∀{l:List (List α)} {j k:Nat} (hj:j<l.length),k<l[j].length→l.flatten[((l.take j).map List.length).sum+k]?=l[j][k]?
 |y::l,0,k,_,hk=>by
  rw[Bv,List.take_zero,ET,List.sum_nil,Bg,AY (show k<y.length from hk)];rfl
 |y::l,j+1,k,hj,hk=>by
  rw[Bv,IH,AJ,List.sum_cons,AZ (by omega)]
  have:=WS (l:=l) (j:=j) (k:=k) (by simpa using hj) hk
  rw[show y.length+((l.take j).map List.length).sum+k-y.length=((l.take j).map List.length).sum+k by omega,this]
  rfl
theorem fJ{roots:List Rq}{dec:List Cd}{j k:Nat}(hj:j<dec.length)(hk:k<dec[j].rel.reqs.length):(Dk roots dec)[EW roots dec j+k]?=some ⟨dec[j].rel.reqs[k],dec[j].rel.path,dec[j].place,(k:Nat)⟩:=by
 unfold Dk XN EW;rw[AZ (by rw[Kq];omega),Kq];have h:=WS (l:=dec.map Pu) (j:=j) (k:=k) (by simpa using hj) (by rw[List.getElem_map,SW];exact hk);rw[←List.map_take,BK,show(List.length ∘ Pu)=fun c=>c.rel.reqs.length from funext SW]at h;rw[show roots.length+((dec.take j).map fun c=>c.rel.reqs.length).sum+k-roots.length=((dec.take j).map fun c=>c.rel.reqs.length).sum+k by omega,h,List.getElem_map];unfold Pu;rw[Ox,Ge hk,Fo,Bg]
abbrev fR(roots:List Rq)(C A:List (Value×AV))(s:SS)(dec:List Cd)(st:List (List Sk))(m:Nat):List (Nat×HO) :=
  [(1000,.cells (r6 roots C A s dec st.length)),(1001,.tok 6 s.infs.length),(1002,.tok 1 s.drv.length),(1003,.map DO (DR 0 s.infs)),(1004,.arr 1 (st.map AR)),
   (1005,.cells [.ref 1000 0]),(1006,.cells [vs (FX roots dec m).1]),(1007,.cells [.slice (.ver 1008 5 m) ((FX roots dec m).2.map A6)]),(1008,.var 5 m ((FX roots dec m).2.map A6).length),(1009,.cells [.ref 1000 0])]
noncomputable abbrev yo(pl:Rk)(l:Nat)(Y:Gh→World→Prop):Cx:=⟨Tryz.prog,lg,pl,true,0,fun l' σ' g w=>l'=l→σ'=XV→Y g w⟩
theorem IA.pre{P:Program}{Y Y' : Gh→World→Prop}{l:Nat}{args:List AV}{h0:Nat→HO}{Q:AV→(Nat→HO)→Prop}(h:IA P Y l args h0 Q)(hp:∀g w,Y' g w→Y g w):IA P Y' l args h0 Q :=
 fun g w vals q1 q2 q3 q4=>h g w vals q1 q2 q3 (hp g w q4)
theorem vT(roots:List Rq)(C A:List (Value×AV))(s:SS)(dec:List Cd)(st:List (List Sk)):A3 Tryz.prog 117 [.ref 1000 0] (Aj (IR roots C A s dec st) Aa) fun r h'=>r=.clo 170 [.ref 2000 0]∧h'=Aj (IR roots C A s dec st++[(2000,.cells [.ref 1000 0])]) Aa:=by
 refine BV (Lh ⟨[],[],[],[],[],[],[],[],[],[],[]⟩) [(1000,1000),(1001,1001),(1002,1002),(1003,1003),(1004,1004),(1,2000)] rfl Cs hm rfl Tryz.func117 (by kernel_rfl) rfl (Nz rfl) (by kernel_rfl) rfl ?_;exact Xi _ (Yi (.refl _) Zr)
theorem vU{Y:Gh→World→Prop}(l:Nat)(roots:List Rq)(C A:List (Value×AV))(s:SS)(dec:List Cd)(st:List (List Sk))(hr:roots.length≤1073741824)(hd:dec.length≤1073741824)(nY:∀c∈dec,c.rel.reqs.length≤1073741824)
  (hy:∀m n,(Dk roots dec)[m]?=some n→IA Tryz.prog Y l [.agg (A6 n)] (Aj (fR roots C A s dec st m) Aa) fun r h'=>r=vb true∧h'=Aj (fR roots C A s dec st (m+1)) Aa) :
  Wl Tryz.prog Y XV 170 [.v (.func (.yield l) #[] #[]),.ref 1005 0] (Aj (fR roots C A s dec st 0) Aa) fun _ h'=>h'=Aj (fR roots C A s dec st (Dk roots dec).length) Aa:=by
 have hr:roots.length≤1073741824:=hr;refine fb (l:=l) (yo ⟨[],[],[],[],[],[],[],[],[],[],[4,12]⟩ l Y) XV rfl Cs hm rfl Tryz.func170 (by kernel_rfl) rfl (Nz rfl) (by kernel_rfl) rfl rfl ?_;refine Xi {i:Nat // i≤roots.length} (Xi (fun q=>⟨[(0,.v (.func (.yield l) #[] #[])),(1,.ref 1005 0),(12,sl AN roots),(13,vi (roots.map AN).length),(14,vi q.1)],[(1000,.cells (srM roots C A s dec 1004 st.length)),(1001,.tok 6 s.infs.length),(1002,.tok 1 s.drv.length),(1003,.map DO (DR 0 s.infs)),(1004,.arr 1 (st.map AR)),(1005,.cells [.ref 1000 0]),(1006,.cells [vs (FX roots dec q.1).1]),(1007,.cells [.slice (.ver 1008 5 q.1) ((FX roots dec q.1).2.map A6)]),(1008,.var 5 q.1 ((FX roots dec q.1).2.map A6).length),(1009,.cells [.ref 1000 0])],Aa⟩) (Xi (fun q=>roots.length-q.1) (Yi (Xi ⟨0,AO _⟩ ?_) ?_)))
 ·exact⟨Z5,Z10,Fh,Aw (by kernel_rfl)⟩
 intro⟨i,i1⟩;have i1:i≤roots.length:=i1;refine Yi (fun h1=>?_) (fun h1=>?_)
 ·have h1:(i:Int)<((roots.map AN).length:Int):=h1;have n1:=MB h1;refine Xi (AN roots[i]) (Yi (Wj n1) (Yi rfl ?_));refine Yi (Nz rfl) ?_;refine Yi (Nz rfl) ?_;refine Yi (Nz rfl) ?_;refine Xi (.gen XV 0) (Yi rfl (IA.imp (IA.pre (hy i ⟨roots[i],mt,0,(i:Nat)⟩ (bE n1)) (fun g w q=>q rfl rfl)) ?_));intro v2 g2 q2;have vt:=q2.1;have vu:=q2.2;subst vt;subst vu;refine Xi ⟨[(0,.v (.func (.yield l) #[] #[])),(1,.ref 1005 0),(12,sl AN roots),(13,vi (roots.map AN).length),(14,vi i)],[(1000,.cells (srM roots C A s dec 1004 st.length)),(1001,.tok 6 s.infs.length),(1002,.tok 1 s.drv.length),(1003,.map DO (DR 0 s.infs)),(1004,.arr 1 (st.map AR)),(1005,.cells [.ref 1000 0]),(1006,.cells [vs (FX roots dec (i+1)).1]),(1007,.cells [.slice (.ver 1008 5 (i+1)) ((FX roots dec (i+1)).2.map A6)]),(1008,.var 5 (i+1) ((FX roots dec (i+1)).2.map A6).length),(1009,.cells [.ref 1000 0])],Aa⟩ (Yi ⟨Z5,Z10,Fh,Aw (by kernel_rfl)⟩ ?_)
  refine Yi (Ii i (by omega)) ?_;refine Xi ⟨i+1,by omega⟩ ?_;exact⟨Dl roots.length i (by omega),Z5,Z10,Fh,Aw (by kernel_rfl)⟩
 have h1:¬((i:Int)<((roots.map AN).length:Int)):=h1;have n1:=MA h1;have hE:i=EW roots dec 0:=by rw[bM];omega
 refine Xi {j:Nat // j≤dec.length} (Xi (fun q=>⟨[(0,.v (.func (.yield l) #[] #[])),(29,sl Az dec),(30,vi (dec.map Az).length),(31,vi q.1)],[(1000,.cells (srM roots C A s dec 1004 st.length)),(1001,.tok 6 s.infs.length),(1002,.tok 1 s.drv.length),(1003,.map DO (DR 0 s.infs)),(1004,.arr 1 (st.map AR)),(1005,.cells [.ref 1000 0]),(1006,.cells [vs (FX roots dec (EW roots dec q.1)).1]),(1007,.cells [.slice (.ver 1008 5 (EW roots dec q.1)) ((FX roots dec (EW roots dec q.1)).2.map A6)]),(1008,.var 5 (EW roots dec q.1) ((FX roots dec (EW roots dec q.1)).2.map A6).length),(1009,.cells [.ref 1000 0])],Aa⟩) (Xi (fun q=>dec.length-q.1) (Yi (Xi ⟨0,AO _⟩ ?_) ?_)))
 ·exact⟨Z4,⟨Zr,Zr,Zr,Zr,Zr,Zr,⟨(show .cells [vs (FX roots dec i).1]=(.cells [vs (FX roots dec (EW roots dec 0)).1]:HO) by rw[hE]),rfl⟩,⟨(show .cells [.slice (.ver 1008 5 i) ((FX roots dec i).2.map A6)]=(.cells [.slice (.ver 1008 5 (EW roots dec 0)) ((FX roots dec (EW roots dec 0)).2.map A6)]:HO) by rw[hE]),rfl⟩,⟨(show .var 5 i ((FX roots dec i).2.map A6).length=(.var 5 (EW roots dec 0) ((FX roots dec (EW roots dec 0)).2.map A6).length:HO) by rw[hE]),rfl⟩,Zr,Tv⟩,Fh,Aw (by kernel_rfl)⟩
 intro⟨j,j1⟩;have j1:j≤dec.length:=j1;refine Yi (fun h4=>?_) (fun h4=>?_)
 ·have h4:(j:Int)<((dec.map Az).length:Int):=h4;have n4:=MB h4;have rG:=nY dec[j] (At n4);refine Xi (Az dec[j]) (Yi (Wj n4) (Yi rfl ?_));refine Yi (Nz rfl) ?_;refine Yi (Nz rfl) ?_;refine Xi {k:Nat // k≤dec[j].rel.reqs.length} (Xi (fun q=>⟨[(0,.v (.func (.yield l) #[] #[])),(6,.ref 6 0),(29,sl Az dec),(30,vi (dec.map Az).length),(31,vi j),(37,sl AN dec[j].rel.reqs),(38,vi (dec[j].rel.reqs.map AN).length),(39,vi q.1)],[(6,.cells (Az dec[j])),(1000,.cells (srM roots C A s dec 1004 st.length)),(1001,.tok 6 s.infs.length),(1002,.tok 1 s.drv.length),(1003,.map DO (DR 0 s.infs)),(1004,.arr 1 (st.map AR)),(1005,.cells [.ref 1000 0]),(1006,.cells [vs (FX roots dec (EW roots dec j+q.1)).1]),(1007,.cells [.slice (.ver 1008 5 (EW roots dec j+q.1)) ((FX roots dec (EW roots dec j+q.1)).2.map A6)]),(1008,.var 5 (EW roots dec j+q.1) ((FX roots dec (EW roots dec j+q.1)).2.map A6).length),(1009,.cells [.ref 1000 0])],Aa⟩) (Xi (fun q=>dec[j].rel.reqs.length-q.1) (Yi (Xi ⟨0,AO _⟩ ?_) ?_)))
  ·exact⟨Z8,Z11,Fh,Aw (by kernel_rfl)⟩
  intro⟨k,k1⟩;have k1:k≤dec[j].rel.reqs.length:=k1;refine Yi (fun h5=>?_) (fun h5=>?_)
  ·have h5:(k:Int)<((dec[j].rel.reqs.map AN).length:Int):=h5;have n5:=MB h5;refine Xi (AN dec[j].rel.reqs[k]) (Yi (Wj n5) (Yi rfl ?_));refine Yi (Nz rfl) ?_;refine Yi (Nz rfl) ?_;refine Yi (Nz rfl) ?_;refine Xi (.gen XV 0) (Yi rfl (IA.imp (IA.pre (hy (EW roots dec j+k) ⟨dec[j].rel.reqs[k],dec[j].rel.path,dec[j].place,(k:Nat)⟩ (fJ n4 n5)) (fun g w q=>q rfl rfl)) ?_));intro v6 g6 q6;have vH:=q6.1;have vI:=q6.2;subst vH;subst vI;refine Xi ⟨[(0,.v (.func (.yield l) #[] #[])),(6,.ref 6 0),(29,sl Az dec),(30,vi (dec.map Az).length),(31,vi j),(37,sl AN dec[j].rel.reqs),(38,vi (dec[j].rel.reqs.map AN).length),(39,vi k)],[(6,.cells (Az dec[j])),(1000,.cells (srM roots C A s dec 1004 st.length)),(1001,.tok 6 s.infs.length),(1002,.tok 1 s.drv.length),(1003,.map DO (DR 0 s.infs)),(1004,.arr 1 (st.map AR)),(1005,.cells [.ref 1000 0]),(1006,.cells [vs (FX roots dec (EW roots dec j+(k+1))).1]),(1007,.cells [.slice (.ver 1008 5 (EW roots dec j+(k+1))) ((FX roots dec (EW roots dec j+(k+1))).2.map A6)]),(1008,.var 5 (EW roots dec j+(k+1)) ((FX roots dec (EW roots dec j+(k+1))).2.map A6).length),(1009,.cells [.ref 1000 0])],Aa⟩ (Yi ⟨Z8,Z11,Fh,Aw (by kernel_rfl)⟩ ?_)
   refine Yi (Ii k (by omega)) ?_;refine Xi ⟨k+1,by omega⟩ ?_;exact⟨by show dec[j].rel.reqs.length-(k+1)<dec[j].rel.reqs.length-k;omega,Z8,Z11,Fh,Aw (by kernel_rfl)⟩
  have h5:¬((k:Int)<((dec[j].rel.reqs.map AN).length:Int)):=h5;have n5:=MA h5;refine Yi (Ii j (by omega)) ?_;have hE:EW roots dec j+k=EW roots dec (j+1):=by rw[bL n4];omega
  refine Xi ⟨j+1,by omega⟩ ?_;exact⟨Dl dec.length j (by omega),Z4,⟨Zr,Zr,Zr,Zr,Zr,Zr,⟨(show .cells [vs (FX roots dec (EW roots dec j+k)).1]=(.cells [vs (FX roots dec (EW roots dec (j+1))).1]:HO) by rw[hE]),rfl⟩,⟨(show .cells [.slice (.ver 1008 5 (EW roots dec j+k)) ((FX roots dec (EW roots dec j+k)).2.map A6)]=(.cells [.slice (.ver 1008 5 (EW roots dec (j+1))) ((FX roots dec (EW roots dec (j+1))).2.map A6)]:HO) by rw[hE]),rfl⟩,⟨(show .var 5 (EW roots dec j+k) ((FX roots dec (EW roots dec j+k)).2.map A6).length=(.var 5 (EW roots dec (j+1)) ((FX roots dec (EW roots dec (j+1))).2.map A6).length:HO) by rw[hE]),rfl⟩,Zr,Tv⟩,Fh,Aw (by kernel_rfl)⟩
 have h4:¬((j:Int)<((dec.map Az).length:Int)):=h4;have n4:=MA h4;exact Ad (fun m=>Aj (fR roots C A s dec st m) Aa) (show EW roots dec j=(Dk roots dec).length by rw[←XA];congr 1;omega)
theorem m5{h:Nat→HO}{o k r sz:Nat}{cs:List AV}{K:(Nat→HO)→Prop}(c1:h o=.cells cs)(c2:IQ cs k=.v (.slice none 0 0))(c3:h r=.free)(hk:K (AU (AU h r (.var sz 0 0)) o (.cells (Es cs k (.slice (.ver r sz 0) []))))):oh h o k r sz K:=by
 unfold oh;rw[c1];show match IQ cs k with
  |.v (.slice none 0 0)=>match h r with
   |.free=>K (AU (AU h r (.var sz 0 0)) o (.cells (Es cs k (.slice (.ver r sz 0) []))))
   |_=>False
  |_=>False
 rw[c2,c3];exact hk
theorem ns{o k r0 sz:Nat}{aJ:Cx}{P:Program}{N:Nat}{fn:Func}{σ:II}{Q:AV→(Nat→HO)→Prop}{b rest:Code}{st:St}(cs:List AV)(c1:st.h o=.cells cs)(c2:IQ cs k=.v (.slice none 0 0))(c3:st.h r0=.free)(σF σr:II)(H0 Hn:List (Nat×HO))(gf:Nat)(caps:List AV)
  {kr s:Nat} {ps:Array Tmp} {Gq body:Code} (hb:b=.block kr (.rangeFunc (.tmp s) ps Gq body)) (k1:(Ee σF&&Dv (AU (AU st.h r0 (.var sz 0 0)) o (.cells (Es cs k (.slice (.ver r0 sz 0) [])))) 0 0&&Df σF 0 0)=true) (k2:Fp σF (AU (AU st.h r0 (.var sz 0 0)) o (.cells (Es cs k (.slice (.ver r0 sz 0) []))))=Aj H0 Aa) (k3:(Gv σr&&If σr H0)=true) (k4:If σr Hn=true)
  (k5:ren (Cj σF) (AU (AU st.h r0 (.var sz 0 0)) o (.cells (Es cs k (.slice (.ver r0 sz 0) [])))) (st.t s)=.clo gf caps)
  (k6:∀(l D:Nat) (f' : FuncId) (tm:Array Value),tm.size=N→Wl P (fun g w=>w.heap[l]?=some (.loop (HH f' tm ps Gq body D .ready))∧∀i,BC g w (AQ (Aj H0 Aa)) (ren (Cj σF) (AU (AU st.h r0 (.var sz 0 0)) o (.cells (Es cs k (.slice (.ver r0 sz 0) [])))) (st.t i)) (tm.getD i undef)) σr gf
   (.v (.func (.yield l) #[] #[])::caps) (Aj H0 Aa) fun _ h'=>h'=Aj Hn Aa)
  (k7:Ek N rest=true) (k8:Qz aJ rest (WI aJ fn.results.toList σr fun r h'=>Q (ren (Cj σ) (DZ σF 0 0 (AU (AU st.h r0 (.var sz 0 0)) o (.cells (Es cs k (.slice (.ver r0 sz 0) [])))) h') (ren (EV σF 0 0) h' r)) (Fp σ (DZ σF 0 0 (AU (AU st.h r0 (.var sz 0 0)) o (.cells (Es cs k (.slice (.ver r0 sz 0) [])))) h')))
   ⟨fun i=>ren (Cj σF) (AU (AU st.h r0 (.var sz 0 0)) o (.cells (Es cs k (.slice (.ver r0 sz 0) [])))) (st.t i),Aj Hn Aa⟩) (k9:NR [] body=false:=by kernel_rfl):sd o k r0 sz aJ P N fn σ Q b rest st :=
 m5 c1 c2 c3 ⟨σF,σr,H0,Hn,kr,s,ps,Gq,body,gf,caps,hb,k1,k2,k3,k4,k5,k6,k7,k9,k8⟩
section
variable {roots:List Rq}{C A:List (Value×AV)}{s:SS}{dec:List Cd}{st:List (List Sk)}{n:Nd}
theorem SK{m:Nat}{p:ByteArray}{o:List Nd}(e:FX roots dec (m+1)=(p,o)){es:List (List AV)}{k:Nat}(h1:es=o.map A6)(h2:k=es.length) :
  Aj [(1000,.cells (r6 roots C A s dec st.length)),(1001,.tok 6 s.infs.length),(1002,.tok 1 s.drv.length),(1003,.map DO (DR 0 s.infs)),(1004,.arr 1 (st.map AR)),
   (1005,.cells [.ref 1000 0]),(1006,.cells [vs p]),(1007,.cells [.slice (.ver 1008 5 (m+1)) es]),(1008,.var 5 (m+1) k),(1009,.cells [.ref 1000 0])] Aa=Aj (fR roots C A s dec st (m+1)) Aa:=by
 subst h1;subst h2
 rw[show fR roots C A s dec st (m+1)=[(1000,.cells (r6 roots C A s dec st.length)),(1001,.tok 6 s.infs.length),(1002,.tok 1 s.drv.length),(1003,.map DO (DR 0 s.infs)),(1004,.arr 1 (st.map AR)),
   (1005,.cells [.ref 1000 0]),(1006,.cells [vs (FX roots dec (m+1)).1]),(1007,.cells [.slice (.ver 1008 5 (m+1)) ((FX roots dec (m+1)).2.map A6)]),(1008,.var 5 (m+1) ((FX roots dec (m+1)).2.map A6).length),(1009,.cells [.ref 1000 0])]from rfl,e]
theorem fT{a:ByteArray×List Nd}(h:CY dec n.rq.path=true):Ea dec a n=(a.1,a.2):=by unfold Ea;rw[Ao (.inl h)]
theorem fI{o:List Nd}(h:(0:Int)<((o.map A6).length:Int)):o≠[]:=fun e=>by subst e;simp at h
theorem jG{o:List Nd}(h:¬(0:Int)<((o.map A6).length:Int)):o=[]:=by
 cases o with
 |nil=>rfl
 |cons y l=>exact absurd (by simp) h
theorem jL{a:ByteArray×List Nd}(h:(0:Int)<((a.2.map A6).length:Int))(hb:En a.1 n.rq.path=true):Ea dec a n=(a.1,a.2):=by unfold Ea;rw[Ao (.inr ⟨fI h,hb⟩)]
theorem fU{a:ByteArray×List Nd}(hd:CY dec n.rq.path=false)(h:(0:Int)<((a.2.map A6).length:Int))(hb:En a.1 n.rq.path=false)(hs:En n.rq.path a.1=true):Ea dec a n=(n.rq.path,[n]):=by
 unfold Ea;rw[Ai (by rw[hd,hb];simp),Ao ⟨fI h,hs⟩]
theorem fV{a:ByteArray×List Nd}(hd:CY dec n.rq.path=false)(hb:En a.1 n.rq.path=false)(hs:En n.rq.path a.1=false):Ea dec a n=(n.rq.path,a.2++[n]):=by
 unfold Ea;rw[Ai (by rw[hd,hb];simp),Ai (by rw[hs];simp)]
theorem jN{a:ByteArray×List Nd}(hd:CY dec n.rq.path=false)(h:¬(0:Int)<((a.2.map A6).length:Int)):Ea dec a n=(n.rq.path,a.2++[n]):=by
 have:=jG h
 unfold Ea;rw[Ai (by rw[hd,this];simp),Ai (by rw[this];simp)]
theorem jM(a:ByteArray×List Nd)(n:Nd):(Ea dec a n).2.length≤a.2.length+1:=by
 unfold Ea;split
 ·omega
 ·split
  ·simp
  ·simp
theorem ZH:∀(m:Nat),(FX roots dec m).2.length≤m
 |0=>Am _
 |m+1=>by
  have ih:=ZH m;cases h:(Dk roots dec)[m]? with
  |none =>
   have e:FX roots dec (m+1)=FX roots dec m:=by unfold FX;rw[Bn,h];simp
   rw[e];omega
  |some n=>rw[Xx h];exact Br (jM _ _) (Ej ih)
theorem XR:∀{l l' : List (Nat×HO)},l.map Prod.fst=l'.map Prod.fst→(∀p∈l',p.2≠.free)→∀i,AQ (Aj l Aa) i→AQ (Aj l' Aa) i
 | [],[],_,_,_,h=>h
 |(a,o)::l,(a',o')::l',e,h,i,hu=>by
  rw[AJ,AJ]at e
  injection e with e1 e2
  have e1:a=a':=e1;subst e1;unfold AQ at *
  by_cases q:i=a
  ·subst q;simp only[Aj,CJ,Ju];exact h _ (Ab ..)
  ·simp only[Aj,Cz q,Ef]at hu⊢;exact XR e2 (fun p hp=>h p (Ag _ hp)) i hu
theorem fS(m:Nat):∀i,AQ (Aj (fR roots C A s dec st 0) Aa) i→AQ (Aj (fR roots C A s dec st m) Aa) i:=XR rfl (by
 repeat (first | exact Dh _ | refine CW.2 ⟨by simp,?_⟩))
theorem ZY:∀{l:List Cd},(∀c∈l,c.rel.reqs.length≤1073741824)→((l.map fun c=>c.rel.reqs.length)).sum≤l.length*1073741824
 | [],_=>by simp
 |c::l,h=>by
  have h1:=h c (Ab ..);have h2:=ZY fun c hc=>h c (Ag _ hc);rw[AJ,List.sum_cons,Ax];omega
theorem bF(hr:roots.length≤1073741824)(hd:dec.length≤1000)(h:∀c∈dec,c.rel.reqs.length≤1073741824):(Dk roots dec).length≤1074815565824:=by
 rw[←XA];unfold EW;rw[DA]
 have:=ZY h
 have:=Be 1073741824 hd
 omega
end
theorem Xm(l:List Nd)(n:Nd):l.map A6++[A6 n]=(l++[n]).map A6:=by rw[Ay];rfl
theorem Ol(l:List Nd)(n:Nd):(l.map A6).length+([A6 n]:List (List AV)).length=(l.map A6++[A6 n]).length:=Ac.symm
attribute [local irreducible] sd oh FX Dk Ea
theorem zZ(roots:List Rq)(C A:List (Value×AV))(s:SS)(dec:List Cd)(st:List (List Sk))(hr:roots.length≤1073741824)(hd:dec.length≤1000)(nY:∀c∈dec,c.rel.reqs.length≤1073741824) :
  A3 Tryz.prog 87 [.ref 1000 0] (Aj (IR roots C A s dec st) Aa) fun r h'=>r=.tup [vs (Gs roots dec).1,sl A6 (Gs roots dec).2]∧h'=Aj (IR roots C A s dec st) Aa:=by
 refine ai 5 0 9 5 (Lh ⟨[],[],[],[],[],[],[],[],[],[],[]⟩) (Lh Ga) XW rfl Cs rfl Cs hm rfl rfl Tryz.func87 (by kernel_rfl) rfl (Nz rfl) (by kernel_rfl) rfl 3 ?_;refine Yi (Nz rfl) ?_;refine Xi (.gen XW 1) (Yi rfl (A3.imp (vT roots C A s dec st) ?_));intro v1 g1 q1;have jY:=q1.1;have jZ:=q1.2;subst jY;subst jZ;refine ns [.v (.slice none 0 0)] (by kernel_rfl) (by kernel_rfl) (by kernel_rfl) [(1000,1000),(1001,1001),(1002,1002),(1003,1003),(1004,1004),(10800,1005),(4,1006),(5,1007),(9,1008),(1,1009)] XV (fR roots C A s dec st 0) (fR roots C A s dec st (Dk roots dec).length) 170 [.ref 1005 0] rfl (by kernel_rfl) (by kernel_rfl) (by kernel_rfl) (by kernel_rfl) (by kernel_rfl) (fun l9 D9 f9 tm9 rS=>vU l9 roots C A s dec st hr (Br hd (by decide)) nY fun m n hn=>cC (σ:=XV) 1007 0 1008 (Lh ⟨[],[(43,5)],[],[],[],[],[],[],[],[(500005,60001007)],[5]⟩) rfl Cs hm rfl rfl rfl rS (by kernel_rfl) (by kernel_rfl) (by kernel_rfl) (fS m) ?_) (by kernel_rfl) ?_
 ·have xh:m<(Dk roots dec).length:=(Ap.1 hn).1;have hol:=ZH (roots:=roots) (dec:=dec) m;have hnl:=bF hr hd nY;have hF:=Xx hn;refine Yi (Nz rfl) ?_;refine Yi ⟨rfl,rfl⟩ ?_;refine Xi ⟨[(1,.ref 1009 0),(4,.ref 1006 0),(5,.ref 1007 0),(6,.ref 6 0)],[(6,.cells (A6 n)),(60,.tok 5 ((FX roots dec m).2.map A6).length),(1000,.cells (srM roots C A s dec 1004 st.length)),(1001,.tok 6 s.infs.length),(1002,.tok 1 s.drv.length),(1003,.map DO (DR 0 s.infs)),(1004,.arr 1 (st.map AR)),(1005,.cells [.ref 1000 0]),(1006,.cells [vs (FX roots dec m).1]),(1007,.cells [.slice (.id 60 5) ((FX roots dec m).2.map A6)]),(1008,.vox m),(1009,.cells [.ref 1000 0])],Aa⟩ (Yi ⟨Z4,Z12,Fh,Aw (by kernel_rfl)⟩ ?_)
  refine Dj (Bt (CY dec n.rq.path)) (fun h2=>?_) (fun h2=>?_)
  ·have h2:(CY dec n.rq.path)=true:=h2;have kH:=(qU roots C A s dec st n.rq.path (Br hd (by decide)));rw[show(CY dec n.rq.path)=true from h2]at kH;refine Xi (.gen XW 0) (Yi rfl (A3.imp kH ?_));intro v4 g4 q4;have vF:=q4.1;have vG:=q4.2;subst vF;subst vG;refine Yi ⟨rfl,rfl⟩ ?_
   -- [('(CY dec n.rq.path)=true',True)]
   exact⟨rfl,SK (hF.trans (fT h2)) rfl rfl⟩
  have h2:(CY dec n.rq.path)=false:=h2;have wU:=(qU roots C A s dec st n.rq.path (Br hd (by decide)));rw[show(CY dec n.rq.path)=false from h2]at wU;refine Xi (.gen XW 0) (Yi rfl (A3.imp wU ?_));intro v6 g6 q6;have vH:=q6.1;have vI:=q6.2;subst vH;subst vI;refine Yi (fun h7=>?_) (fun h7=>?_)
  ·have h7:(0:Int)<(((FX roots dec m).2.map A6).length:Int):=h7;have n7:0<(FX roots dec m).2.length:=by have q:=h7;rw[Lm]at q;omega
   refine Yi (fun h8=>?_) (fun h8=>?_)
   ·have h8:En (FX roots dec m).1 n.rq.path=true:=(GM _ _).trans h8;refine Yi ⟨rfl,rfl⟩ ?_
    -- [('(CY dec n.rq.path)=true',False),('(0:Int)<(((FX roots dec m).2.map A6).length:Int)',True),('En (FX roots dec m).1 n.rq.path=true',True)]
    exact⟨rfl,SK (hF.trans (jL h7 h8)) rfl rfl⟩
   have h8:En (FX roots dec m).1 n.rq.path=false:=(GM _ _).trans (AK.2 h8);refine Yi (fun _=>?_) (fun hf=>absurd h7 hf);refine Yi (fun h9=>?_) (fun h9=>?_)
   ·have h9:En n.rq.path (FX roots dec m).1=true:=(GM _ _).trans h9;refine Yi (Nz rfl) ?_;refine Yi (Nz rfl) ?_;refine Yi (Nz rfl) ?_;have XT:De 5 [(A6 n)]∧([(A6 n)]:List (List AV)).length*72≤140737488355328∧([(A6 n)]:List (List AV)).length≤9223372036854775807:=⟨⟨rfl,trivial⟩,(by simp only[Ax,AF];omega),(by simp only[Ax,AF];omega)⟩;refine Yi XT ?_;refine Yi (Nz rfl) ?_;refine Yi ⟨rfl,rfl⟩ ?_
    -- [('(CY dec n.rq.path)=true',False),('(0:Int)<(((FX roots dec m).2.map A6).length:Int)',True),('En (FX roots dec m).1 n.rq.path=true',False),('En n.rq.path (FX roots dec m).1=true',True)]
    exact⟨rfl,SK (hF.trans (fU h2 h7 h8 h9)) rfl rfl⟩
   have h9:En n.rq.path (FX roots dec m).1=false:=(GM _ _).trans (AK.2 h9);refine Yi (Nz rfl) ?_;refine Yi (Nz rfl) ?_;have lI:De 5 [(A6 n)]∧((FX roots dec m).2.map A6).length=((FX roots dec m).2.map A6).length∧(((FX roots dec m).2.map A6).length+([(A6 n)]:List (List AV)).length)*72≤140737488355328∧((FX roots dec m).2.map A6).length+([(A6 n)]:List (List AV)).length≤9223372036854775807:=⟨⟨rfl,trivial⟩,rfl,(by simp only[Lm,Ax,AF];omega),(by simp only[Lm,Ax,AF];omega)⟩;refine Yi lI ?_;refine Yi (Nz rfl) ?_;refine Yi ⟨(Ol _ n).symm,rfl⟩ ?_
   -- [('(CY dec n.rq.path)=true',False),('(0:Int)<(((FX roots dec m).2.map A6).length:Int)',True),('En (FX roots dec m).1 n.rq.path=true',False),('En n.rq.path (FX roots dec m).1=true',False)]
   exact⟨rfl,SK (hF.trans (fV h2 h8 h9)) (Xm _ n) (Ol _ n)⟩
  have h7:¬((0:Int)<(((FX roots dec m).2.map A6).length:Int)):=h7;have n7:¬0<(FX roots dec m).2.length:=by have q:=h7;rw[Lm]at q;omega
  refine Yi (fun hf=>absurd hf h7) (fun _=>?_);refine Yi (Nz rfl) ?_;refine Yi (Nz rfl) ?_;have rp:De 5 [(A6 n)]∧((FX roots dec m).2.map A6).length=((FX roots dec m).2.map A6).length∧(((FX roots dec m).2.map A6).length+([(A6 n)]:List (List AV)).length)*72≤140737488355328∧((FX roots dec m).2.map A6).length+([(A6 n)]:List (List AV)).length≤9223372036854775807:=⟨⟨rfl,trivial⟩,rfl,(by simp only[Lm,Ax,AF];omega),(by simp only[Lm,Ax,AF];omega)⟩;refine Yi rp ?_;refine Yi (Nz rfl) ?_;refine Yi ⟨(Ol _ n).symm,rfl⟩ ?_
  -- [('(CY dec n.rq.path)=true',False),('(0:Int)<(((FX roots dec m).2.map A6).length:Int)',False)]
  exact⟨rfl,SK (hF.trans (jN h2 h7)) (Xm _ n) (Ol _ n)⟩
 refine Yi (by kernel_rfl) ?_;exact Xi _ (Yi (.refl _) ⟨show AV.tup [vs (FX roots dec (Dk roots dec).length).1,sl A6 (FX roots dec (Dk roots dec).length).2]=_ by rw[jK (Am _)],rfl⟩)
end Go.Eng
