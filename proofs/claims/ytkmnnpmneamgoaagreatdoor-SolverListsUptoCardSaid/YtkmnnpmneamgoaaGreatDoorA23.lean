/- Lemmas for the claims of this seat, without a condition: part 23 (S5, S8a, S9, S10, S8b). -/
import Derived.Test.YtkmnnpmneamgoaaGreatDoorA22
import Derived.Test.YtkmnnpmneamgoaaGreatDoorA16
namespace Go.Eng
open Go.Proofs
theorem Ov{x:List Rl}{roots:List Rq}{l0:List Nf}:∀{l:List Nf} {d d' : List (List Tm)},(∀i∈l,i∈l0)→(∀t∈d,Uy (Kj x roots l0) t)→Dr x roots l d=some d'→∀t∈d',Uy (Kj x roots l0) t
 | [],d,d',_,hd,h=>by cases h;exact hd
 |i::l,d,d',hl,hd,h=>by
  unfold Dr at h;cases hi:DS x roots d i with
  |none=>rw[hi]at h;cases h
  |some t =>
   rw[hi]at h;refine Ov (fun j hj=>hl j (Ai _ hj)) (fun u hu=>?_) h;rcases A5.1 hu with hu | hu
   ·exact hd u hu
   ·rw[Au.1 hu];exact cD (hl i (Ab ..)) hd hi
section
variable {x:List Rl}{roots:List Rq}{s:SS}
theorem FC.few(hx:A7 x=0)(hr:Bm roots=0)(h:FC x roots s):∀t∈s.drv,mL t:=fun t ht =>
 (Ov (l0:=s.infs) (fun _ h=>h) (fun _ h=>by cases h) h.der t ht).fewI (ZN hx hr h.len)
theorem H5{i:Nf}{l:List Tm}(h:s.infs.Nodup):(Eh s i l).2.infs.Nodup:=by
 cases hk:LW i 0 s.infs with
 |some k=>rw[WZ hk];exact h
 |none =>
  by_cases hf:65536≤s.infs.length
  ·rw[UD hk hf];exact h
  ·rw[WY hk hf];show(s.infs++[i]).Nodup;rw[Gt];refine⟨h,by simp,fun a ha b hb e=>?_⟩;rw[Au.1 hb]at e;exact Qb hk (e▸ha)
theorem JI.add(h:JI x roots s){i:Nf}{l:List Tm}(hi:DS x roots s.drv i=some l):JI x roots (Eh s i l).2∧(Eh s i l).1<(Eh s i l).2.drv.length∧s.drv.length≤(Eh s i l).2.drv.length :=
 ⟨⟨(Ku h.der hi).1,H5 h.nodup⟩,(Ku h.der hi).2.1,(Kv s i l).len⟩
theorem JI.dl(h:JI x roots s):s.infs.length≤65536∧s.drv.length=s.infs.length∧s.drv.length≤65536:=by
 have h1:=h.der.dlen;have h2:=h.der.len;exact⟨h2,h1,by omega⟩
theorem io(hx:A7 x=0)(p:ByteArray):∀d,DS x roots d ⟨2,p,0,0,0,0⟩=some (H1 p (Ce x p)):=fun d=>by
 obtain⟨u,u0,u1,hu⟩:=bq hx p;have hV:Gg []:=fun _ h=>by cases h
 have ou:WU [] p (Ki [] p (Pk u)):=.ver hV (E5 ⟨u0,u1⟩);have h1:Bi [(⟨p,false,En (Ce x p)⟩:Tm)] (Ki [] p (Pk u))=true:=by
  rw[BJ];intro t ht;rw[Au.1 ht];show Dt _ (BC (Ki [] p (Pk u)) p)=true;rw[Ie rfl];show(CH (Pk u)&&has (En (Ce x p)) (place (Pk u)))=true;rw[E5 ⟨u0,u1⟩,Hd,FN,hu];unfold LT;simp[u0,u1]
 have h2:Bi [(⟨p,false,En (Ce x p)⟩:Tm)] []=false:=rfl;have Dy:H1 p (Ce x p)≠[]:=by
  have c1:=Dh (l:=[(⟨p,false,En (Ce x p)⟩:Tm)]) ou.val;have c2:=Dh (l:=[(⟨p,false,En (Ce x p)⟩:Tm)]) hV;rw[h1]at c1;rw[h2]at c2;unfold H1 PZ;cases hc:CV [(⟨p,false,En (Ce x p)⟩:Tm)]with
  |none=>rw[hc]at c1;cases c1
  |some c =>
   rw[hc]at c2;intro e;have e:c=[]:=e;rw[e]at c2;cases c2
 unfold DS;rw[Ar (show ¬((2:Int)=0) by decide),Ar (show ¬((2:Int)=1) by decide),AB rfl,AB ⟨rfl,rfl,rfl,rfl⟩];unfold cQ;rw[Ar (by rw[F0];exact Dy)]
theorem E6{k:Nat}(h:k<s.drv.length):s.drv[k]?=some (DC s k):=by
 unfold DC;rw[B7,Ge h];rfl
theorem Th{p:ByteArray}{L:List Nat}{j k:Nat}(hj:j<L.length)(h:s.full=true∨Cy (DC s k) p=false):Cp p (L.drop j) k s=(k,s):=by
 rw[Bk hj];unfold Cp;rw[AB h]
theorem Zx{p:ByteArray}{L:List Nat}{j k:Nat}(hj:j<L.length)(h1:¬(s.full=true∨Cy (DC s k) p=false))(h:L[j]=k):Cp p (L.drop j) k s=Cp p (L.drop (j+1)) k s:=by
 rw[Bk hj]
 conv=>lhs;unfold Cp
 rw[Ar h1,AB h]
theorem cK{p:ByteArray}{L:List Nat}{j k:Nat}(hj:j<L.length)(h1:¬(s.full=true∨Cy (DC s k) p=false))(h2:¬L[j]=k)(h:(BE (DC s k) (DC s L[j]) p).2≠0):Cp p (L.drop j) k s=Cp p (L.drop (j+1)) k s:=by
 rw[Bk hj]
 conv=>lhs;unfold Cp
 rw[Ar h1,Ar h2,AB h]
theorem cJ{p:ByteArray}{L:List Nat}{j k:Nat}(hj:j<L.length)(h1:¬(s.full=true∨Cy (DC s k) p=false))(h2:¬L[j]=k)(h:(BE (DC s k) (DC s L[j]) p).2=0) :
  Cp p (L.drop j) k s=Cp p (L.drop (j+1)) (Eh s ⟨3,p,0,0,(k:Nat),(L[j]:Nat)⟩ (BE (DC s k) (DC s L[j]) p).1).1 (Eh s ⟨3,p,0,0,(k:Nat),(L[j]:Nat)⟩ (BE (DC s k) (DC s L[j]) p).1).2:=by
 rw[Bk hj]
 conv=>lhs;unfold Cp
 rw[Ar h1,Ar h2,Ar (fun h3=>h3 h)]
end
theorem Fk{t:List Tm}(h:mL t):CK t:=by have:=h.1;unfold CK;omega
set_option maxHeartbeats 4000000 in
theorem zU(x:List Rl)(roots:List Rq)(C A:List (Value×AV))(s:SS)(dec:List Cd)(st:List (List Sk))(p:ByteArray)(n:Nd)(rs:List Nat)(V:AV)(hx:A7 x=0)(hr:Bm roots=0)(hs:JI x roots s)(nW:∀d,DS x roots d (Tb n)=some (I4 n))(tA:∀r∈rs,r<s.drv.length)(hrl:rs.length≤1073741823)(hnq:CK n.rq.set)(hnp:Bf (n.place+1))
  (qM:∀a,(Value.string p,a)∈A→a=V) (qN:(∀a,(Value.string p,a)∉A)→V=.v (.slice none 0 0)) (qO:∀h,PC 137 [vs p,str h V] (sl AG (H1 p (Ce x p)))):Bo Tryz.prog 91 [.ref 1000 0,vs p,.agg (AT n),sl BF rs] (Af (HX roots C A s dec st) Aa) fun r h'=>mJ roots C A dec st (D3 x p n rs s) r h':=by
 have hw:=hs.dl;obtain⟨tB,pB,Ry⟩:=hs.add (nW s.drv)
 change JI x roots (Bh s n).2 at tB
 change (Bh s n).1<(Bh s n).2.drv.length at pB
 change s.drv.length≤(Bh s n).2.drv.length at Ry
 have K4:=tB.dl;obtain⟨pG,Ia,gv⟩:=tB.add (io hx p (Bh s n).2.drv)
 change JI x roots (Eo x p (Bh s n).2).2 at pG
 change (Eo x p (Bh s n).2).1<(Eo x p (Bh s n).2).2.drv.length at Ia
 change (Bh s n).2.drv.length≤(Eo x p (Bh s n).2).2.drv.length at gv
 obtain⟨L,hL⟩:∃L,L=(Eo x p (Bh s n).2).1::rs:=⟨_,rfl⟩;have hLr:∀r∈L,r<(Eo x p (Bh s n).2).2.drv.length:=fun r gE=>by
  rw[hL]at gE;rcases AF.1 gE with rfl | h
  ·exact Ia
  ·have:=tA r h;omega
 have vJ:L.length=rs.length+1:=by rw[hL];rfl
 have pB:(Bh s n).1<(Eo x p (Bh s n).2).2.drv.length:=by omega
 refine CF (MG ⟨[6],[],[],[],[],[],[],[],[],[],[2,3,7,8,10,12]⟩) [(1000,1000),(1001,1001),(1002,1002),(1003,1003),(1004,1004)] rfl CG hm rfl Tryz.func91 (by kernel_rfl) rfl (Nz rfl) (by kernel_rfl) rfl ?_;refine Yi (Nz rfl) ?_;refine Xi (.gen Ux 0) (Yi rfl (Bo.imp (yq roots C A s dec st n hw.1 hw.2.1 hs.nodup hnq hnp) ?_));intro v1 g1 q1;have ZT:=q1.1;have ZU:=q1.2;subst ZT;subst ZU;refine Xi ⟨[(0,.ref 1000 0),(1,vs p),(3,sl BF rs),(9,vi (((Bh s n).1:Nat):Int))],[(1000,.cells [sl Ap roots,.cmap DI C,.cmap DI A,.slice (.id 1001 6) ((Bh s n).2.infs.map BO),.slice (.id 1002 1) ((Bh s n).2.drv.map B4),.mref 1003,vb (Bh s n).2.full,sl Ax dec,sl Ah (Am dec),.msl 1004 st.length]),(1001,.tok 6 (Bh s n).2.infs.length),(1002,.tok 1 (Bh s n).2.drv.length),(1003,.map Dw (DX 0 (Bh s n).2.infs)),(1004,.arr 1 (st.map AS))],Aa⟩ (Yi ⟨Z4,Z5,Fh,As (by kernel_rfl)⟩ ?_)
 refine OJ V (.v (.slice none 0 0)) qM qN (fun h=>h) ?_;refine Xi .pure (Xi _ (Yi (qO _) ?_));refine Xi (.gen Ux 0) (Yi rfl (Bo.imp (lK roots C A (Bh s n).2 dec st ⟨2,p,0,0,0,0⟩ (H1 p (Ce x p)) K4.1 K4.2.1 tB.nodup) ?_));intro v2 g2 q2;have xr:=q2.1;have xt:=q2.2;subst xr;subst xt;refine Xi ⟨[(0,.ref 1000 0),(1,vs p),(3,sl BF rs),(9,vi (((Bh s n).1:Nat):Int)),(10,vi (((Eo x p (Bh s n).2).1:Nat):Int))],[(1000,.cells [sl Ap roots,.cmap DI C,.cmap DI A,.slice (.id 1001 6) ((Eo x p (Bh s n).2).2.infs.map BO),.slice (.id 1002 1) ((Eo x p (Bh s n).2).2.drv.map B4),.mref 1003,vb (Eo x p (Bh s n).2).2.full,sl Ax dec,sl Ah (Am dec),.msl 1004 st.length]),(1001,.tok 6 (Eo x p (Bh s n).2).2.infs.length),(1002,.tok 1 (Eo x p (Bh s n).2).2.drv.length),(1003,.map Dw (DX 0 (Eo x p (Bh s n).2).2.infs)),(1004,.arr 1 (st.map AS))],Aa⟩ (Yi ⟨Z5,Z5,Fh,As (by kernel_rfl)⟩ ?_)
 have b3:B1 1 (rs.map BF)∧([[vi (((Eo x p (Bh s n).2).1:Nat):Int)]]:List (List AV)).length=1∧(([[vi (((Eo x p (Bh s n).2).1:Nat):Int)]]:List (List AV)).length+(rs.map BF).length)*8≤140737488355328∧([[vi (((Eo x p (Bh s n).2).1:Nat):Int)]]:List (List AV)).length+(rs.map BF).length≤9223372036854775807:=⟨(DQ (enc:=BF) (n:=1) (fun _=>rfl) rs),(by first | (simp;done) | (rw[Lm];assumption)),(by simp only[Lm,Ak,Al];omega),(by simp only[Lm,Ak,Al];omega)⟩
 refine Yi b3 ?_;refine Xi {q:Nat×Nat×SS // q.1≤L.length∧Cp p (L.drop q.1) q.2.1 q.2.2=Cp p L (Bh s n).1 (Eo x p (Bh s n).2).2∧JI x roots q.2.2∧q.2.1<q.2.2.drv.length∧∀r∈L,r<q.2.2.drv.length} (Xi (fun q=>⟨[(0,.ref 1000 0),(1,vs p),(9,vi q.1.2.1),(33,.slice (.id 31 1) (L.map BF)),(34,vi (L.map BF).length),(35,vi q.1.1)],[(31,.tok 1 (L.map BF).length),(1000,.cells (srM roots C A q.1.2.2 dec 1004 st.length)),(1001,.tok 6 q.1.2.2.infs.length),(1002,.tok 1 q.1.2.2.drv.length),(1003,.map Dw (DX 0 q.1.2.2.infs)),(1004,.arr 1 (st.map AS))],Aa⟩) (Xi (fun q=>L.length-q.1.1) (Yi (Xi ⟨(0,(Bh s n).1,(Eo x p (Bh s n).2).2),AL _,by rw[Ko],pG,pB,hLr⟩ ?_) ?_)))
 ·exact⟨⟨Zr,Zr,Zr,⟨(show AV.slice (.id 31 1) ([[vi (((Eo x p (Bh s n).2).1:Nat):Int)]]++rs.map BF)=.slice (.id 31 1) (L.map BF) by rw[hL];rfl),rfl⟩,⟨(show vi (([[vi (((Eo x p (Bh s n).2).1:Nat):Int)]]++rs.map BF:List (List AV)).length:Int)=vi ((L.map BF).length:Int) by rw[hL];rfl),rfl⟩,Zr,Tv⟩,⟨⟨(show HO.tok 1 (([[vi (((Eo x p (Bh s n).2).1:Nat):Int)]]:List (List AV)).length+(rs.map BF).length)=.tok 1 (L.map BF).length by rw[hL];simp[Nat.add_comm]),rfl⟩,Zr,Zr,Zr,Zr,Zr,Tv⟩,Fh,As (by kernel_rfl)⟩
 intro⟨⟨j,k,S⟩,j1,j2,j3,j4,j5⟩;have j1:j≤L.length:=j1;have j2:Cp p (L.drop j) k S=Cp p L (Bh s n).1 (Eo x p (Bh s n).2).2:=j2;have j3:JI x roots S:=j3;have j4:k<S.drv.length:=j4;have j5:∀r∈L,r<S.drv.length:=j5;have zv:=j3.dl;have tp:=j3.der.few hx hr;have gk:S.drv[k]?=some (DC S k):=E6 j4;refine Yi (fun h4=>?_) (fun h4=>?_)
 ·have h4:(j:Int)<((L.map BF).length:Int):=h4;have n4:j<L.length:=by have q:=h4;rw[Lm]at q;omega
  have g4:L[j]?=some L[j]:=Ge n4;refine Xi (BF L[j]) (Yi (Yi (Nn j) (B5 g4)) (Yi rfl ?_));refine Yi (fun h5=>?_) (fun h5=>?_)
  ·have h5:S.full=true:=h5;refine Xi ⟨[(9,vi k)],[(1000,.cells (srM roots C A S dec 1004 st.length)),(1001,.tok 6 S.infs.length),(1002,.tok 1 S.drv.length),(1003,.map Dw (DX 0 S.infs)),(1004,.arr 1 (st.map AS))],Aa⟩ (Yi ⟨Z1,Z5,Fh,As (by kernel_rfl)⟩ ?_)
   have eR:Cp p L (Bh s n).1 (Eo x p (Bh s n).2).2=(k,S):=by rw[←j2];exact Th n4 (.inl h5)
   have eL:D3 x p n rs s=(k,S):=by unfold D3;rw[←hL];exact eR
   exact Xi _ (Yi (.refl _) (Yi (show vi (k:Int)=vi (((D3 x p n rs s).1:Nat):Int) by rw[eL]) (show Af (HX roots C A S dec st) Aa=Af (HX roots C A (D3 x p n rs s).2 dec st) Aa by rw[eL])))
  have h5:S.full=false:=h5;refine Xi (B4 (DC S k)) (Yi (Yi (Nn k) (B5 gk)) (Yi rfl ?_));refine BG (Bt (Cy (DC S k) p)) (fun h7=>?_) (fun h7=>?_)
  ·have h7:(Cy (DC S k) p)=true:=h7;have rg:=(jG (DC S k) p (Fk (tp _ (Ay (E6 j4)))));rw[show(Cy (DC S k) p)=true from h7]at rg;refine Xi .pure (Xi _ (Yi rg ?_));refine Xi ⟨[(0,.ref 1000 0),(1,vs p),(9,vi k),(12,vi (L[j]:Nat)),(33,.slice (.id 31 1) (L.map BF)),(34,vi (L.map BF).length),(35,vi j)],[(31,.tok 1 (L.map BF).length),(1000,.cells (srM roots C A S dec 1004 st.length)),(1001,.tok 6 S.infs.length),(1002,.tok 1 S.drv.length),(1003,.map Dw (DX 0 S.infs)),(1004,.arr 1 (st.map AS))],Aa⟩ (Yi ⟨Z7,Z6,Fh,As (by kernel_rfl)⟩ ?_)
   refine Yi (fun h9=>?_) (fun h9=>?_)
   ·have h9:((L[j]:Nat):Int)=(k:Int):=h9;refine Xi ⟨[(0,.ref 1000 0),(1,vs p),(9,vi k),(33,.slice (.id 31 1) (L.map BF)),(34,vi (L.map BF).length),(35,vi j)],[(31,.tok 1 (L.map BF).length),(1000,.cells (srM roots C A S dec 1004 st.length)),(1001,.tok 6 S.infs.length),(1002,.tok 1 S.drv.length),(1003,.map Dw (DX 0 S.infs)),(1004,.arr 1 (st.map AS))],Aa⟩ (Yi ⟨Z6,Z6,Fh,As (by kernel_rfl)⟩ ?_)
    refine Yi (Ii j (by omega)) ?_;refine Xi ⟨(j+1,k,S),DM n4,by rw[←(Zx (s:=S) (p:=p) (L:=L) (j:=j) (k:=k) n4 (by rw[h5,h7];simp) (by have q:=h9;omega))];exact j2,j3,j4,j5⟩ ?_;exact⟨Dl L.length j (by omega),Z6,Z6,Fh,As (by kernel_rfl)⟩
   have h9:¬(((L[j]:Nat):Int)=(k:Int)):=h9;refine Xi (B4 (DC S k)) (Yi (Yi (Nn k) (B5 gk)) (Yi rfl ?_));refine Xi (B4 (DC S L[j])) (Yi (Yi (show(0:Int)≤(L[j]:Nat) by omega) (B5 (E6 (j5 _ (Aj n4))))) (Yi rfl ?_));have fk:=tp _ (Ay (E6 j4));have fr:=tp _ (Ay (E6 (j5 _ (Aj n4))));refine Xi _ (Yi (uG (DC S k) (DC S L[j]) p fk.1 fr.1 fk.2 fr.2) ?_);refine Yi (by kernel_rfl) ?_;refine Xi ⟨[(0,.ref 1000 0),(1,vs p),(9,vi k),(12,vi (L[j]:Nat)),(13,sl AG (BE (DC S k) (DC S L[j]) p).1),(14,vi (BE (DC S k) (DC S L[j]) p).2),(33,.slice (.id 31 1) (L.map BF)),(34,vi (L.map BF).length),(35,vi j)],[(31,.tok 1 (L.map BF).length),(1000,.cells (srM roots C A S dec 1004 st.length)),(1001,.tok 6 S.infs.length),(1002,.tok 1 S.drv.length),(1003,.map Dw (DX 0 S.infs)),(1004,.arr 1 (st.map AS))],Aa⟩ (Yi ⟨Z9,Z6,Fh,As (by kernel_rfl)⟩ ?_)
   refine Yi (fun KZ=>?_) (fun KZ=>?_)
   ·have KZ:((BE (DC S k) (DC S L[j]) p).2:Int)≠(0:Int):=KZ;refine Xi ⟨[(0,.ref 1000 0),(1,vs p),(9,vi k),(33,.slice (.id 31 1) (L.map BF)),(34,vi (L.map BF).length),(35,vi j)],[(31,.tok 1 (L.map BF).length),(1000,.cells (srM roots C A S dec 1004 st.length)),(1001,.tok 6 S.infs.length),(1002,.tok 1 S.drv.length),(1003,.map Dw (DX 0 S.infs)),(1004,.arr 1 (st.map AS))],Aa⟩ (Yi ⟨Z6,Z6,Fh,As (by kernel_rfl)⟩ ?_)
    refine Yi (Ii j (by omega)) ?_;refine Xi ⟨(j+1,k,S),DM n4,by rw[←(cK (s:=S) (p:=p) (L:=L) (j:=j) (k:=k) n4 (by rw[h5,h7];simp) (by have q:=h9;omega) KZ)];exact j2,j3,j4,j5⟩ ?_;exact⟨Dl L.length j (by omega),Z6,Z6,Fh,As (by kernel_rfl)⟩
   have KZ:((BE (DC S k) (DC S L[j]) p).2:Int)=(0:Int):=Cs KZ;refine Xi (.gen Ux 0) (Yi rfl (Bo.imp (lK roots C A S dec st ⟨3,p,0,0,(k:Nat),(L[j]:Nat)⟩ (BE (DC S k) (DC S L[j]) p).1 zv.1 zv.2.1 j3.nodup) ?_));intro v13 g13 zB;have xi:=zB.1;have xj:=zB.2;subst xi;subst xj;refine Xi ⟨[(0,.ref 1000 0),(1,vs p),(9,vi (((Eh S ⟨3,p,0,0,(k:Nat),(L[j]:Nat)⟩ (BE (DC S k) (DC S L[j]) p).1).1:Nat):Int)),(33,.slice (.id 31 1) (L.map BF)),(34,vi (L.map BF).length),(35,vi j)],[(31,.tok 1 (L.map BF).length),(1000,.cells [sl Ap roots,.cmap DI C,.cmap DI A,.slice (.id 1001 6) ((Eh S ⟨3,p,0,0,(k:Nat),(L[j]:Nat)⟩ (BE (DC S k) (DC S L[j]) p).1).2.infs.map BO),.slice (.id 1002 1) ((Eh S ⟨3,p,0,0,(k:Nat),(L[j]:Nat)⟩ (BE (DC S k) (DC S L[j]) p).1).2.drv.map B4),.mref 1003,vb (Eh S ⟨3,p,0,0,(k:Nat),(L[j]:Nat)⟩ (BE (DC S k) (DC S L[j]) p).1).2.full,sl Ax dec,sl Ah (Am dec),.msl 1004 st.length]),(1001,.tok 6 (Eh S ⟨3,p,0,0,(k:Nat),(L[j]:Nat)⟩ (BE (DC S k) (DC S L[j]) p).1).2.infs.length),(1002,.tok 1 (Eh S ⟨3,p,0,0,(k:Nat),(L[j]:Nat)⟩ (BE (DC S k) (DC S L[j]) p).1).2.drv.length),(1003,.map Dw (DX 0 (Eh S ⟨3,p,0,0,(k:Nat),(L[j]:Nat)⟩ (BE (DC S k) (DC S L[j]) p).1).2.infs)),(1004,.arr 1 (st.map AS))],Aa⟩ (Yi ⟨Z6,Z6,Fh,As (by kernel_rfl)⟩ ?_)
   refine Yi (Ii j (by omega)) ?_;obtain⟨a1,a2,a3⟩:=j3.add (U5 (x:=x) (roots:=roots) (p:=p) j4 (j5 _ (Aj n4)) KZ);refine Xi ⟨(j+1,(Eh S ⟨3,p,0,0,(k:Nat),(L[j]:Nat)⟩ (BE (DC S k) (DC S L[j]) p).1).1,(Eh S ⟨3,p,0,0,(k:Nat),(L[j]:Nat)⟩ (BE (DC S k) (DC S L[j]) p).1).2),DM n4,by rw[←(cJ (s:=S) (p:=p) (L:=L) (j:=j) (k:=k) n4 (by rw[h5,h7];simp) (by have q:=h9;omega) KZ)];exact j2,a1,a2,fun r hr=>BP (j5 r hr) a3⟩ ?_;exact⟨Dl L.length j (by omega),Z6,Z6,Fh,As (by kernel_rfl)⟩
  have h7:(Cy (DC S k) p)=false:=h7;have Xv:=(jG (DC S k) p (Fk (tp _ (Ay (E6 j4)))));rw[show(Cy (DC S k) p)=false from h7]at Xv;refine Xi .pure (Xi _ (Yi Xv ?_));refine Xi ⟨[(9,vi k)],[(1000,.cells (srM roots C A S dec 1004 st.length)),(1001,.tok 6 S.infs.length),(1002,.tok 1 S.drv.length),(1003,.map Dw (DX 0 S.infs)),(1004,.arr 1 (st.map AS))],Aa⟩ (Yi ⟨Z1,Z5,Fh,As (by kernel_rfl)⟩ ?_)
  have eR:Cp p L (Bh s n).1 (Eo x p (Bh s n).2).2=(k,S):=by rw[←j2];exact Th n4 (.inr h7)
  have eL:D3 x p n rs s=(k,S):=by unfold D3;rw[←hL];exact eR
  exact Xi _ (Yi (.refl _) (Yi (show vi (k:Int)=vi (((D3 x p n rs s).1:Nat):Int) by rw[eL]) (show Af (HX roots C A S dec st) Aa=Af (HX roots C A (D3 x p n rs s).2 dec st) Aa by rw[eL])))
 have h4:¬((j:Int)<((L.map BF).length:Int)):=h4;have n4:¬j<L.length:=by have q:=h4;rw[Lm]at q;omega
 have hj:¬j<L.length:=by have q:=h4;rw[Lm]at q;omega
 have eR:Cp p L (Bh s n).1 (Eo x p (Bh s n).2).2=(k,S):=by rw[←j2,T9 (by omega)];rfl
 have eL:D3 x p n rs s=(k,S):=by unfold D3;rw[←hL];exact eR
 exact Xi _ (Yi (.refl _) (Yi (show vi (k:Int)=vi (((D3 x p n rs s).1:Nat):Int) by rw[eL]) (show Af (HX roots C A S dec st) Aa=Af (HX roots C A (D3 x p n rs s).2 dec st) Aa by rw[eL])))
end Go.Eng

namespace Go.Eng
open Go.Proofs
abbrev YK:Hq:=[(1000,1000),(1001,1001),(1002,1002),(1003,1003),(500,1004)]
abbrev tQ(roots:List Rq)(C A:List (Value×AV))(s:SS)(dec:List Cd)(st:List (List Sk)):List (Nat×HO) :=
 [(1000,.cells (srM roots C A s dec 2000 st.length)),(1001,.tok 6 s.infs.length),(1002,.tok 1 s.drv.length),(1003,.map Dw (DX 0 s.infs)),(1004,.dead),(2000,.arr 1 (st.map AS))]
abbrev YL(roots:List Rq)(C A:List (Value×AV))(o:J7)(r:AV)(h' : Nat→HO):Prop:=r=.tup [vi (o.res:Nat),vb o.found]∧h'=Af (tQ roots C A o.ss o.dec o.stack) Aa
def z6(roots:List Rq)(C A:List (Value×AV)):Prop:=∀(s:SS) (dec:List Cd) (st:List (List Sk)),dec.length≤1000→(∀c∈dec,c.rel.reqs.length≤1073741824) →
 Bo Tryz.prog 64 [.ref 1000 0] (Af (HX roots C A s dec st) Aa) fun r h'=>r=.tup [vs (EO roots dec).1,sl AT (EO roots dec).2]∧h'=Af (HX roots C A s dec st) Aa
theorem Nw{roots:List Rq}{C A:List (Value×AV)}{o:J7}{k:Nat}{b:Bool}{s:SS}{dec:List Cd}{st:List (List Sk)}(e:o=⟨k,b,s,dec,st⟩) :
  AV.tup [vi (k:Nat),vb b]=.tup [vi (o.res:Nat),vb o.found]∧Af (tQ roots C A s dec st) Aa=Af (tQ roots C A o.ss o.dec o.stack) Aa:=by rw[e];exact Zr
end Go.Eng

namespace Go.Eng
open Go.Proofs
abbrev YJ:Hq:=[(1000,1000),(1001,1001),(1002,1002),(1003,1003),(1004,1004),(1005,1005),(1006,1006),(1007,1007),(1008,1008),(1009,1009)]
def FW(roots:List Rq)(dec:List Cd)(m:Nat):ByteArray×List Nd:=((Dp roots dec).take m).foldl (Ek dec) (mt,[])
theorem Yh{roots:List Rq}{dec:List Cd}{m:Nat}{n:Nd}(h:(Dp roots dec)[m]?=some n):FW roots dec (m+1)=Ek dec (FW roots dec m) n:=by
 unfold FW;rw[Bb,h,Kp];rfl
theorem lr{roots:List Rq}{dec:List Cd}{m:Nat}(h:(Dp roots dec).length≤m):FW roots dec m=EO roots dec:=by
 unfold FW EO;rw[Az h]
def EP(roots:List Rq)(dec:List Cd)(j:Nat):Nat:=roots.length+((dec.take j).map fun c=>c.rel.reqs.length).sum
theorem TN(c:Cd):(O5 c).length=c.rel.reqs.length:=KO _ _ _
theorem da(roots:List Rq)(dec:List Cd):EP roots dec 0=roots.length:=by unfold EP;simp
theorem c9{roots:List Rq}{dec:List Cd}{j:Nat}(h:j<dec.length):EP roots dec (j+1)=EP roots dec j+dec[j].rel.reqs.length:=by
 unfold EP;rw[DL h,AA,List.sum_append];simp[Nat.add_assoc]
theorem Yl(roots:List Rq)(dec:List Cd):EP roots dec dec.length=(Dp roots dec).length:=by
 unfold EP Dp Yx;rw[Do,Ad,KO,List.length_flatten,BX]
 congr 2
 exact Ba fun c _=>(TN c).symm
theorem cS{roots:List Rq}{dec:List Cd}{i:Nat}(h:i<roots.length):(Dp roots dec)[i]?=some ⟨roots[i],mt,0,(i:Nat)⟩:=by
 unfold Dp Yx;rw[AZ (by rw[KO];exact h),O3,Ge h,Gq,Bc]
theorem Xn{α:Type}:∀{l:List (List α)} {j k:Nat} (hj:j<l.length),k<l[j].length→l.flatten[((l.take j).map List.length).sum+k]?=l[j][k]?
 |y::l,0,k,_,hk=>by
  rw[Bq,List.take_zero,Fe,List.sum_nil,Bc,AZ (show k<y.length from hk)];rfl
 |y::l,j+1,k,hj,hk=>by
  rw[Bq,IU,AN,List.sum_cons,AR (by omega)]
  have:=Xn (l:=l) (j:=j) (k:=k) (by simpa using hj) hk
  rw[show y.length+((l.take j).map List.length).sum+k-y.length=((l.take j).map List.length).sum+k by omega,this]
  rfl
theorem ie{roots:List Rq}{dec:List Cd}{j k:Nat}(hj:j<dec.length)(hk:k<dec[j].rel.reqs.length):(Dp roots dec)[EP roots dec j+k]?=some ⟨dec[j].rel.reqs[k],dec[j].rel.path,dec[j].place,(k:Nat)⟩:=by
 unfold Dp Yx EP;rw[AR (by rw[KO];omega),KO];have h:=Xn (l:=dec.map O5) (j:=j) (k:=k) (by simpa using hj) (by rw[LM,TN];exact hk);rw[←Rg,BX,show(List.length ∘ O5)=fun c=>c.rel.reqs.length from funext TN]at h;rw[show roots.length+((dec.take j).map fun c=>c.rel.reqs.length).sum+k-roots.length=((dec.take j).map fun c=>c.rel.reqs.length).sum+k by omega,h,LM];unfold O5;rw[O3,Ge hk,Gq,Bc]
abbrev ir(roots:List Rq)(C A:List (Value×AV))(s:SS)(dec:List Cd)(st:List (List Sk))(m:Nat):List (Nat×HO) :=
  [(1000,.cells (Pe roots C A s dec st.length)),(1001,.tok 6 s.infs.length),(1002,.tok 1 s.drv.length),(1003,.map Dw (DX 0 s.infs)),(1004,.arr 1 (st.map AS)),
   (1005,.cells [.ref 1000 0]),(1006,.cells [vs (FW roots dec m).1]),(1007,.cells [.slice (.ver 1008 5 m) ((FW roots dec m).2.map AT)]),(1008,.var 5 m ((FW roots dec m).2.map AT).length),(1009,.cells [.ref 1000 0])]
noncomputable abbrev cxn(pl:QA)(l:Nat)(Y:Gh→World→Prop):Cx:=⟨Tryz.prog,jI,pl,true,0,fun l' σ' g w=>l'=l→σ'=YJ→Y g w⟩
theorem GO.pre{P:Program}{Y Y' : Gh→World→Prop}{l:Nat}{args:List AV}{h0:Nat→HO}{Q:AV→(Nat→HO)→Prop}(h:GO P Y l args h0 Q)(hp:∀g w,Y' g w→Y g w):GO P Y' l args h0 Q :=
 fun g w vals q1 q2 q3 q4=>h g w vals q1 q2 q3 (hp g w q4)

theorem x5(roots:List Rq)(C A:List (Value×AV))(s:SS)(dec:List Cd)(st:List (List Sk)):Bo Tryz.prog 117 [.ref 1000 0] (Af (HX roots C A s dec st) Aa) fun r h'=>r=.clo 170 [.ref 2000 0]∧h'=Af (HX roots C A s dec st++[(2000,.cells [.ref 1000 0])]) Aa:=by
 refine CF (MG ⟨[],[],[],[],[],[],[],[],[],[],[]⟩) [(1000,1000),(1001,1001),(1002,1002),(1003,1003),(1004,1004),(1,2000)] rfl CG hm rfl Tryz.func117 (by kernel_rfl) rfl (Nz rfl) (by kernel_rfl) rfl ?_;exact Xi _ (Yi (.refl _) Zr)
set_option maxHeartbeats 4000000 in
theorem x9{Y:Gh→World→Prop}(l:Nat)(roots:List Rq)(C A:List (Value×AV))(s:SS)(dec:List Cd)(st:List (List Sk))(hr:roots.length≤1073741824)(hd:dec.length≤1073741824)(mh:∀c∈dec,c.rel.reqs.length≤1073741824)
  (hy:∀m n,(Dp roots dec)[m]?=some n→GO Tryz.prog Y l [.agg (AT n)] (Af (ir roots C A s dec st m) Aa) fun r h'=>r=vb true∧h'=Af (ir roots C A s dec st (m+1)) Aa) :
  M9 Tryz.prog Y YJ 170 [.v (.func (.yield l) #[] #[]),.ref 1005 0] (Af (ir roots C A s dec st 0) Aa) fun _ h'=>h'=Af (ir roots C A s dec st (Dp roots dec).length) Aa:=by
 have hr:roots.length≤1073741824:=hr;refine gJ (l:=l) (cxn ⟨[],[],[],[],[],[],[],[],[],[],[3,4,11,12]⟩ l Y) YJ rfl CG hm rfl Tryz.func170 (by kernel_rfl) rfl (Nz rfl) (by kernel_rfl) rfl rfl ?_;refine Xi {i:Nat // i≤roots.length} (Xi (fun q=>⟨[(0,.v (.func (.yield l) #[] #[])),(1,.ref 1005 0),(12,sl Ap roots),(13,vi (roots.map Ap).length),(14,vi q.1)],[(1000,.cells (srM roots C A s dec 1004 st.length)),(1001,.tok 6 s.infs.length),(1002,.tok 1 s.drv.length),(1003,.map Dw (DX 0 s.infs)),(1004,.arr 1 (st.map AS)),(1005,.cells [.ref 1000 0]),(1006,.cells [vs (FW roots dec q.1).1]),(1007,.cells [.slice (.ver 1008 5 q.1) ((FW roots dec q.1).2.map AT)]),(1008,.var 5 q.1 ((FW roots dec q.1).2.map AT).length),(1009,.cells [.ref 1000 0])],Aa⟩) (Xi (fun q=>roots.length-q.1) (Yi (Xi ⟨0,AL _⟩ ?_) ?_)))
 ·exact⟨Z5,Z10,Fh,As (by kernel_rfl)⟩
 intro⟨i,i1⟩;have i1:i≤roots.length:=i1;refine Yi (fun h1=>?_) (fun h1=>?_)
 ·have h1:(i:Int)<((roots.map Ap).length:Int):=h1;have n1:i<roots.length:=by have q:=h1;rw[Lm]at q;omega
  have g1:roots[i]?=some roots[i]:=Ge n1;refine Xi (Ap roots[i]) (Yi (Yi (Nn i) (B5 g1)) (Yi rfl ?_));refine Yi (Nz rfl) ?_;refine Yi (Nz rfl) ?_;refine Xi ⟨[(0,.v (.func (.yield l) #[] #[])),(1,.ref 1005 0),(3,vi i),(4,.ref 4 0),(12,sl Ap roots),(13,vi (roots.map Ap).length),(14,vi i)],[(4,.cells (Ap roots[i])),(1000,.cells (srM roots C A s dec 1004 st.length)),(1001,.tok 6 s.infs.length),(1002,.tok 1 s.drv.length),(1003,.map Dw (DX 0 s.infs)),(1004,.arr 1 (st.map AS)),(1005,.cells [.ref 1000 0]),(1006,.cells [vs (FW roots dec i).1]),(1007,.cells [.slice (.ver 1008 5 i) ((FW roots dec i).2.map AT)]),(1008,.var 5 i ((FW roots dec i).2.map AT).length),(1009,.cells [.ref 1000 0])],Aa⟩ (Yi ⟨Z7,Z11,Fh,As (by kernel_rfl)⟩ ?_)
  refine Yi (Nz rfl) ?_;refine Xi (.gen YJ 0) (Yi rfl (GO.imp (GO.pre (hy i ⟨roots[i],mt,0,(i:Nat)⟩ (cS n1)) (fun g w q=>q rfl rfl)) ?_));intro v2 g2 q2;have xr:=q2.1;have xt:=q2.2;subst xr;subst xt;refine Xi ⟨[(0,.v (.func (.yield l) #[] #[])),(1,.ref 1005 0),(12,sl Ap roots),(13,vi (roots.map Ap).length),(14,vi i)],[(1000,.cells (srM roots C A s dec 1004 st.length)),(1001,.tok 6 s.infs.length),(1002,.tok 1 s.drv.length),(1003,.map Dw (DX 0 s.infs)),(1004,.arr 1 (st.map AS)),(1005,.cells [.ref 1000 0]),(1006,.cells [vs (FW roots dec (i+1)).1]),(1007,.cells [.slice (.ver 1008 5 (i+1)) ((FW roots dec (i+1)).2.map AT)]),(1008,.var 5 (i+1) ((FW roots dec (i+1)).2.map AT).length),(1009,.cells [.ref 1000 0])],Aa⟩ (Yi ⟨Z5,Z10,Fh,As (by kernel_rfl)⟩ ?_)
  refine Yi (Ii i (by omega)) ?_;refine Xi ⟨i+1,by omega⟩ ?_;exact⟨Dl roots.length i (by omega),Z5,Z10,Fh,As (by kernel_rfl)⟩
 have h1:¬((i:Int)<((roots.map Ap).length:Int)):=h1;have n1:¬i<roots.length:=by have q:=h1;rw[Lm]at q;omega
 have hE:i=EP roots dec 0:=by rw[da];omega
 refine Xi {j:Nat // j≤dec.length} (Xi (fun q=>⟨[(0,.v (.func (.yield l) #[] #[])),(29,sl Ax dec),(30,vi (dec.map Ax).length),(31,vi q.1)],[(1000,.cells (srM roots C A s dec 1004 st.length)),(1001,.tok 6 s.infs.length),(1002,.tok 1 s.drv.length),(1003,.map Dw (DX 0 s.infs)),(1004,.arr 1 (st.map AS)),(1005,.cells [.ref 1000 0]),(1006,.cells [vs (FW roots dec (EP roots dec q.1)).1]),(1007,.cells [.slice (.ver 1008 5 (EP roots dec q.1)) ((FW roots dec (EP roots dec q.1)).2.map AT)]),(1008,.var 5 (EP roots dec q.1) ((FW roots dec (EP roots dec q.1)).2.map AT).length),(1009,.cells [.ref 1000 0])],Aa⟩) (Xi (fun q=>dec.length-q.1) (Yi (Xi ⟨0,AL _⟩ ?_) ?_)))
 ·exact⟨Z4,⟨Zr,Zr,Zr,Zr,Zr,Zr,⟨(show .cells [vs (FW roots dec i).1]=(.cells [vs (FW roots dec (EP roots dec 0)).1]:HO) by rw[hE]),rfl⟩,⟨(show .cells [.slice (.ver 1008 5 i) ((FW roots dec i).2.map AT)]=(.cells [.slice (.ver 1008 5 (EP roots dec 0)) ((FW roots dec (EP roots dec 0)).2.map AT)]:HO) by rw[hE]),rfl⟩,⟨(show .var 5 i ((FW roots dec i).2.map AT).length=(.var 5 (EP roots dec 0) ((FW roots dec (EP roots dec 0)).2.map AT).length:HO) by rw[hE]),rfl⟩,Zr,Tv⟩,Fh,As (by kernel_rfl)⟩
 intro⟨j,j1⟩;have j1:j≤dec.length:=j1;refine Yi (fun h4=>?_) (fun h4=>?_)
 ·have h4:(j:Int)<((dec.map Ax).length:Int):=h4;have n4:j<dec.length:=by have q:=h4;rw[Lm]at q;omega
  have g4:dec[j]?=some dec[j]:=Ge n4;have tj:=mh dec[j] (Aj n4);refine Xi (Ax dec[j]) (Yi (Yi (Nn j) (B5 g4)) (Yi rfl ?_));refine Yi (Nz rfl) ?_;refine Yi (Nz rfl) ?_;refine Xi {k:Nat // k≤dec[j].rel.reqs.length} (Xi (fun q=>⟨[(0,.v (.func (.yield l) #[] #[])),(6,.ref 6 0),(29,sl Ax dec),(30,vi (dec.map Ax).length),(31,vi j),(37,sl Ap dec[j].rel.reqs),(38,vi (dec[j].rel.reqs.map Ap).length),(39,vi q.1)],[(6,.cells (Ax dec[j])),(1000,.cells (srM roots C A s dec 1004 st.length)),(1001,.tok 6 s.infs.length),(1002,.tok 1 s.drv.length),(1003,.map Dw (DX 0 s.infs)),(1004,.arr 1 (st.map AS)),(1005,.cells [.ref 1000 0]),(1006,.cells [vs (FW roots dec (EP roots dec j+q.1)).1]),(1007,.cells [.slice (.ver 1008 5 (EP roots dec j+q.1)) ((FW roots dec (EP roots dec j+q.1)).2.map AT)]),(1008,.var 5 (EP roots dec j+q.1) ((FW roots dec (EP roots dec j+q.1)).2.map AT).length),(1009,.cells [.ref 1000 0])],Aa⟩) (Xi (fun q=>dec[j].rel.reqs.length-q.1) (Yi (Xi ⟨0,AL _⟩ ?_) ?_)))
  ·exact⟨Z8,Z11,Fh,As (by kernel_rfl)⟩
  intro⟨k,k1⟩;have k1:k≤dec[j].rel.reqs.length:=k1;refine Yi (fun h5=>?_) (fun h5=>?_)
  ·have h5:(k:Int)<((dec[j].rel.reqs.map Ap).length:Int):=h5;have n5:k<dec[j].rel.reqs.length:=by have q:=h5;rw[Lm]at q;omega
   have g5:dec[j].rel.reqs[k]?=some dec[j].rel.reqs[k]:=Ge n5;refine Xi (Ap dec[j].rel.reqs[k]) (Yi (Yi (Nn k) (B5 g5)) (Yi rfl ?_));refine Yi (Nz rfl) ?_;refine Yi (Nz rfl) ?_;refine Xi ⟨[(0,.v (.func (.yield l) #[] #[])),(6,.ref 6 0),(7,vi k),(8,.ref 8 0),(29,sl Ax dec),(30,vi (dec.map Ax).length),(31,vi j),(37,sl Ap dec[j].rel.reqs),(38,vi (dec[j].rel.reqs.map Ap).length),(39,vi k)],[(6,.cells (Ax dec[j])),(8,.cells (Ap dec[j].rel.reqs[k])),(1000,.cells (srM roots C A s dec 1004 st.length)),(1001,.tok 6 s.infs.length),(1002,.tok 1 s.drv.length),(1003,.map Dw (DX 0 s.infs)),(1004,.arr 1 (st.map AS)),(1005,.cells [.ref 1000 0]),(1006,.cells [vs (FW roots dec (EP roots dec j+k)).1]),(1007,.cells [.slice (.ver 1008 5 (EP roots dec j+k)) ((FW roots dec (EP roots dec j+k)).2.map AT)]),(1008,.var 5 (EP roots dec j+k) ((FW roots dec (EP roots dec j+k)).2.map AT).length),(1009,.cells [.ref 1000 0])],Aa⟩ (Yi ⟨Z10,Z12,Fh,As (by kernel_rfl)⟩ ?_)
   refine Yi (Nz rfl) ?_;refine Xi (.gen YJ 0) (Yi rfl (GO.imp (GO.pre (hy (EP roots dec j+k) ⟨dec[j].rel.reqs[k],dec[j].rel.path,dec[j].place,(k:Nat)⟩ (ie n4 n5)) (fun g w q=>q rfl rfl)) ?_));intro v6 g6 q6;have xM:=q6.1;have xN:=q6.2;subst xM;subst xN;refine Xi ⟨[(0,.v (.func (.yield l) #[] #[])),(6,.ref 6 0),(29,sl Ax dec),(30,vi (dec.map Ax).length),(31,vi j),(37,sl Ap dec[j].rel.reqs),(38,vi (dec[j].rel.reqs.map Ap).length),(39,vi k)],[(6,.cells (Ax dec[j])),(1000,.cells (srM roots C A s dec 1004 st.length)),(1001,.tok 6 s.infs.length),(1002,.tok 1 s.drv.length),(1003,.map Dw (DX 0 s.infs)),(1004,.arr 1 (st.map AS)),(1005,.cells [.ref 1000 0]),(1006,.cells [vs (FW roots dec (EP roots dec j+(k+1))).1]),(1007,.cells [.slice (.ver 1008 5 (EP roots dec j+(k+1))) ((FW roots dec (EP roots dec j+(k+1))).2.map AT)]),(1008,.var 5 (EP roots dec j+(k+1)) ((FW roots dec (EP roots dec j+(k+1))).2.map AT).length),(1009,.cells [.ref 1000 0])],Aa⟩ (Yi ⟨Z8,Z11,Fh,As (by kernel_rfl)⟩ ?_)
   refine Yi (Ii k (by omega)) ?_;refine Xi ⟨k+1,by omega⟩ ?_;exact⟨by show dec[j].rel.reqs.length-(k+1)<dec[j].rel.reqs.length-k;omega,Z8,Z11,Fh,As (by kernel_rfl)⟩
  have h5:¬((k:Int)<((dec[j].rel.reqs.map Ap).length:Int)):=h5;have n5:¬k<dec[j].rel.reqs.length:=by have q:=h5;rw[Lm]at q;omega
  refine Yi (Ii j (by omega)) ?_;have hE:EP roots dec j+k=EP roots dec (j+1):=by rw[c9 n4];omega
  refine Xi ⟨j+1,by omega⟩ ?_;exact⟨Dl dec.length j (by omega),Z4,⟨Zr,Zr,Zr,Zr,Zr,Zr,⟨(show .cells [vs (FW roots dec (EP roots dec j+k)).1]=(.cells [vs (FW roots dec (EP roots dec (j+1))).1]:HO) by rw[hE]),rfl⟩,⟨(show .cells [.slice (.ver 1008 5 (EP roots dec j+k)) ((FW roots dec (EP roots dec j+k)).2.map AT)]=(.cells [.slice (.ver 1008 5 (EP roots dec (j+1))) ((FW roots dec (EP roots dec (j+1))).2.map AT)]:HO) by rw[hE]),rfl⟩,⟨(show .var 5 (EP roots dec j+k) ((FW roots dec (EP roots dec j+k)).2.map AT).length=(.var 5 (EP roots dec (j+1)) ((FW roots dec (EP roots dec (j+1))).2.map AT).length:HO) by rw[hE]),rfl⟩,Zr,Tv⟩,Fh,As (by kernel_rfl)⟩
 have h4:¬((j:Int)<((dec.map Ax).length:Int)):=h4;have n4:¬j<dec.length:=by have q:=h4;rw[Lm]at q;omega
 exact Ac (fun m=>Af (ir roots C A s dec st m) Aa) (show EP roots dec j=(Dp roots dec).length by rw[←Yl];congr 1;omega)
end Go.Eng

namespace Go.Eng
open Go.Proofs
theorem oE{h:Nat→HO}{o k r sz:Nat}{cs:List AV}{K:(Nat→HO)→Prop}(c1:h o=.cells cs)(c2:I5 cs k=.v (.slice none 0 0))(c3:h r=.free)(hk:K (AW (AW h r (.var sz 0 0)) o (.cells (EG cs k (.slice (.ver r sz 0) []))))):pO h o k r sz K:=by
 unfold pO;rw[c1];show match I5 cs k with
  |.v (.slice none 0 0)=>match h r with
   |.free=>K (AW (AW h r (.var sz 0 0)) o (.cells (EG cs k (.slice (.ver r sz 0) []))))
   |_=>False
  |_=>False
 rw[c2,c3];exact hk
theorem oW{o k r0 sz:Nat}{PB:Cx}{P:Program}{N:Nat}{fn:Func}{σ:Hq}{Q:AV→(Nat→HO)→Prop}{b rest:Code}{st:St}(cs:List AV)(c1:st.h o=.cells cs)(c2:I5 cs k=.v (.slice none 0 0))(c3:st.h r0=.free)(σF σr:Hq)(H0 Hn:List (Nat×HO))(gf:Nat)(caps:List AV)
  {Pm s:Nat} {ps:Array Tmp} {Em body:Code} (hb:b=.block Pm (.rangeFunc (.tmp s) ps Em body)) (k1:(D4 σF&&DA (AW (AW st.h r0 (.var sz 0 0)) o (.cells (EG cs k (.slice (.ver r0 sz 0) [])))) 0 0&&Dj σF 0 0)=true) (k2:Fc σF (AW (AW st.h r0 (.var sz 0 0)) o (.cells (EG cs k (.slice (.ver r0 sz 0) []))))=Af H0 Aa) (k3:(ES σr&&FD σr H0)=true) (k4:FD σr Hn=true)
  (k5:ren (Cn σF) (AW (AW st.h r0 (.var sz 0 0)) o (.cells (EG cs k (.slice (.ver r0 sz 0) [])))) (st.t s)=.clo gf caps)
  (k6:∀(l D:Nat) (f' : FuncId) (tm:Array Value),tm.size=N→M9 P (fun g w=>w.heap[l]?=some (.loop (Fb f' tm ps Em body D .ready))∧∀i,BI g w (AM (Af H0 Aa)) (ren (Cn σF) (AW (AW st.h r0 (.var sz 0 0)) o (.cells (EG cs k (.slice (.ver r0 sz 0) [])))) (st.t i)) (tm.getD i undef)) σr gf
   (.v (.func (.yield l) #[] #[])::caps) (Af H0 Aa) fun _ h'=>h'=Af Hn Aa)
  (k7:DF N rest=true) (k8:MD PB rest (Uf PB fn.results.toList σr fun r h'=>Q (ren (Cn σ) (Ea σF 0 0 (AW (AW st.h r0 (.var sz 0 0)) o (.cells (EG cs k (.slice (.ver r0 sz 0) [])))) h') (ren (Fg σF 0 0) h' r)) (Fc σ (Ea σF 0 0 (AW (AW st.h r0 (.var sz 0 0)) o (.cells (EG cs k (.slice (.ver r0 sz 0) [])))) h')))
   ⟨fun i=>ren (Cn σF) (AW (AW st.h r0 (.var sz 0 0)) o (.cells (EG cs k (.slice (.ver r0 sz 0) [])))) (st.t i),Af Hn Aa⟩) (k9:LP [] body=false:=by kernel_rfl):tW o k r0 sz PB P N fn σ Q b rest st :=
 oE c1 c2 c3 ⟨σF,σr,H0,Hn,Pm,s,ps,Em,body,gf,caps,hb,k1,k2,k3,k4,k5,k6,k7,k9,k8⟩
section
variable {roots:List Rq}{C A:List (Value×AV)}{s:SS}{dec:List Cd}{st:List (List Sk)}{n:Nd}
theorem Tz{m:Nat}{p:ByteArray}{o:List Nd}(e:FW roots dec (m+1)=(p,o)){es:List (List AV)}{k:Nat}(h1:es=o.map AT)(h2:k=es.length) :
  Af [(1000,.cells (Pe roots C A s dec st.length)),(1001,.tok 6 s.infs.length),(1002,.tok 1 s.drv.length),(1003,.map Dw (DX 0 s.infs)),(1004,.arr 1 (st.map AS)),
   (1005,.cells [.ref 1000 0]),(1006,.cells [vs p]),(1007,.cells [.slice (.ver 1008 5 (m+1)) es]),(1008,.var 5 (m+1) k),(1009,.cells [.ref 1000 0])] Aa=Af (ir roots C A s dec st (m+1)) Aa:=by
 subst h1;subst h2
 rw[show ir roots C A s dec st (m+1)=[(1000,.cells (Pe roots C A s dec st.length)),(1001,.tok 6 s.infs.length),(1002,.tok 1 s.drv.length),(1003,.map Dw (DX 0 s.infs)),(1004,.arr 1 (st.map AS)),
   (1005,.cells [.ref 1000 0]),(1006,.cells [vs (FW roots dec (m+1)).1]),(1007,.cells [.slice (.ver 1008 5 (m+1)) ((FW roots dec (m+1)).2.map AT)]),(1008,.var 5 (m+1) ((FW roots dec (m+1)).2.map AT).length),(1009,.cells [.ref 1000 0])]from rfl,e]
theorem iv{a:ByteArray×List Nd}(h:Df dec n.rq.path=true):Ek dec a n=(a.1,a.2):=by unfold Ek;rw[AB (.inl h)]
theorem ic{o:List Nd}(h:(0:Int)<((o.map AT).length:Int)):o≠[]:=fun e=>by subst e;simp at h
theorem lk{o:List Nd}(h:¬(0:Int)<((o.map AT).length:Int)):o=[]:=by
 cases o with
 |nil=>rfl
 |cons y l=>exact absurd (by simp) h
theorem lu{a:ByteArray×List Nd}(h:(0:Int)<((a.2.map AT).length:Int))(hb:EH a.1 n.rq.path=true):Ek dec a n=(a.1,a.2):=by unfold Ek;rw[AB (.inr ⟨ic h,hb⟩)]
theorem iw{a:ByteArray×List Nd}(hd:Df dec n.rq.path=false)(h:(0:Int)<((a.2.map AT).length:Int))(hb:EH a.1 n.rq.path=false)(hs:EH n.rq.path a.1=true):Ek dec a n=(n.rq.path,[n]):=by
 unfold Ek;rw[Ar (by rw[hd,hb];simp),AB ⟨ic h,hs⟩]
theorem iy{a:ByteArray×List Nd}(hd:Df dec n.rq.path=false)(hb:EH a.1 n.rq.path=false)(hs:EH n.rq.path a.1=false):Ek dec a n=(n.rq.path,a.2++[n]):=by
 unfold Ek;rw[Ar (by rw[hd,hb];simp),Ar (by rw[hs];simp)]
theorem lx{a:ByteArray×List Nd}(hd:Df dec n.rq.path=false)(h:¬(0:Int)<((a.2.map AT).length:Int)):Ek dec a n=(n.rq.path,a.2++[n]):=by
 have:=lk h
 unfold Ek;rw[Ar (by rw[hd,this];simp),Ar (by rw[this];simp)]
theorem lw(a:ByteArray×List Nd)(n:Nd):(Ek dec a n).2.length≤a.2.length+1:=by
 unfold Ek;split
 ·omega
 ·split
  ·simp
  ·simp
theorem aW:∀(m:Nat),(FW roots dec m).2.length≤m
 |0=>Ao _
 |m+1=>by
  have ih:=aW m;cases h:(Dp roots dec)[m]? with
  |none =>
   have e:FW roots dec (m+1)=FW roots dec m:=by unfold FW;rw[Bb,h];simp
   rw[e];omega
  |some n=>rw[Yh h];exact Bu (lw _ _) (Ev ih)
theorem YC:∀{l l' : List (Nat×HO)},l.map Prod.fst=l'.map Prod.fst→(∀p∈l',p.2≠.free)→∀i,AM (Af l Aa) i→AM (Af l' Aa) i
 | [],[],_,_,_,h=>h
 |(a,o)::l,(a',o')::l',e,h,i,hu=>by
  rw[AN,AN]at e
  injection e with e1 e2
  have e1:a=a':=e1;subst e1;unfold AM at *
  by_cases q:i=a
  ·subst q;simp only[Af,Dc,JP];exact h _ (Ab ..)
  ·simp only[Af,Ci q,D7]at hu⊢;exact YC e2 (fun p hp=>h p (Ai _ hp)) i hu
theorem iu(m:Nat):∀i,AM (Af (ir roots C A s dec st 0) Aa) i→AM (Af (ir roots C A s dec st m) Aa) i:=YC rfl (by
 repeat (first | exact Na _ | refine DB.2 ⟨by simp,?_⟩))
theorem bn:∀{l:List Cd},(∀c∈l,c.rel.reqs.length≤1073741824)→((l.map fun c=>c.rel.reqs.length)).sum≤l.length*1073741824
 | [],_=>by simp
 |c::l,h=>by
  have h1:=h c (Ab ..);have h2:=bn fun c hc=>h c (Ai _ hc);rw[AN,List.sum_cons,Ak];omega
theorem cU(hr:roots.length≤1073741824)(hd:dec.length≤1000)(h:∀c∈dec,c.rel.reqs.length≤1073741824):(Dp roots dec).length≤1074815565824:=by
 rw[←Yl];unfold EP;rw[Do]
 have:=bn h
 have:=Bg 1073741824 hd
 omega
end
theorem X6(l:List Nd)(n:Nd):l.map AT++[AT n]=(l++[n]).map AT:=by rw[AA];rfl
theorem OS(l:List Nd)(n:Nd):(l.map AT).length+([AT n]:List (List AV)).length=(l.map AT++[AT n]).length:=Ad.symm
attribute [local irreducible] tW pO FW Dp Ek
set_option maxHeartbeats 4000000 in
theorem zQ(roots:List Rq)(C A:List (Value×AV))(s:SS)(dec:List Cd)(st:List (List Sk))(hr:roots.length≤1073741824)(hd:dec.length≤1000)(mh:∀c∈dec,c.rel.reqs.length≤1073741824) :
  Bo Tryz.prog 64 [.ref 1000 0] (Af (HX roots C A s dec st) Aa) fun r h'=>r=.tup [vs (EO roots dec).1,sl AT (EO roots dec).2]∧h'=Af (HX roots C A s dec st) Aa:=by
 refine bA 5 0 9 5 (MG ⟨[],[],[],[],[],[],[],[],[],[],[]⟩) (MG EI) Ux rfl CG rfl CG hm rfl rfl Tryz.func64 (by kernel_rfl) rfl (Nz rfl) (by kernel_rfl) rfl 3 ?_;refine Yi (Nz rfl) ?_;refine Xi (.gen Ux 1) (Yi rfl (Bo.imp (x5 roots C A s dec st) ?_));intro v1 g1 q1;have ZT:=q1.1;have ZU:=q1.2;subst ZT;subst ZU;refine oW [.v (.slice none 0 0)] (by kernel_rfl) (by kernel_rfl) (by kernel_rfl) [(1000,1000),(1001,1001),(1002,1002),(1003,1003),(1004,1004),(10800,1005),(4,1006),(5,1007),(9,1008),(1,1009)] YJ (ir roots C A s dec st 0) (ir roots C A s dec st (Dp roots dec).length) 170 [.ref 1005 0] rfl (by kernel_rfl) (by kernel_rfl) (by kernel_rfl) (by kernel_rfl) (by kernel_rfl) (fun l9 D9 f9 zW pI=>x9 l9 roots C A s dec st hr (Bu hd (by decide)) mh fun m n hn=>dS (σ:=YJ) 1007 0 1008 (MG ⟨[],[(43,5)],[],[],[],[],[],[],[],[(500005,60001007)],[5]⟩) rfl CG hm rfl rfl rfl pI (by kernel_rfl) (by kernel_rfl) (by kernel_rfl) (iu m) ?_) (by kernel_rfl) ?_
 ·have tq:m<(Dp roots dec).length:=(Aw.1 hn).1;have tv:=aW (roots:=roots) (dec:=dec) m;have hnl:=cU hr hd mh;have hF:=Yh hn;refine Yi (Nz rfl) ?_;refine Yi ⟨rfl,rfl⟩ ?_;refine Xi ⟨[(1,.ref 1009 0),(4,.ref 1006 0),(5,.ref 1007 0),(6,.ref 6 0)],[(6,.cells (AT n)),(60,.tok 5 ((FW roots dec m).2.map AT).length),(1000,.cells (srM roots C A s dec 1004 st.length)),(1001,.tok 6 s.infs.length),(1002,.tok 1 s.drv.length),(1003,.map Dw (DX 0 s.infs)),(1004,.arr 1 (st.map AS)),(1005,.cells [.ref 1000 0]),(1006,.cells [vs (FW roots dec m).1]),(1007,.cells [.slice (.id 60 5) ((FW roots dec m).2.map AT)]),(1008,.vox m),(1009,.cells [.ref 1000 0])],Aa⟩ (Yi ⟨Z4,Z12,Fh,As (by kernel_rfl)⟩ ?_)
  refine BG (Bt (Df dec n.rq.path)) (fun h2=>?_) (fun h2=>?_)
  ·have h2:(Df dec n.rq.path)=true:=h2;have gc:=(sO roots C A s dec st n.rq.path (Bu hd (by decide)));rw[show(Df dec n.rq.path)=true from h2]at gc;refine Xi (.gen Ux 0) (Yi rfl (Bo.imp gc ?_));intro v4 g4 q4;have sw:=q4.1;have sx:=q4.2;subst sw;subst sx;refine Yi ⟨rfl,rfl⟩ ?_
   -- [('(Df dec n.rq.path)=true',True)]
   exact⟨rfl,Tz (hF.trans (iv h2)) rfl rfl⟩
  have h2:(Df dec n.rq.path)=false:=h2;have gg:=(sO roots C A s dec st n.rq.path (Bu hd (by decide)));rw[show(Df dec n.rq.path)=false from h2]at gg;refine Xi (.gen Ux 0) (Yi rfl (Bo.imp gg ?_));intro v6 g6 q6;have xM:=q6.1;have xN:=q6.2;subst xM;subst xN;refine Yi (fun h7=>?_) (fun h7=>?_)
  ·have h7:(0:Int)<(((FW roots dec m).2.map AT).length:Int):=h7;have n7:0<(FW roots dec m).2.length:=by have q:=h7;rw[Lm]at q;omega
   refine Yi (fun h8=>?_) (fun h8=>?_)
   ·have h8:EH (FW roots dec m).1 n.rq.path=true:=(Fi _ _).trans h8;refine Yi ⟨rfl,rfl⟩ ?_
    -- [('(Df dec n.rq.path)=true',False),('(0:Int)<(((FW roots dec m).2.map AT).length:Int)',True),('EH (FW roots dec m).1 n.rq.path=true',True)]
    exact⟨rfl,Tz (hF.trans (lu h7 h8)) rfl rfl⟩
   have h8:EH (FW roots dec m).1 n.rq.path=false:=(Fi _ _).trans (AH.2 h8);refine Yi (fun _=>?_) (fun hf=>absurd h7 hf);refine Yi (fun h9=>?_) (fun h9=>?_)
   ·have h9:EH n.rq.path (FW roots dec m).1=true:=(Fi _ _).trans h9;refine Yi (Nz rfl) ?_;refine Yi (Nz rfl) ?_;refine Yi (Nz rfl) ?_;have ar:B1 5 [(AT n)]∧([(AT n)]:List (List AV)).length*72≤140737488355328∧([(AT n)]:List (List AV)).length≤9223372036854775807:=⟨⟨rfl,trivial⟩,(by simp only[Ak,Al];omega),(by simp only[Ak,Al];omega)⟩;refine Yi ar ?_;refine Yi (Nz rfl) ?_;refine Yi ⟨rfl,rfl⟩ ?_
    -- [('(Df dec n.rq.path)=true',False),('(0:Int)<(((FW roots dec m).2.map AT).length:Int)',True),('EH (FW roots dec m).1 n.rq.path=true',False),('EH n.rq.path (FW roots dec m).1=true',True)]
    exact⟨rfl,Tz (hF.trans (iw h2 h7 h8 h9)) rfl rfl⟩
   have h9:EH n.rq.path (FW roots dec m).1=false:=(Fi _ _).trans (AH.2 h9);refine Yi (Nz rfl) ?_;refine Yi (Nz rfl) ?_;have eP:B1 5 [(AT n)]∧((FW roots dec m).2.map AT).length=((FW roots dec m).2.map AT).length∧(((FW roots dec m).2.map AT).length+([(AT n)]:List (List AV)).length)*72≤140737488355328∧((FW roots dec m).2.map AT).length+([(AT n)]:List (List AV)).length≤9223372036854775807:=⟨⟨rfl,trivial⟩,rfl,(by simp only[Lm,Ak,Al];omega),(by simp only[Lm,Ak,Al];omega)⟩;refine Yi eP ?_;refine Yi (Nz rfl) ?_;refine Yi ⟨(OS _ n).symm,rfl⟩ ?_
   -- [('(Df dec n.rq.path)=true',False),('(0:Int)<(((FW roots dec m).2.map AT).length:Int)',True),('EH (FW roots dec m).1 n.rq.path=true',False),('EH n.rq.path (FW roots dec m).1=true',False)]
   exact⟨rfl,Tz (hF.trans (iy h2 h8 h9)) (X6 _ n) (OS _ n)⟩
  have h7:¬((0:Int)<(((FW roots dec m).2.map AT).length:Int)):=h7;have n7:¬0<(FW roots dec m).2.length:=by have q:=h7;rw[Lm]at q;omega
  refine Yi (fun hf=>absurd hf h7) (fun _=>?_);refine Yi (Nz rfl) ?_;refine Yi (Nz rfl) ?_;have pj:B1 5 [(AT n)]∧((FW roots dec m).2.map AT).length=((FW roots dec m).2.map AT).length∧(((FW roots dec m).2.map AT).length+([(AT n)]:List (List AV)).length)*72≤140737488355328∧((FW roots dec m).2.map AT).length+([(AT n)]:List (List AV)).length≤9223372036854775807:=⟨⟨rfl,trivial⟩,rfl,(by simp only[Lm,Ak,Al];omega),(by simp only[Lm,Ak,Al];omega)⟩;refine Yi pj ?_;refine Yi (Nz rfl) ?_;refine Yi ⟨(OS _ n).symm,rfl⟩ ?_
  -- [('(Df dec n.rq.path)=true',False),('(0:Int)<(((FW roots dec m).2.map AT).length:Int)',False)]
  exact⟨rfl,Tz (hF.trans (lx h2 h7)) (X6 _ n) (OS _ n)⟩
 refine Yi (by kernel_rfl) ?_;exact Xi _ (Yi (.refl _) ⟨show AV.tup [vs (FW roots dec (Dp roots dec).length).1,sl AT (FW roots dec (Dp roots dec).length).2]=_ by rw[lr (Ao _)],rfl⟩)
end Go.Eng

namespace Go.Eng
open Go.Proofs
theorem cA{α:Type}(pr:α→Bool)(l:List α):(∃(k:Nat) (n:α),Kb pr l 0=(k:Nat)∧l[k]?=some n∧l.find? pr=some n)∨(Kb pr l 0=-1∧l.find? pr=none):=by
 have key:∀(l:List α) (b:Nat),(∃(k:Nat) (n:α),Kb pr l (b:Nat)=((b+k:Nat):Int)∧l[k]?=some n∧l.find? pr=some n)∨(Kb pr l (b:Nat)=-1∧l.find? pr=none):=by
  intro l
  induction l with
  |nil=>intro b;exact .inr Zr
  |cons y l ih =>
   intro b;cases h:pr y with
   |true=>exact .inl ⟨0,y,by unfold Kb;rw[AB h];rfl,rfl,by rw[ET,h]⟩
   |false =>
    have e:Kb pr (y::l) (b:Nat)=Kb pr l ((b+1:Nat):Int):=by
     conv=>lhs;unfold Kb
     rw[Ar (by rw[h];decide)];rw[show((b+1:Nat):Int)=(b:Int)+1 by omega]
    have e2:(y::l).find? pr=l.find? pr:=by rw[ET,h]
    rcases ih (b+1)with ⟨k,n,h1,h2,h3⟩ | ⟨h1,h2⟩
    ·exact .inl ⟨k+1,n,by rw[e,h1];congr 1;omega,by simpa using h2,by rw[e2];exact h3⟩
    ·exact .inr ⟨by rw[e];exact h1,by rw[e2];exact h2⟩
 have:=key l 0
 simpa using this
section
variable {rec:List Cd→SS→List (List Sk)→J7}{x:List Rl}{p:ByteArray}{N:List Nd}{n0:Nd}{dec:List Cd}{st:List (List Sk)}{cs:List Cd}{i:Nat}{S:SS}{rs:List Nat}{sk:List Sk}
theorem fc(h:¬i<cs.length):D1 rec x p N n0 dec st (cs.drop i) S rs sk=⟨(D3 x p n0 rs S).1,false,(D3 x p n0 rs S).2,dec,st⟩:=by
 rw[T9 (by omega)];rfl
theorem j9(h:i<cs.length)(hf:S.full=true):D1 rec x p N n0 dec st (cs.drop i) S rs sk=⟨0,false,S,dec,st⟩:=by
 rw[Bk h,Gv,AB hf]
theorem qx(h:i<cs.length)(hf:S.full=false){n:Nd}(hn:N.find? (fun n=>!has n.rq.set cs[i].place)=some n):D1 rec x p N n0 dec st (cs.drop i) S rs sk=D1 rec x p N n0 dec st (cs.drop (i+1)) (Bh S n).2 (rs++[(Bh S n).1]) sk:=by
 rw[Bk h,Gv,Ar (by rw[hf];decide),hn]
theorem VY(h:i<cs.length)(hf:S.full=false)(hn:N.find? (fun n=>!has n.rq.set cs[i].place)=none){k:Nat}(he:Ox S.drv (Am (dec++[cs[i]]))=some k):D1 rec x p N n0 dec st (cs.drop i) S rs sk=JN rec x p N n0 dec st cs[i] (cs.drop (i+1)) rs sk k S:=by
 rw[Bk h,Gv,Ar (by rw[hf];decide),hn];dsimp only;rw[he]
theorem W7(h:i<cs.length)(hf:S.full=false)(hn:N.find? (fun n=>!has n.rq.set cs[i].place)=none)(he:Ox S.drv (Am (dec++[cs[i]]))=none){n:Nd}(hc:Co dec cs[i]=some n) :
  D1 rec x p N n0 dec st (cs.drop i) S rs sk=JN rec x p N n0 dec st cs[i] (cs.drop (i+1)) rs sk (Bh S n).1 (Bh S n).2:=by
 rw[Bk h,Gv,Ar (by rw[hf];decide),hn];dsimp only;rw[he];dsimp only;rw[hc]
theorem VZ(h:i<cs.length)(hf:S.full=false)(hn:N.find? (fun n=>!has n.rq.set cs[i].place)=none)(he:Ox S.drv (Am (dec++[cs[i]]))=none)(hc:Co dec cs[i]=none){o:J7}(ho:o=rec (dec++[cs[i]]) S (st++[sk])) :
  D1 rec x p N n0 dec st (cs.drop i) S rs sk=if o.found=true then⟨0,true,o.ss,o.dec,o.stack⟩else if o.ss.full=true then⟨0,false,o.ss,dec,st⟩else JN rec x p N n0 dec st cs[i] (cs.drop (i+1)) rs sk o.res o.ss:=by
 rw[ho,Bk h,Gv,Ar (by rw[hf];decide),hn];dsimp only;rw[he];dsimp only;rw[hc]
theorem an{c:Cd}{l:List Cd}{k:Nat}(h:Cy (DC S k) p=false):JN rec x p N n0 dec st c l rs sk k S=⟨k,false,S,dec,st⟩:=by unfold JN;rw[AB h]
theorem VT{c:Cd}{l:List Cd}{k:Nat}(h:Cy (DC S k) p=true):JN rec x p N n0 dec st c l rs sk k S=D1 rec x p N n0 dec st l S (rs++[k]) (sk++[⟨p,c.place,(k:Nat)⟩]):=by unfold JN;rw[Ar (by rw[h];decide)]
end
theorem L7{x:List Rl}{dec:List Cd}(h:DY x dec):dec.length≤x.length:=by
 have h1:=Ij (m:=x.map (·.path)) h.nodup fun p hp=>by
  obtain⟨c,hc,rfl⟩:=Aq.1 hp;exact Aq.2 ⟨c.rel,(h.cand c hc).1,rfl⟩
 rw[Lm,Lm]at h1;exact h1
theorem Px(x:List Rl)(p:ByteArray):(BH x p).length≤x.length:=by
 unfold BH;rw[Lm];exact By _ _
end Go.Eng
