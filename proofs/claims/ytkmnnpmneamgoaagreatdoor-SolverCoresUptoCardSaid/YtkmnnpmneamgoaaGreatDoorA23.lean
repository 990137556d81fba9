/- Lemmas for the claims of this seat, without a condition: part 23 (S5, S8a, S9, S10, S8b). -/
import Derived.Test.YtkmnnpmneamgoaaGreatDoorA22
import Derived.Test.YtkmnnpmneamgoaaGreatDoorA16
namespace Go.Eng
open Go.Proofs
theorem OH{x:List Rl}{roots:List Rq}{l0:List Nf}:∀{l:List Nf} {d d' : List (List Tm)},(∀i∈l,i∈l0)→(∀t∈d,UQ (Kp x roots l0) t)→Dt x roots l d=some d'→∀t∈d',UQ (Kp x roots l0) t
 | [],d,d',_,hd,h=>by cases h;exact hd
 |i::l,d,d',hl,hd,h=>by
  unfold Dt at h;cases hi:DZ x roots d i with
  |none=>rw[hi]at h;cases h
  |some t =>
   rw[hi]at h;refine OH (fun j hj=>hl j (Ai _ hj)) (fun u hu=>?_) h;rcases A4.1 hu with hu | hu
   ·exact hd u hu
   ·rw[As.1 hu];exact dh (hl i (Ab ..)) hd hi
section
variable {x:List Rl}{roots:List Rq}{s:SS}
theorem FI.few(hx:Ba x=0)(hr:Bn roots=0)(h:FI x roots s):∀t∈s.drv,nA t:=fun t ht =>
 (OH (l0:=s.infs) (fun _ h=>h) (fun _ h=>by cases h) h.der t ht).fewI (ap hx hr h.len)
theorem Ie{i:Nf}{l:List Tm}(h:s.infs.Nodup):(DU s i l).2.infs.Nodup:=by
 cases hk:L3 i 0 s.infs with
 |some k=>rw[Xm hk];exact h
 |none =>
  by_cases hf:65536≤s.infs.length
  ·rw[UV hk hf];exact h
  ·rw[Xk hk hf];show(s.infs++[i]).Nodup;rw[Gz];refine⟨h,by simp,fun a ha b hb e=>?_⟩;rw[As.1 hb]at e;exact Qn hk (e▸ha)
theorem JT.add(h:JT x roots s){i:Nf}{l:List Tm}(hi:DZ x roots s.drv i=some l):JT x roots (DU s i l).2∧(DU s i l).1<(DU s i l).2.drv.length∧s.drv.length≤(DU s i l).2.drv.length :=
 ⟨⟨(KD h.der hi).1,Ie h.nodup⟩,(KD h.der hi).2.1,(KE s i l).len⟩
theorem JT.dl(h:JT x roots s):s.infs.length≤65536∧s.drv.length=s.infs.length∧s.drv.length≤65536:=by
 have h1:=h.der.dlen;have h2:=h.der.len;exact⟨h2,h1,by omega⟩
theorem iM(hx:Ba x=0)(p:ByteArray):∀d,DZ x roots d ⟨2,p,0,0,0,0⟩=some (HX p (Cf x p)):=fun d=>by
 obtain⟨u,u0,u1,hu⟩:=bS hx p;have hV:Gk []:=fun _ h=>by cases h
 have ou:Xf [] p (Ko [] p (Pv u)):=.ver hV (Fd ⟨u0,u1⟩);have h1:Bj [(⟨p,false,Eu (Cf x p)⟩:Tm)] (Ko [] p (Pv u))=true:=by
  rw[BJ];intro t ht;rw[As.1 ht];show Dw _ (BD (Ko [] p (Pv u)) p)=true;rw[In rfl];show(CJ (Pv u)&&has (Eu (Cf x p)) (place (Pv u)))=true;rw[Fd ⟨u0,u1⟩,Hk,FU,hu];unfold L0;simp[u0,u1]
 have h2:Bj [(⟨p,false,Eu (Cf x p)⟩:Tm)] []=false:=rfl;have DB:HX p (Cf x p)≠[]:=by
  have c1:=Dj (l:=[(⟨p,false,Eu (Cf x p)⟩:Tm)]) ou.val;have c2:=Dj (l:=[(⟨p,false,Eu (Cf x p)⟩:Tm)]) hV;rw[h1]at c1;rw[h2]at c2;unfold HX Qk;cases hc:Da [(⟨p,false,Eu (Cf x p)⟩:Tm)]with
  |none=>rw[hc]at c1;cases c1
  |some c =>
   rw[hc]at c2;intro e;have e:c=[]:=e;rw[e]at c2;cases c2
 unfold DZ;rw[Aq (show ¬((2:Int)=0) by decide),Aq (show ¬((2:Int)=1) by decide),Ax rfl,Ax ⟨rfl,rfl,rfl,rfl⟩];unfold dA;rw[Aq (by rw[F4];exact DB)]
theorem EY{k:Nat}(h:k<s.drv.length):s.drv[k]?=some (DC s k):=by
 unfold DC;rw[B6,Ge h];rfl
theorem TB{p:ByteArray}{L:List Nat}{j k:Nat}(hj:j<L.length)(h:s.full=true∨CA (DC s k) p=false):Ci p (L.drop j) k s=(k,s):=by
 rw[Bl hj];unfold Ci;rw[Ax h]
theorem ZX{p:ByteArray}{L:List Nat}{j k:Nat}(hj:j<L.length)(h1:¬(s.full=true∨CA (DC s k) p=false))(h:L[j]=k):Ci p (L.drop j) k s=Ci p (L.drop (j+1)) k s:=by
 rw[Bl hj]
 conv=>lhs;unfold Ci
 rw[Aq h1,Ax h]
theorem du{p:ByteArray}{L:List Nat}{j k:Nat}(hj:j<L.length)(h1:¬(s.full=true∨CA (DC s k) p=false))(h2:¬L[j]=k)(h:(BA (DC s k) (DC s L[j]) p).2≠0):Ci p (L.drop j) k s=Ci p (L.drop (j+1)) k s:=by
 rw[Bl hj]
 conv=>lhs;unfold Ci
 rw[Aq h1,Aq h2,Ax h]
theorem dt{p:ByteArray}{L:List Nat}{j k:Nat}(hj:j<L.length)(h1:¬(s.full=true∨CA (DC s k) p=false))(h2:¬L[j]=k)(h:(BA (DC s k) (DC s L[j]) p).2=0) :
  Ci p (L.drop j) k s=Ci p (L.drop (j+1)) (DU s ⟨3,p,0,0,(k:Nat),(L[j]:Nat)⟩ (BA (DC s k) (DC s L[j]) p).1).1 (DU s ⟨3,p,0,0,(k:Nat),(L[j]:Nat)⟩ (BA (DC s k) (DC s L[j]) p).1).2:=by
 rw[Bl hj]
 conv=>lhs;unfold Ci
 rw[Aq h1,Aq h2,Aq (fun h3=>h3 h)]
end
theorem Fq{t:List Tm}(h:nA t):CL t:=by have:=h.1;unfold CL;omega
set_option maxHeartbeats 4000000 in
theorem s91(x:List Rl)(roots:List Rq)(C A:List (Value×AV))(s:SS)(dec:List Cd)(st:List (List Sk))(p:ByteArray)(n:Nd)(rs:List Nat)(V:AV)(hx:Ba x=0)(hr:Bn roots=0)(hs:JT x roots s)(oP:∀d,DZ x roots d (Nc n)=some (HP n))(uh:∀r∈rs,r<s.drv.length)(hrl:rs.length≤1073741823)(hnq:CL n.rq.set)(hnp:A9 (n.place+1))
  (rv:∀a,(Value.string p,a)∈A→a=V) (rx:(∀a,(Value.string p,a)∉A)→V=.v (.slice none 0 0)) (ry:∀h,PC 137 [vs p,str h V] (sl AH (HX p (Cf x p)))):Bo Tryz.prog 91 [.ref 1000 0,vs p,.agg (AT n),sl BG rs] (Ag (H7 roots C A s dec st) Aa) fun r h'=>nw roots C A dec st (DP x p n rs s) r h':=by
 have hw:=hs.dl;obtain⟨ui,qf,RP⟩:=hs.add (oP s.drv)
 change JT x roots (Bf s n).2 at ui
 change (Bf s n).1<(Bf s n).2.drv.length at qf
 change s.drv.length≤(Bf s n).2.drv.length at RP
 have K9:=ui.dl;obtain⟨qk,Ik,jW⟩:=ui.add (iM hx p (Bf s n).2.drv)
 change JT x roots (Eb x p (Bf s n).2).2 at qk
 change (Eb x p (Bf s n).2).1<(Eb x p (Bf s n).2).2.drv.length at Ik
 change (Bf s n).2.drv.length≤(Eb x p (Bf s n).2).2.drv.length at jW
 obtain⟨L,hL⟩:∃L,L=(Eb x p (Bf s n).2).1::rs:=⟨_,rfl⟩;have hLr:∀r∈L,r<(Eb x p (Bf s n).2).2.drv.length:=fun r gX=>by
  rw[hL]at gX;rcases AF.1 gX with rfl | h
  ·exact Ik
  ·have:=uh r h;omega
 have wA:L.length=rs.length+1:=by rw[hL];rfl
 have qf:(Bf s n).1<(Eb x p (Bf s n).2).2.drv.length:=by omega
 refine CH (MN ⟨[6],[],[],[],[],[],[],[],[],[],[2,3,7,8,10,12]⟩) [(1000,1000),(1001,1001),(1002,1002),(1003,1003),(1004,1004)] rfl CI hm rfl Tryz.func91 (by kernel_rfl) rfl (Nz rfl) (by kernel_rfl) rfl ?_;refine Yi (Nz rfl) ?_;refine Xi (.gen UP 0) (Yi rfl (Bo.imp (y0 roots C A s dec st n hw.1 hw.2.1 hs.nodup hnq hnp) ?_));intro v1 g1 q1;have ay:=q1.1;have az:=q1.2;subst ay;subst az;refine Xi ⟨[(0,.ref 1000 0),(1,vs p),(3,sl BG rs),(9,vi (((Bf s n).1:Nat):Int))],[(1000,.cells [sl Al roots,.cmap DQ C,.cmap DQ A,.slice (.id 1001 6) ((Bf s n).2.infs.map BQ),.slice (.id 1002 1) ((Bf s n).2.drv.map B5),.mref 1003,vb (Bf s n).2.full,sl Ay dec,sl Ak (Ap dec),.msl 1004 st.length]),(1001,.tok 6 (Bf s n).2.infs.length),(1002,.tok 1 (Bf s n).2.drv.length),(1003,.map DA (D5 0 (Bf s n).2.infs)),(1004,.arr 1 (st.map AS))],Aa⟩ (Yi ⟨Z4,Z5,Fh,At (by kernel_rfl)⟩ ?_)
 refine OU V (.v (.slice none 0 0)) rv rx (fun h=>h) ?_;refine Xi .pure (Xi _ (Yi (ry _) ?_));refine Xi (.gen UP 0) (Yi rfl (Bo.imp (mr roots C A (Bf s n).2 dec st ⟨2,p,0,0,0,0⟩ (HX p (Cf x p)) K9.1 K9.2.1 ui.nodup) ?_));intro v2 g2 q2;have x5:=q2.1;have x6:=q2.2;subst x5;subst x6;refine Xi ⟨[(0,.ref 1000 0),(1,vs p),(3,sl BG rs),(9,vi (((Bf s n).1:Nat):Int)),(10,vi (((Eb x p (Bf s n).2).1:Nat):Int))],[(1000,.cells [sl Al roots,.cmap DQ C,.cmap DQ A,.slice (.id 1001 6) ((Eb x p (Bf s n).2).2.infs.map BQ),.slice (.id 1002 1) ((Eb x p (Bf s n).2).2.drv.map B5),.mref 1003,vb (Eb x p (Bf s n).2).2.full,sl Ay dec,sl Ak (Ap dec),.msl 1004 st.length]),(1001,.tok 6 (Eb x p (Bf s n).2).2.infs.length),(1002,.tok 1 (Eb x p (Bf s n).2).2.drv.length),(1003,.map DA (D5 0 (Eb x p (Bf s n).2).2.infs)),(1004,.arr 1 (st.map AS))],Aa⟩ (Yi ⟨Z5,Z5,Fh,At (by kernel_rfl)⟩ ?_)
 have b3:BW 1 (rs.map BG)∧([[vi (((Eb x p (Bf s n).2).1:Nat):Int)]]:List (List AV)).length=1∧(([[vi (((Eb x p (Bf s n).2).1:Nat):Int)]]:List (List AV)).length+(rs.map BG).length)*8≤140737488355328∧([[vi (((Eb x p (Bf s n).2).1:Nat):Int)]]:List (List AV)).length+(rs.map BG).length≤9223372036854775807:=⟨(Du (enc:=BG) (n:=1) (fun _=>rfl) rs),(by first | (simp;done) | (rw[Lm];assumption)),(by simp only[Lm,Aj,Ah];omega),(by simp only[Lm,Aj,Ah];omega)⟩
 refine Yi b3 ?_;refine Xi {q:Nat×Nat×SS // q.1≤L.length∧Ci p (L.drop q.1) q.2.1 q.2.2=Ci p L (Bf s n).1 (Eb x p (Bf s n).2).2∧JT x roots q.2.2∧q.2.1<q.2.2.drv.length∧∀r∈L,r<q.2.2.drv.length} (Xi (fun q=>⟨[(0,.ref 1000 0),(1,vs p),(9,vi q.1.2.1),(33,.slice (.id 31 1) (L.map BG)),(34,vi (L.map BG).length),(35,vi q.1.1)],[(31,.tok 1 (L.map BG).length),(1000,.cells (srM roots C A q.1.2.2 dec 1004 st.length)),(1001,.tok 6 q.1.2.2.infs.length),(1002,.tok 1 q.1.2.2.drv.length),(1003,.map DA (D5 0 q.1.2.2.infs)),(1004,.arr 1 (st.map AS))],Aa⟩) (Xi (fun q=>L.length-q.1.1) (Yi (Xi ⟨(0,(Bf s n).1,(Eb x p (Bf s n).2).2),AL _,by rw[Kx],qk,qf,hLr⟩ ?_) ?_)))
 ·exact⟨⟨Zr,Zr,Zr,⟨(show AV.slice (.id 31 1) ([[vi (((Eb x p (Bf s n).2).1:Nat):Int)]]++rs.map BG)=.slice (.id 31 1) (L.map BG) by rw[hL];rfl),rfl⟩,⟨(show vi (([[vi (((Eb x p (Bf s n).2).1:Nat):Int)]]++rs.map BG:List (List AV)).length:Int)=vi ((L.map BG).length:Int) by rw[hL];rfl),rfl⟩,Zr,Tv⟩,⟨⟨(show HO.tok 1 (([[vi (((Eb x p (Bf s n).2).1:Nat):Int)]]:List (List AV)).length+(rs.map BG).length)=.tok 1 (L.map BG).length by rw[hL];simp[Nat.add_comm]),rfl⟩,Zr,Zr,Zr,Zr,Zr,Tv⟩,Fh,At (by kernel_rfl)⟩
 intro⟨⟨j,k,S⟩,j1,j2,j3,j4,j5⟩;have j1:j≤L.length:=j1;have j2:Ci p (L.drop j) k S=Ci p L (Bf s n).1 (Eb x p (Bf s n).2).2:=j2;have j3:JT x roots S:=j3;have j4:k<S.drv.length:=j4;have j5:∀r∈L,r<S.drv.length:=j5;have hw3:=j3.dl;have ua:=j3.der.few hx hr;have gk:S.drv[k]?=some (DC S k):=EY j4;refine Yi (fun h4=>?_) (fun h4=>?_)
 ·have h4:(j:Int)<((L.map BG).length:Int):=h4;have n4:j<L.length:=by have q:=h4;rw[Lm]at q;omega
  have g4:L[j]?=some L[j]:=Ge n4;refine Xi (BG L[j]) (Yi (Yi (Nn j) (Cg g4)) (Yi rfl ?_));refine Yi (fun h5=>?_) (fun h5=>?_)
  ·have h5:S.full=true:=h5;refine Xi ⟨[(9,vi k)],[(1000,.cells (srM roots C A S dec 1004 st.length)),(1001,.tok 6 S.infs.length),(1002,.tok 1 S.drv.length),(1003,.map DA (D5 0 S.infs)),(1004,.arr 1 (st.map AS))],Aa⟩ (Yi ⟨Z1,Z5,Fh,At (by kernel_rfl)⟩ ?_)
   have eR:Ci p L (Bf s n).1 (Eb x p (Bf s n).2).2=(k,S):=by rw[←j2];exact TB n4 (.inl h5)
   have eL:DP x p n rs s=(k,S):=by unfold DP;rw[←hL];exact eR
   exact Xi _ (Yi (.refl _) (Yi (show vi (k:Int)=vi (((DP x p n rs s).1:Nat):Int) by rw[eL]) (show Ag (H7 roots C A S dec st) Aa=Ag (H7 roots C A (DP x p n rs s).2 dec st) Aa by rw[eL])))
  have h5:S.full=false:=h5;refine Xi (B5 (DC S k)) (Yi (Yi (Nn k) (Cg gk)) (Yi rfl ?_));refine BO (Bt (CA (DC S k) p)) (fun h7=>?_) (fun h7=>?_)
  ·have h7:(CA (DC S k) p)=true:=h7;have rQ:=(ka (DC S k) p (Fq (ua _ (AA (EY j4)))));rw[show(CA (DC S k) p)=true from h7]at rQ;refine Xi .pure (Xi _ (Yi rQ ?_));refine Xi ⟨[(0,.ref 1000 0),(1,vs p),(9,vi k),(12,vi (L[j]:Nat)),(33,.slice (.id 31 1) (L.map BG)),(34,vi (L.map BG).length),(35,vi j)],[(31,.tok 1 (L.map BG).length),(1000,.cells (srM roots C A S dec 1004 st.length)),(1001,.tok 6 S.infs.length),(1002,.tok 1 S.drv.length),(1003,.map DA (D5 0 S.infs)),(1004,.arr 1 (st.map AS))],Aa⟩ (Yi ⟨Z7,Z6,Fh,At (by kernel_rfl)⟩ ?_)
   refine Yi (fun h9=>?_) (fun h9=>?_)
   ·have h9:((L[j]:Nat):Int)=(k:Int):=h9;refine Xi ⟨[(0,.ref 1000 0),(1,vs p),(9,vi k),(33,.slice (.id 31 1) (L.map BG)),(34,vi (L.map BG).length),(35,vi j)],[(31,.tok 1 (L.map BG).length),(1000,.cells (srM roots C A S dec 1004 st.length)),(1001,.tok 6 S.infs.length),(1002,.tok 1 S.drv.length),(1003,.map DA (D5 0 S.infs)),(1004,.arr 1 (st.map AS))],Aa⟩ (Yi ⟨Z6,Z6,Fh,At (by kernel_rfl)⟩ ?_)
    refine Yi (Ii j (by omega)) ?_;refine Xi ⟨(j+1,k,S),DT n4,by rw[←(ZX (s:=S) (p:=p) (L:=L) (j:=j) (k:=k) n4 (by rw[h5,h7];simp) (by have q:=h9;omega))];exact j2,j3,j4,j5⟩ ?_;exact⟨Dl L.length j (by omega),Z6,Z6,Fh,At (by kernel_rfl)⟩
   have h9:¬(((L[j]:Nat):Int)=(k:Int)):=h9;refine Xi (B5 (DC S k)) (Yi (Yi (Nn k) (Cg gk)) (Yi rfl ?_));refine Xi (B5 (DC S L[j])) (Yi (Yi (show(0:Int)≤(L[j]:Nat) by omega) (Cg (EY (j5 _ (Am n4))))) (Yi rfl ?_));have fk:=ua _ (AA (EY j4));have fr:=ua _ (AA (EY (j5 _ (Am n4))));refine Xi _ (Yi (vt (DC S k) (DC S L[j]) p fk.1 fr.1 fk.2 fr.2) ?_);refine Yi (by kernel_rfl) ?_;refine Xi ⟨[(0,.ref 1000 0),(1,vs p),(9,vi k),(12,vi (L[j]:Nat)),(13,sl AH (BA (DC S k) (DC S L[j]) p).1),(14,vi (BA (DC S k) (DC S L[j]) p).2),(33,.slice (.id 31 1) (L.map BG)),(34,vi (L.map BG).length),(35,vi j)],[(31,.tok 1 (L.map BG).length),(1000,.cells (srM roots C A S dec 1004 st.length)),(1001,.tok 6 S.infs.length),(1002,.tok 1 S.drv.length),(1003,.map DA (D5 0 S.infs)),(1004,.arr 1 (st.map AS))],Aa⟩ (Yi ⟨Z9,Z6,Fh,At (by kernel_rfl)⟩ ?_)
   refine Yi (fun K8=>?_) (fun K8=>?_)
   ·have K8:((BA (DC S k) (DC S L[j]) p).2:Int)≠(0:Int):=K8;refine Xi ⟨[(0,.ref 1000 0),(1,vs p),(9,vi k),(33,.slice (.id 31 1) (L.map BG)),(34,vi (L.map BG).length),(35,vi j)],[(31,.tok 1 (L.map BG).length),(1000,.cells (srM roots C A S dec 1004 st.length)),(1001,.tok 6 S.infs.length),(1002,.tok 1 S.drv.length),(1003,.map DA (D5 0 S.infs)),(1004,.arr 1 (st.map AS))],Aa⟩ (Yi ⟨Z6,Z6,Fh,At (by kernel_rfl)⟩ ?_)
    refine Yi (Ii j (by omega)) ?_;refine Xi ⟨(j+1,k,S),DT n4,by rw[←(du (s:=S) (p:=p) (L:=L) (j:=j) (k:=k) n4 (by rw[h5,h7];simp) (by have q:=h9;omega) K8)];exact j2,j3,j4,j5⟩ ?_;exact⟨Dl L.length j (by omega),Z6,Z6,Fh,At (by kernel_rfl)⟩
   have K8:((BA (DC S k) (DC S L[j]) p).2:Int)=(0:Int):=Ch K8;refine Xi (.gen UP 0) (Yi rfl (Bo.imp (mr roots C A S dec st ⟨3,p,0,0,(k:Nat),(L[j]:Nat)⟩ (BA (DC S k) (DC S L[j]) p).1 hw3.1 hw3.2.1 j3.nodup) ?_));intro v13 g13 q13;have xR:=q13.1;have xS:=q13.2;subst xR;subst xS;refine Xi ⟨[(0,.ref 1000 0),(1,vs p),(9,vi (((DU S ⟨3,p,0,0,(k:Nat),(L[j]:Nat)⟩ (BA (DC S k) (DC S L[j]) p).1).1:Nat):Int)),(33,.slice (.id 31 1) (L.map BG)),(34,vi (L.map BG).length),(35,vi j)],[(31,.tok 1 (L.map BG).length),(1000,.cells [sl Al roots,.cmap DQ C,.cmap DQ A,.slice (.id 1001 6) ((DU S ⟨3,p,0,0,(k:Nat),(L[j]:Nat)⟩ (BA (DC S k) (DC S L[j]) p).1).2.infs.map BQ),.slice (.id 1002 1) ((DU S ⟨3,p,0,0,(k:Nat),(L[j]:Nat)⟩ (BA (DC S k) (DC S L[j]) p).1).2.drv.map B5),.mref 1003,vb (DU S ⟨3,p,0,0,(k:Nat),(L[j]:Nat)⟩ (BA (DC S k) (DC S L[j]) p).1).2.full,sl Ay dec,sl Ak (Ap dec),.msl 1004 st.length]),(1001,.tok 6 (DU S ⟨3,p,0,0,(k:Nat),(L[j]:Nat)⟩ (BA (DC S k) (DC S L[j]) p).1).2.infs.length),(1002,.tok 1 (DU S ⟨3,p,0,0,(k:Nat),(L[j]:Nat)⟩ (BA (DC S k) (DC S L[j]) p).1).2.drv.length),(1003,.map DA (D5 0 (DU S ⟨3,p,0,0,(k:Nat),(L[j]:Nat)⟩ (BA (DC S k) (DC S L[j]) p).1).2.infs)),(1004,.arr 1 (st.map AS))],Aa⟩ (Yi ⟨Z6,Z6,Fh,At (by kernel_rfl)⟩ ?_)
   refine Yi (Ii j (by omega)) ?_;obtain⟨a1,a2,a3⟩:=j3.add (Vo (x:=x) (roots:=roots) (p:=p) j4 (j5 _ (Am n4)) K8);refine Xi ⟨(j+1,(DU S ⟨3,p,0,0,(k:Nat),(L[j]:Nat)⟩ (BA (DC S k) (DC S L[j]) p).1).1,(DU S ⟨3,p,0,0,(k:Nat),(L[j]:Nat)⟩ (BA (DC S k) (DC S L[j]) p).1).2),DT n4,by rw[←(dt (s:=S) (p:=p) (L:=L) (j:=j) (k:=k) n4 (by rw[h5,h7];simp) (by have q:=h9;omega) K8)];exact j2,a1,a2,fun r hr=>BP (j5 r hr) a3⟩ ?_;exact⟨Dl L.length j (by omega),Z6,Z6,Fh,At (by kernel_rfl)⟩
  have h7:(CA (DC S k) p)=false:=h7;have XT:=(ka (DC S k) p (Fq (ua _ (AA (EY j4)))));rw[show(CA (DC S k) p)=false from h7]at XT;refine Xi .pure (Xi _ (Yi XT ?_));refine Xi ⟨[(9,vi k)],[(1000,.cells (srM roots C A S dec 1004 st.length)),(1001,.tok 6 S.infs.length),(1002,.tok 1 S.drv.length),(1003,.map DA (D5 0 S.infs)),(1004,.arr 1 (st.map AS))],Aa⟩ (Yi ⟨Z1,Z5,Fh,At (by kernel_rfl)⟩ ?_)
  have eR:Ci p L (Bf s n).1 (Eb x p (Bf s n).2).2=(k,S):=by rw[←j2];exact TB n4 (.inr h7)
  have eL:DP x p n rs s=(k,S):=by unfold DP;rw[←hL];exact eR
  exact Xi _ (Yi (.refl _) (Yi (show vi (k:Int)=vi (((DP x p n rs s).1:Nat):Int) by rw[eL]) (show Ag (H7 roots C A S dec st) Aa=Ag (H7 roots C A (DP x p n rs s).2 dec st) Aa by rw[eL])))
 have h4:¬((j:Int)<((L.map BG).length:Int)):=h4;have n4:¬j<L.length:=by have q:=h4;rw[Lm]at q;omega
 have hj:¬j<L.length:=by have q:=h4;rw[Lm]at q;omega
 have eR:Ci p L (Bf s n).1 (Eb x p (Bf s n).2).2=(k,S):=by rw[←j2,Kw (by omega)];rfl
 have eL:DP x p n rs s=(k,S):=by unfold DP;rw[←hL];exact eR
 exact Xi _ (Yi (.refl _) (Yi (show vi (k:Int)=vi (((DP x p n rs s).1:Nat):Int) by rw[eL]) (show Ag (H7 roots C A S dec st) Aa=Ag (H7 roots C A (DP x p n rs s).2 dec st) Aa by rw[eL])))
end Go.Eng

namespace Go.Eng
open Go.Proofs
abbrev Y8:Hy:=[(1000,1000),(1001,1001),(1002,1002),(1003,1003),(500,1004)]
abbrev uw(roots:List Rq)(C A:List (Value×AV))(s:SS)(dec:List Cd)(st:List (List Sk)):List (Nat×HO) :=
 [(1000,.cells (srM roots C A s dec 2000 st.length)),(1001,.tok 6 s.infs.length),(1002,.tok 1 s.drv.length),(1003,.map DA (D5 0 s.infs)),(1004,.dead),(2000,.arr 1 (st.map AS))]
abbrev Y9(roots:List Rq)(C A:List (Value×AV))(o:JS)(r:AV)(h' : Nat→HO):Prop:=r=.tup [vi (o.res:Nat),vb o.found]∧h'=Ag (uw roots C A o.ss o.dec o.stack) Aa
def H64(roots:List Rq)(C A:List (Value×AV)):Prop:=∀(s:SS) (dec:List Cd) (st:List (List Sk)),dec.length≤1000→(∀c∈dec,c.rel.reqs.length≤1073741824) →
 Bo Tryz.prog 64 [.ref 1000 0] (Ag (H7 roots C A s dec st) Aa) fun r h'=>r=.tup [vs (DR roots dec).1,sl AT (DR roots dec).2]∧h'=Ag (H7 roots C A s dec st) Aa
theorem NJ{roots:List Rq}{C A:List (Value×AV)}{o:JS}{k:Nat}{b:Bool}{s:SS}{dec:List Cd}{st:List (List Sk)}(e:o=⟨k,b,s,dec,st⟩) :
  AV.tup [vi (k:Nat),vb b]=.tup [vi (o.res:Nat),vb o.found]∧Ag (uw roots C A s dec st) Aa=Ag (uw roots C A o.ss o.dec o.stack) Aa:=by rw[e];exact Zr
end Go.Eng

namespace Go.Eng
open Go.Proofs
abbrev Y7:Hy:=[(1000,1000),(1001,1001),(1002,1002),(1003,1003),(1004,1004),(1005,1005),(1006,1006),(1007,1007),(1008,1008),(1009,1009)]
def F1(roots:List Rq)(dec:List Cd)(m:Nat):ByteArray×List Nd:=((Dq roots dec).take m).foldl (Er dec) (mt,[])
theorem YG{roots:List Rq}{dec:List Cd}{m:Nat}{n:Nd}(h:(Dq roots dec)[m]?=some n):F1 roots dec (m+1)=Er dec (F1 roots dec m) n:=by
 unfold F1;rw[Bd,h,Ky];rfl
theorem l5{roots:List Rq}{dec:List Cd}{m:Nat}(h:(Dq roots dec).length≤m):F1 roots dec m=DR roots dec:=by
 unfold F1 DR;rw[AC h]
def EV(roots:List Rq)(dec:List Cd)(j:Nat):Nat:=roots.length+((dec.take j).map fun c=>c.rel.reqs.length).sum
theorem T2(c:Cd):(Pg c).length=c.rel.reqs.length:=KV _ _ _
theorem dM(roots:List Rq)(dec:List Cd):EV roots dec 0=roots.length:=by unfold EV;simp
theorem dL{roots:List Rq}{dec:List Cd}{j:Nat}(h:j<dec.length):EV roots dec (j+1)=EV roots dec j+dec[j].rel.reqs.length:=by
 unfold EV;rw[CO h,Az,List.sum_append];simp[Nat.add_assoc]
theorem YJ(roots:List Rq)(dec:List Cd):EV roots dec dec.length=(Dq roots dec).length:=by
 unfold EV Dq YU;rw[CN,Ad,KV,List.length_flatten,BY]
 congr 2
 exact A8 fun c _=>(T2 c).symm
theorem dC{roots:List Rq}{dec:List Cd}{i:Nat}(h:i<roots.length):(Dq roots dec)[i]?=some ⟨roots[i],mt,0,(i:Nat)⟩:=by
 unfold Dq YU;rw[A2 (by rw[KV];exact h),Pe,Ge h,Gv,Be]
theorem XJ{α:Type}:∀{l:List (List α)} {j k:Nat} (hj:j<l.length),k<l[j].length→l.flatten[((l.take j).map List.length).sum+k]?=l[j][k]?
 |y::l,0,k,_,hk=>by
  rw[Bu,List.take_zero,Fj,List.sum_nil,Be,A2 (show k<y.length from hk)];rfl
 |y::l,j+1,k,hj,hk=>by
  rw[Bu,I6,AN,List.sum_cons,AR (by omega)]
  have:=XJ (l:=l) (j:=j) (k:=k) (by simpa using hj) hk
  rw[show y.length+((l.take j).map List.length).sum+k-y.length=((l.take j).map List.length).sum+k by omega,this]
  rfl
theorem iG{roots:List Rq}{dec:List Cd}{j k:Nat}(hj:j<dec.length)(hk:k<dec[j].rel.reqs.length):(Dq roots dec)[EV roots dec j+k]?=some ⟨dec[j].rel.reqs[k],dec[j].rel.path,dec[j].place,(k:Nat)⟩:=by
 unfold Dq YU EV;rw[AR (by rw[KV];omega),KV];have h:=XJ (l:=dec.map Pg) (j:=j) (k:=k) (by simpa using hj) (by rw[LV,T2];exact hk);rw[←Rx,BY,show(List.length ∘ Pg)=fun c=>c.rel.reqs.length from funext T2]at h;rw[show roots.length+((dec.take j).map fun c=>c.rel.reqs.length).sum+k-roots.length=((dec.take j).map fun c=>c.rel.reqs.length).sum+k by omega,h,LV];unfold Pg;rw[Pe,Ge hk,Gv,Be]
abbrev iP(roots:List Rq)(C A:List (Value×AV))(s:SS)(dec:List Cd)(st:List (List Sk))(m:Nat):List (Nat×HO) :=
  [(1000,.cells (Py roots C A s dec st.length)),(1001,.tok 6 s.infs.length),(1002,.tok 1 s.drv.length),(1003,.map DA (D5 0 s.infs)),(1004,.arr 1 (st.map AS)),
   (1005,.cells [.ref 1000 0]),(1006,.cells [vs (F1 roots dec m).1]),(1007,.cells [.slice (.ver 1008 5 m) ((F1 roots dec m).2.map AT)]),(1008,.var 5 m ((F1 roots dec m).2.map AT).length),(1009,.cells [.ref 1000 0])]
noncomputable abbrev cxn(pl:QO)(l:Nat)(Y:Gh→World→Prop):Cx:=⟨Tryz.prog,kc,pl,true,0,fun l' σ' g w=>l'=l→σ'=Y7→Y g w⟩
theorem GR.pre{P:Program}{Y Y' : Gh→World→Prop}{l:Nat}{args:List AV}{h0:Nat→HO}{Q:AV→(Nat→HO)→Prop}(h:GR P Y l args h0 Q)(hp:∀g w,Y' g w→Y g w):GR P Y' l args h0 Q :=
 fun g w vals q1 q2 q3 q4=>h g w vals q1 q2 q3 (hp g w q4)

theorem yG(roots:List Rq)(C A:List (Value×AV))(s:SS)(dec:List Cd)(st:List (List Sk)):Bo Tryz.prog 117 [.ref 1000 0] (Ag (H7 roots C A s dec st) Aa) fun r h'=>r=.clo 170 [.ref 2000 0]∧h'=Ag (H7 roots C A s dec st++[(2000,.cells [.ref 1000 0])]) Aa:=by
 refine CH (MN ⟨[],[],[],[],[],[],[],[],[],[],[]⟩) [(1000,1000),(1001,1001),(1002,1002),(1003,1003),(1004,1004),(1,2000)] rfl CI hm rfl Tryz.func117 (by kernel_rfl) rfl (Nz rfl) (by kernel_rfl) rfl ?_;exact Xi _ (Yi (.refl _) Zr)
set_option maxHeartbeats 4000000 in
theorem yJ{Y:Gh→World→Prop}(l:Nat)(roots:List Rq)(C A:List (Value×AV))(s:SS)(dec:List Cd)(st:List (List Sk))(hr:roots.length≤1073741824)(hd:dec.length≤1073741824)(mY:∀c∈dec,c.rel.reqs.length≤1073741824)
  (hy:∀m n,(Dq roots dec)[m]?=some n→GR Tryz.prog Y l [.agg (AT n)] (Ag (iP roots C A s dec st m) Aa) fun r h'=>r=vb true∧h'=Ag (iP roots C A s dec st (m+1)) Aa) :
  Nm Tryz.prog Y Y7 170 [.v (.func (.yield l) #[] #[]),.ref 1005 0] (Ag (iP roots C A s dec st 0) Aa) fun _ h'=>h'=Ag (iP roots C A s dec st (Dq roots dec).length) Aa:=by
 have hr:roots.length≤1073741824:=hr;refine ia (l:=l) (cxn ⟨[],[],[],[],[],[],[],[],[],[],[3,4,11,12]⟩ l Y) Y7 rfl CI hm rfl Tryz.func170 (by kernel_rfl) rfl (Nz rfl) (by kernel_rfl) rfl rfl ?_;refine Xi {i:Nat // i≤roots.length} (Xi (fun q=>⟨[(0,.v (.func (.yield l) #[] #[])),(1,.ref 1005 0),(12,sl Al roots),(13,vi (roots.map Al).length),(14,vi q.1)],[(1000,.cells (srM roots C A s dec 1004 st.length)),(1001,.tok 6 s.infs.length),(1002,.tok 1 s.drv.length),(1003,.map DA (D5 0 s.infs)),(1004,.arr 1 (st.map AS)),(1005,.cells [.ref 1000 0]),(1006,.cells [vs (F1 roots dec q.1).1]),(1007,.cells [.slice (.ver 1008 5 q.1) ((F1 roots dec q.1).2.map AT)]),(1008,.var 5 q.1 ((F1 roots dec q.1).2.map AT).length),(1009,.cells [.ref 1000 0])],Aa⟩) (Xi (fun q=>roots.length-q.1) (Yi (Xi ⟨0,AL _⟩ ?_) ?_)))
 ·exact⟨Z5,Z10,Fh,At (by kernel_rfl)⟩
 intro⟨i,i1⟩;have i1:i≤roots.length:=i1;refine Yi (fun h1=>?_) (fun h1=>?_)
 ·have h1:(i:Int)<((roots.map Al).length:Int):=h1;have n1:i<roots.length:=by have q:=h1;rw[Lm]at q;omega
  have g1:roots[i]?=some roots[i]:=Ge n1;refine Xi (Al roots[i]) (Yi (Yi (Nn i) (Cg g1)) (Yi rfl ?_));refine Yi (Nz rfl) ?_;refine Yi (Nz rfl) ?_;refine Xi ⟨[(0,.v (.func (.yield l) #[] #[])),(1,.ref 1005 0),(3,vi i),(4,.ref 4 0),(12,sl Al roots),(13,vi (roots.map Al).length),(14,vi i)],[(4,.cells (Al roots[i])),(1000,.cells (srM roots C A s dec 1004 st.length)),(1001,.tok 6 s.infs.length),(1002,.tok 1 s.drv.length),(1003,.map DA (D5 0 s.infs)),(1004,.arr 1 (st.map AS)),(1005,.cells [.ref 1000 0]),(1006,.cells [vs (F1 roots dec i).1]),(1007,.cells [.slice (.ver 1008 5 i) ((F1 roots dec i).2.map AT)]),(1008,.var 5 i ((F1 roots dec i).2.map AT).length),(1009,.cells [.ref 1000 0])],Aa⟩ (Yi ⟨Z7,Z11,Fh,At (by kernel_rfl)⟩ ?_)
  refine Yi (Nz rfl) ?_;refine Xi (.gen Y7 0) (Yi rfl (GR.imp (GR.pre (hy i ⟨roots[i],mt,0,(i:Nat)⟩ (dC n1)) (fun g w q=>q rfl rfl)) ?_));intro v2 g2 q2;have x5:=q2.1;have x6:=q2.2;subst x5;subst x6;refine Xi ⟨[(0,.v (.func (.yield l) #[] #[])),(1,.ref 1005 0),(12,sl Al roots),(13,vi (roots.map Al).length),(14,vi i)],[(1000,.cells (srM roots C A s dec 1004 st.length)),(1001,.tok 6 s.infs.length),(1002,.tok 1 s.drv.length),(1003,.map DA (D5 0 s.infs)),(1004,.arr 1 (st.map AS)),(1005,.cells [.ref 1000 0]),(1006,.cells [vs (F1 roots dec (i+1)).1]),(1007,.cells [.slice (.ver 1008 5 (i+1)) ((F1 roots dec (i+1)).2.map AT)]),(1008,.var 5 (i+1) ((F1 roots dec (i+1)).2.map AT).length),(1009,.cells [.ref 1000 0])],Aa⟩ (Yi ⟨Z5,Z10,Fh,At (by kernel_rfl)⟩ ?_)
  refine Yi (Ii i (by omega)) ?_;refine Xi ⟨i+1,by omega⟩ ?_;exact⟨Dl roots.length i (by omega),Z5,Z10,Fh,At (by kernel_rfl)⟩
 have h1:¬((i:Int)<((roots.map Al).length:Int)):=h1;have n1:¬i<roots.length:=by have q:=h1;rw[Lm]at q;omega
 have hE:i=EV roots dec 0:=by rw[dM];omega
 refine Xi {j:Nat // j≤dec.length} (Xi (fun q=>⟨[(0,.v (.func (.yield l) #[] #[])),(29,sl Ay dec),(30,vi (dec.map Ay).length),(31,vi q.1)],[(1000,.cells (srM roots C A s dec 1004 st.length)),(1001,.tok 6 s.infs.length),(1002,.tok 1 s.drv.length),(1003,.map DA (D5 0 s.infs)),(1004,.arr 1 (st.map AS)),(1005,.cells [.ref 1000 0]),(1006,.cells [vs (F1 roots dec (EV roots dec q.1)).1]),(1007,.cells [.slice (.ver 1008 5 (EV roots dec q.1)) ((F1 roots dec (EV roots dec q.1)).2.map AT)]),(1008,.var 5 (EV roots dec q.1) ((F1 roots dec (EV roots dec q.1)).2.map AT).length),(1009,.cells [.ref 1000 0])],Aa⟩) (Xi (fun q=>dec.length-q.1) (Yi (Xi ⟨0,AL _⟩ ?_) ?_)))
 ·exact⟨Z4,⟨Zr,Zr,Zr,Zr,Zr,Zr,⟨(show .cells [vs (F1 roots dec i).1]=(.cells [vs (F1 roots dec (EV roots dec 0)).1]:HO) by rw[hE]),rfl⟩,⟨(show .cells [.slice (.ver 1008 5 i) ((F1 roots dec i).2.map AT)]=(.cells [.slice (.ver 1008 5 (EV roots dec 0)) ((F1 roots dec (EV roots dec 0)).2.map AT)]:HO) by rw[hE]),rfl⟩,⟨(show .var 5 i ((F1 roots dec i).2.map AT).length=(.var 5 (EV roots dec 0) ((F1 roots dec (EV roots dec 0)).2.map AT).length:HO) by rw[hE]),rfl⟩,Zr,Tv⟩,Fh,At (by kernel_rfl)⟩
 intro⟨j,j1⟩;have j1:j≤dec.length:=j1;refine Yi (fun h4=>?_) (fun h4=>?_)
 ·have h4:(j:Int)<((dec.map Ay).length:Int):=h4;have n4:j<dec.length:=by have q:=h4;rw[Lm]at q;omega
  have g4:dec[j]?=some dec[j]:=Ge n4;have t7:=mY dec[j] (Am n4);refine Xi (Ay dec[j]) (Yi (Yi (Nn j) (Cg g4)) (Yi rfl ?_));refine Yi (Nz rfl) ?_;refine Yi (Nz rfl) ?_;refine Xi {k:Nat // k≤dec[j].rel.reqs.length} (Xi (fun q=>⟨[(0,.v (.func (.yield l) #[] #[])),(6,.ref 6 0),(29,sl Ay dec),(30,vi (dec.map Ay).length),(31,vi j),(37,sl Al dec[j].rel.reqs),(38,vi (dec[j].rel.reqs.map Al).length),(39,vi q.1)],[(6,.cells (Ay dec[j])),(1000,.cells (srM roots C A s dec 1004 st.length)),(1001,.tok 6 s.infs.length),(1002,.tok 1 s.drv.length),(1003,.map DA (D5 0 s.infs)),(1004,.arr 1 (st.map AS)),(1005,.cells [.ref 1000 0]),(1006,.cells [vs (F1 roots dec (EV roots dec j+q.1)).1]),(1007,.cells [.slice (.ver 1008 5 (EV roots dec j+q.1)) ((F1 roots dec (EV roots dec j+q.1)).2.map AT)]),(1008,.var 5 (EV roots dec j+q.1) ((F1 roots dec (EV roots dec j+q.1)).2.map AT).length),(1009,.cells [.ref 1000 0])],Aa⟩) (Xi (fun q=>dec[j].rel.reqs.length-q.1) (Yi (Xi ⟨0,AL _⟩ ?_) ?_)))
  ·exact⟨Z8,Z11,Fh,At (by kernel_rfl)⟩
  intro⟨k,k1⟩;have k1:k≤dec[j].rel.reqs.length:=k1;refine Yi (fun h5=>?_) (fun h5=>?_)
  ·have h5:(k:Int)<((dec[j].rel.reqs.map Al).length:Int):=h5;have n5:k<dec[j].rel.reqs.length:=by have q:=h5;rw[Lm]at q;omega
   have g5:dec[j].rel.reqs[k]?=some dec[j].rel.reqs[k]:=Ge n5;refine Xi (Al dec[j].rel.reqs[k]) (Yi (Yi (Nn k) (Cg g5)) (Yi rfl ?_));refine Yi (Nz rfl) ?_;refine Yi (Nz rfl) ?_;refine Xi ⟨[(0,.v (.func (.yield l) #[] #[])),(6,.ref 6 0),(7,vi k),(8,.ref 8 0),(29,sl Ay dec),(30,vi (dec.map Ay).length),(31,vi j),(37,sl Al dec[j].rel.reqs),(38,vi (dec[j].rel.reqs.map Al).length),(39,vi k)],[(6,.cells (Ay dec[j])),(8,.cells (Al dec[j].rel.reqs[k])),(1000,.cells (srM roots C A s dec 1004 st.length)),(1001,.tok 6 s.infs.length),(1002,.tok 1 s.drv.length),(1003,.map DA (D5 0 s.infs)),(1004,.arr 1 (st.map AS)),(1005,.cells [.ref 1000 0]),(1006,.cells [vs (F1 roots dec (EV roots dec j+k)).1]),(1007,.cells [.slice (.ver 1008 5 (EV roots dec j+k)) ((F1 roots dec (EV roots dec j+k)).2.map AT)]),(1008,.var 5 (EV roots dec j+k) ((F1 roots dec (EV roots dec j+k)).2.map AT).length),(1009,.cells [.ref 1000 0])],Aa⟩ (Yi ⟨Z10,Z12,Fh,At (by kernel_rfl)⟩ ?_)
   refine Yi (Nz rfl) ?_;refine Xi (.gen Y7 0) (Yi rfl (GR.imp (GR.pre (hy (EV roots dec j+k) ⟨dec[j].rel.reqs[k],dec[j].rel.path,dec[j].place,(k:Nat)⟩ (iG n4 n5)) (fun g w q=>q rfl rfl)) ?_));intro v6 g6 q6;have yr:=q6.1;have yt:=q6.2;subst yr;subst yt;refine Xi ⟨[(0,.v (.func (.yield l) #[] #[])),(6,.ref 6 0),(29,sl Ay dec),(30,vi (dec.map Ay).length),(31,vi j),(37,sl Al dec[j].rel.reqs),(38,vi (dec[j].rel.reqs.map Al).length),(39,vi k)],[(6,.cells (Ay dec[j])),(1000,.cells (srM roots C A s dec 1004 st.length)),(1001,.tok 6 s.infs.length),(1002,.tok 1 s.drv.length),(1003,.map DA (D5 0 s.infs)),(1004,.arr 1 (st.map AS)),(1005,.cells [.ref 1000 0]),(1006,.cells [vs (F1 roots dec (EV roots dec j+(k+1))).1]),(1007,.cells [.slice (.ver 1008 5 (EV roots dec j+(k+1))) ((F1 roots dec (EV roots dec j+(k+1))).2.map AT)]),(1008,.var 5 (EV roots dec j+(k+1)) ((F1 roots dec (EV roots dec j+(k+1))).2.map AT).length),(1009,.cells [.ref 1000 0])],Aa⟩ (Yi ⟨Z8,Z11,Fh,At (by kernel_rfl)⟩ ?_)
   refine Yi (Ii k (by omega)) ?_;refine Xi ⟨k+1,by omega⟩ ?_;exact⟨by show dec[j].rel.reqs.length-(k+1)<dec[j].rel.reqs.length-k;omega,Z8,Z11,Fh,At (by kernel_rfl)⟩
  have h5:¬((k:Int)<((dec[j].rel.reqs.map Al).length:Int)):=h5;have n5:¬k<dec[j].rel.reqs.length:=by have q:=h5;rw[Lm]at q;omega
  refine Yi (Ii j (by omega)) ?_;have hE:EV roots dec j+k=EV roots dec (j+1):=by rw[dL n4];omega
  refine Xi ⟨j+1,by omega⟩ ?_;exact⟨Dl dec.length j (by omega),Z4,⟨Zr,Zr,Zr,Zr,Zr,Zr,⟨(show .cells [vs (F1 roots dec (EV roots dec j+k)).1]=(.cells [vs (F1 roots dec (EV roots dec (j+1))).1]:HO) by rw[hE]),rfl⟩,⟨(show .cells [.slice (.ver 1008 5 (EV roots dec j+k)) ((F1 roots dec (EV roots dec j+k)).2.map AT)]=(.cells [.slice (.ver 1008 5 (EV roots dec (j+1))) ((F1 roots dec (EV roots dec (j+1))).2.map AT)]:HO) by rw[hE]),rfl⟩,⟨(show .var 5 (EV roots dec j+k) ((F1 roots dec (EV roots dec j+k)).2.map AT).length=(.var 5 (EV roots dec (j+1)) ((F1 roots dec (EV roots dec (j+1))).2.map AT).length:HO) by rw[hE]),rfl⟩,Zr,Tv⟩,Fh,At (by kernel_rfl)⟩
 have h4:¬((j:Int)<((dec.map Ay).length:Int)):=h4;have n4:¬j<dec.length:=by have q:=h4;rw[Lm]at q;omega
 exact Ac (fun m=>Ag (iP roots C A s dec st m) Aa) (show EV roots dec j=(Dq roots dec).length by rw[←YJ];congr 1;omega)
end Go.Eng

namespace Go.Eng
open Go.Proofs
theorem pm{h:Nat→HO}{o k r sz:Nat}{cs:List AV}{K:(Nat→HO)→Prop}(c1:h o=.cells cs)(c2:Jf cs k=.v (.slice none 0 0))(c3:h r=.free)(hk:K (AZ (AZ h r (.var sz 0 0)) o (.cells (EM cs k (.slice (.ver r sz 0) []))))):qs h o k r sz K:=by
 unfold qs;rw[c1];show match Jf cs k with
  |.v (.slice none 0 0)=>match h r with
   |.free=>K (AZ (AZ h r (.var sz 0 0)) o (.cells (EM cs k (.slice (.ver r sz 0) []))))
   |_=>False
  |_=>False
 rw[c2,c3];exact hk
theorem pH{o k r0 sz:Nat}{PM:Cx}{P:Program}{N:Nat}{fn:Func}{σ:Hy}{Q:AV→(Nat→HO)→Prop}{b rest:Code}{st:St}(cs:List AV)(c1:st.h o=.cells cs)(c2:Jf cs k=.v (.slice none 0 0))(c3:st.h r0=.free)(σF σr:Hy)(H0 Hn:List (Nat×HO))(gf:Nat)(caps:List AV)
  {Xp s:Nat} {ps:Array Tmp} {EA body:Code} (hb:b=.block Xp (.rangeFunc (.tmp s) ps EA body)) (k1:(Ec σF&&DE (AZ (AZ st.h r0 (.var sz 0 0)) o (.cells (EM cs k (.slice (.ver r0 sz 0) [])))) 0 0&&Dm σF 0 0)=true) (k2:Fo σF (AZ (AZ st.h r0 (.var sz 0 0)) o (.cells (EM cs k (.slice (.ver r0 sz 0) []))))=Ag H0 Aa) (k3:(Fb σr&&FQ σr H0)=true) (k4:FQ σr Hn=true)
  (k5:ren (Cr σF) (AZ (AZ st.h r0 (.var sz 0 0)) o (.cells (EM cs k (.slice (.ver r0 sz 0) [])))) (st.t s)=.clo gf caps)
  (k6:∀(l D:Nat) (f' : FuncId) (tm:Array Value),tm.size=N→Nm P (fun g w=>w.heap[l]?=some (.loop (Ez f' tm ps EA body D .ready))∧∀i,BK g w (AM (Ag H0 Aa)) (ren (Cr σF) (AZ (AZ st.h r0 (.var sz 0 0)) o (.cells (EM cs k (.slice (.ver r0 sz 0) [])))) (st.t i)) (tm.getD i undef)) σr gf
   (.v (.func (.yield l) #[] #[])::caps) (Ag H0 Aa) fun _ h'=>h'=Ag Hn Aa)
  (k7:DJ N rest=true) (k8:MK PM rest (Uv PM fn.results.toList σr fun r h'=>Q (ren (Cr σ) (Eh σF 0 0 (AZ (AZ st.h r0 (.var sz 0 0)) o (.cells (EM cs k (.slice (.ver r0 sz 0) [])))) h') (ren (Fl σF 0 0) h' r)) (Fo σ (Eh σF 0 0 (AZ (AZ st.h r0 (.var sz 0 0)) o (.cells (EM cs k (.slice (.ver r0 sz 0) [])))) h')))
   ⟨fun i=>ren (Cr σF) (AZ (AZ st.h r0 (.var sz 0 0)) o (.cells (EM cs k (.slice (.ver r0 sz 0) [])))) (st.t i),Ag Hn Aa⟩):uB o k r0 sz PM P N fn σ Q b rest st :=
 pm c1 c2 c3 ⟨σF,σr,H0,Hn,Xp,s,ps,EA,body,gf,caps,hb,k1,k2,k3,k4,k5,k6,k7,k8⟩
section
variable {roots:List Rq}{C A:List (Value×AV)}{s:SS}{dec:List Cd}{st:List (List Sk)}{n:Nd}
theorem TS{m:Nat}{p:ByteArray}{o:List Nd}(e:F1 roots dec (m+1)=(p,o)){es:List (List AV)}{k:Nat}(h1:es=o.map AT)(h2:k=es.length) :
  Ag [(1000,.cells (Py roots C A s dec st.length)),(1001,.tok 6 s.infs.length),(1002,.tok 1 s.drv.length),(1003,.map DA (D5 0 s.infs)),(1004,.arr 1 (st.map AS)),
   (1005,.cells [.ref 1000 0]),(1006,.cells [vs p]),(1007,.cells [.slice (.ver 1008 5 (m+1)) es]),(1008,.var 5 (m+1) k),(1009,.cells [.ref 1000 0])] Aa=Ag (iP roots C A s dec st (m+1)) Aa:=by
 subst h1;subst h2
 rw[show iP roots C A s dec st (m+1)=[(1000,.cells (Py roots C A s dec st.length)),(1001,.tok 6 s.infs.length),(1002,.tok 1 s.drv.length),(1003,.map DA (D5 0 s.infs)),(1004,.arr 1 (st.map AS)),
   (1005,.cells [.ref 1000 0]),(1006,.cells [vs (F1 roots dec (m+1)).1]),(1007,.cells [.slice (.ver 1008 5 (m+1)) ((F1 roots dec (m+1)).2.map AT)]),(1008,.var 5 (m+1) ((F1 roots dec (m+1)).2.map AT).length),(1009,.cells [.ref 1000 0])]from rfl,e]
theorem iR{a:ByteArray×List Nd}(h:CR dec n.rq.path=true):Er dec a n=(a.1,a.2):=by unfold Er;rw[Ax (.inl h)]
theorem iF{o:List Nd}(h:(0:Int)<((o.map AT).length:Int)):o≠[]:=fun e=>by subst e;simp at h
theorem lV{o:List Nd}(h:¬(0:Int)<((o.map AT).length:Int)):o=[]:=by
 cases o with
 |nil=>rfl
 |cons y l=>exact absurd (by simp) h
theorem l6{a:ByteArray×List Nd}(h:(0:Int)<((a.2.map AT).length:Int))(hb:EN a.1 n.rq.path=true):Er dec a n=(a.1,a.2):=by unfold Er;rw[Ax (.inr ⟨iF h,hb⟩)]
theorem iT{a:ByteArray×List Nd}(hd:CR dec n.rq.path=false)(h:(0:Int)<((a.2.map AT).length:Int))(hb:EN a.1 n.rq.path=false)(hs:EN n.rq.path a.1=true):Er dec a n=(n.rq.path,[n]):=by
 unfold Er;rw[Aq (by rw[hd,hb];simp),Ax ⟨iF h,hs⟩]
theorem iU{a:ByteArray×List Nd}(hd:CR dec n.rq.path=false)(hb:EN a.1 n.rq.path=false)(hs:EN n.rq.path a.1=false):Er dec a n=(n.rq.path,a.2++[n]):=by
 unfold Er;rw[Aq (by rw[hd,hb];simp),Aq (by rw[hs];simp)]
theorem l8{a:ByteArray×List Nd}(hd:CR dec n.rq.path=false)(h:¬(0:Int)<((a.2.map AT).length:Int)):Er dec a n=(n.rq.path,a.2++[n]):=by
 have:=lV h
 unfold Er;rw[Aq (by rw[hd,this];simp),Aq (by rw[this];simp)]
theorem l7(a:ByteArray×List Nd)(n:Nd):(Er dec a n).2.length≤a.2.length+1:=by
 unfold Er;split
 ·omega
 ·split
  ·simp
  ·simp
theorem bD:∀(m:Nat),(F1 roots dec m).2.length≤m
 |0=>Ao _
 |m+1=>by
  have ih:=bD m;cases h:(Dq roots dec)[m]? with
  |none =>
   have e:F1 roots dec (m+1)=F1 roots dec m:=by unfold F1;rw[Bd,h];simp
   rw[e];omega
  |some n=>rw[YG h];exact Bw (l7 _ _) (EC ih)
theorem Y2:∀{l l' : List (Nat×HO)},l.map Prod.fst=l'.map Prod.fst→(∀p∈l',p.2≠.free)→∀i,AM (Ag l Aa) i→AM (Ag l' Aa) i
 | [],[],_,_,_,h=>h
 |(a,o)::l,(a',o')::l',e,h,i,hu=>by
  rw[AN,AN]at e
  injection e with e1 e2
  have e1:a=a':=e1;subst e1;unfold AM at *
  by_cases q:i=a
  ·subst q;simp only[Ag,Ds,JY];exact h _ (Ab ..)
  ·simp only[Ag,Cn q,Ef]at hu⊢;exact Y2 e2 (fun p hp=>h p (Ai _ hp)) i hu
theorem iQ(m:Nat):∀i,AM (Ag (iP roots C A s dec st 0) Aa) i→AM (Ag (iP roots C A s dec st m) Aa) i:=Y2 rfl (by
 repeat (first | exact No _ | refine DG.2 ⟨by simp,?_⟩))
theorem bP:∀{l:List Cd},(∀c∈l,c.rel.reqs.length≤1073741824)→((l.map fun c=>c.rel.reqs.length)).sum≤l.length*1073741824
 | [],_=>by simp
 |c::l,h=>by
  have h1:=h c (Ab ..);have h2:=bP fun c hc=>h c (Ai _ hc);rw[AN,List.sum_cons,Aj];omega
theorem dD(hr:roots.length≤1073741824)(hd:dec.length≤1000)(h:∀c∈dec,c.rel.reqs.length≤1073741824):(Dq roots dec).length≤1074815565824:=by
 rw[←YJ];unfold EV;rw[CN]
 have:=bP h
 have:=Bi 1073741824 hd
 omega
end
theorem Yv(l:List Nd)(n:Nd):l.map AT++[AT n]=(l++[n]).map AT:=by rw[Az];rfl
theorem O3(l:List Nd)(n:Nd):(l.map AT).length+([AT n]:List (List AV)).length=(l.map AT++[AT n]).length:=Ad.symm
attribute [local irreducible] uB qs F1 Dq Er
set_option maxHeartbeats 4000000 in
theorem s64(roots:List Rq)(C A:List (Value×AV))(s:SS)(dec:List Cd)(st:List (List Sk))(hr:roots.length≤1073741824)(hd:dec.length≤1000)(mY:∀c∈dec,c.rel.reqs.length≤1073741824) :
  Bo Tryz.prog 64 [.ref 1000 0] (Ag (H7 roots C A s dec st) Aa) fun r h'=>r=.tup [vs (DR roots dec).1,sl AT (DR roots dec).2]∧h'=Ag (H7 roots C A s dec st) Aa:=by
 refine bZ 5 0 9 5 (MN ⟨[],[],[],[],[],[],[],[],[],[],[]⟩) (MN EP) UP rfl CI rfl CI hm rfl rfl Tryz.func64 (by kernel_rfl) rfl (Nz rfl) (by kernel_rfl) rfl 3 ?_;refine Yi (Nz rfl) ?_;refine Xi (.gen UP 1) (Yi rfl (Bo.imp (yG roots C A s dec st) ?_));intro v1 g1 q1;have ay:=q1.1;have az:=q1.2;subst ay;subst az;refine pH [.v (.slice none 0 0)] (by kernel_rfl) (by kernel_rfl) (by kernel_rfl) [(1000,1000),(1001,1001),(1002,1002),(1003,1003),(1004,1004),(10800,1005),(4,1006),(5,1007),(9,1008),(1,1009)] Y7 (iP roots C A s dec st 0) (iP roots C A s dec st (Dq roots dec).length) 170 [.ref 1005 0] rfl (by kernel_rfl) (by kernel_rfl) (by kernel_rfl) (by kernel_rfl) (by kernel_rfl) (fun l9 D9 f9 tm9 qm=>yJ l9 roots C A s dec st hr (Bw hd (by decide)) mY fun m n hn=>eO (σ:=Y7) 1007 0 1008 (MN ⟨[],[(43,5)],[],[],[],[],[],[],[],[(500005,60001007)],[5]⟩) rfl CI hm rfl rfl rfl qm (by kernel_rfl) (by kernel_rfl) (by kernel_rfl) (iQ m) ?_) (by kernel_rfl) ?_
 ·have ub:m<(Dq roots dec).length:=(Aw.1 hn).1;have ue:=bD (roots:=roots) (dec:=dec) m;have hnl:=dD hr hd mY;have hF:=YG hn;refine Yi (Nz rfl) ?_;refine Yi ⟨rfl,rfl⟩ ?_;refine Xi ⟨[(1,.ref 1009 0),(4,.ref 1006 0),(5,.ref 1007 0),(6,.ref 6 0)],[(6,.cells (AT n)),(60,.tok 5 ((F1 roots dec m).2.map AT).length),(1000,.cells (srM roots C A s dec 1004 st.length)),(1001,.tok 6 s.infs.length),(1002,.tok 1 s.drv.length),(1003,.map DA (D5 0 s.infs)),(1004,.arr 1 (st.map AS)),(1005,.cells [.ref 1000 0]),(1006,.cells [vs (F1 roots dec m).1]),(1007,.cells [.slice (.id 60 5) ((F1 roots dec m).2.map AT)]),(1008,.vox m),(1009,.cells [.ref 1000 0])],Aa⟩ (Yi ⟨Z4,Z12,Fh,At (by kernel_rfl)⟩ ?_)
  refine BO (Bt (CR dec n.rq.path)) (fun h2=>?_) (fun h2=>?_)
  ·have h2:(CR dec n.rq.path)=true:=h2;have gG:=(tx roots C A s dec st n.rq.path (Bw hd (by decide)));rw[show(CR dec n.rq.path)=true from h2]at gG;refine Xi (.gen UP 0) (Yi rfl (Bo.imp gG ?_));intro v4 g4 q4;have ta:=q4.1;have tb:=q4.2;subst ta;subst tb;refine Yi ⟨rfl,rfl⟩ ?_
   -- [('(CR dec n.rq.path)=true',True)]
   exact⟨rfl,TS (hF.trans (iR h2)) rfl rfl⟩
  have h2:(CR dec n.rq.path)=false:=h2;have gI:=(tx roots C A s dec st n.rq.path (Bw hd (by decide)));rw[show(CR dec n.rq.path)=false from h2]at gI;refine Xi (.gen UP 0) (Yi rfl (Bo.imp gI ?_));intro v6 g6 q6;have yr:=q6.1;have yt:=q6.2;subst yr;subst yt;refine Yi (fun h7=>?_) (fun h7=>?_)
  ·have h7:(0:Int)<(((F1 roots dec m).2.map AT).length:Int):=h7;have n7:0<(F1 roots dec m).2.length:=by have q:=h7;rw[Lm]at q;omega
   refine Yi (fun h8=>?_) (fun h8=>?_)
   ·have h8:EN (F1 roots dec m).1 n.rq.path=true:=(Fm _ _).trans h8;refine Yi ⟨rfl,rfl⟩ ?_
    -- [('(CR dec n.rq.path)=true',False),('(0:Int)<(((F1 roots dec m).2.map AT).length:Int)',True),('EN (F1 roots dec m).1 n.rq.path=true',True)]
    exact⟨rfl,TS (hF.trans (l6 h7 h8)) rfl rfl⟩
   have h8:EN (F1 roots dec m).1 n.rq.path=false:=(Fm _ _).trans (AI.2 h8);refine Yi (fun _=>?_) (fun hf=>absurd h7 hf);refine Yi (fun h9=>?_) (fun h9=>?_)
   ·have h9:EN n.rq.path (F1 roots dec m).1=true:=(Fm _ _).trans h9;refine Yi (Nz rfl) ?_;refine Yi (Nz rfl) ?_;refine Yi (Nz rfl) ?_;have aS:BW 5 [(AT n)]∧([(AT n)]:List (List AV)).length*72≤140737488355328∧([(AT n)]:List (List AV)).length≤9223372036854775807:=⟨⟨rfl,trivial⟩,(by simp only[Aj,Ah];omega),(by simp only[Aj,Ah];omega)⟩;refine Yi aS ?_;refine Yi (Nz rfl) ?_;refine Yi ⟨rfl,rfl⟩ ?_
    -- [('(CR dec n.rq.path)=true',False),('(0:Int)<(((F1 roots dec m).2.map AT).length:Int)',True),('EN (F1 roots dec m).1 n.rq.path=true',False),('EN n.rq.path (F1 roots dec m).1=true',True)]
    exact⟨rfl,TS (hF.trans (iT h2 h7 h8 h9)) rfl rfl⟩
   have h9:EN n.rq.path (F1 roots dec m).1=false:=(Fm _ _).trans (AI.2 h9);refine Yi (Nz rfl) ?_;refine Yi (Nz rfl) ?_;have fA:BW 5 [(AT n)]∧((F1 roots dec m).2.map AT).length=((F1 roots dec m).2.map AT).length∧(((F1 roots dec m).2.map AT).length+([(AT n)]:List (List AV)).length)*72≤140737488355328∧((F1 roots dec m).2.map AT).length+([(AT n)]:List (List AV)).length≤9223372036854775807:=⟨⟨rfl,trivial⟩,rfl,(by simp only[Lm,Aj,Ah];omega),(by simp only[Lm,Aj,Ah];omega)⟩;refine Yi fA ?_;refine Yi (Nz rfl) ?_;refine Yi ⟨(O3 _ n).symm,rfl⟩ ?_
   -- [('(CR dec n.rq.path)=true',False),('(0:Int)<(((F1 roots dec m).2.map AT).length:Int)',True),('EN (F1 roots dec m).1 n.rq.path=true',False),('EN n.rq.path (F1 roots dec m).1=true',False)]
   exact⟨rfl,TS (hF.trans (iU h2 h8 h9)) (Yv _ n) (O3 _ n)⟩
  have h7:¬((0:Int)<(((F1 roots dec m).2.map AT).length:Int)):=h7;have n7:¬0<(F1 roots dec m).2.length:=by have q:=h7;rw[Lm]at q;omega
  refine Yi (fun hf=>absurd hf h7) (fun _=>?_);refine Yi (Nz rfl) ?_;refine Yi (Nz rfl) ?_;have pW:BW 5 [(AT n)]∧((F1 roots dec m).2.map AT).length=((F1 roots dec m).2.map AT).length∧(((F1 roots dec m).2.map AT).length+([(AT n)]:List (List AV)).length)*72≤140737488355328∧((F1 roots dec m).2.map AT).length+([(AT n)]:List (List AV)).length≤9223372036854775807:=⟨⟨rfl,trivial⟩,rfl,(by simp only[Lm,Aj,Ah];omega),(by simp only[Lm,Aj,Ah];omega)⟩;refine Yi pW ?_;refine Yi (Nz rfl) ?_;refine Yi ⟨(O3 _ n).symm,rfl⟩ ?_
  -- [('(CR dec n.rq.path)=true',False),('(0:Int)<(((F1 roots dec m).2.map AT).length:Int)',False)]
  exact⟨rfl,TS (hF.trans (l8 h2 h7)) (Yv _ n) (O3 _ n)⟩
 refine Yi (by kernel_rfl) ?_;exact Xi _ (Yi (.refl _) ⟨show AV.tup [vs (F1 roots dec (Dq roots dec).length).1,sl AT (F1 roots dec (Dq roots dec).length).2]=_ by rw[l5 (Ao _)],rfl⟩)
end Go.Eng

namespace Go.Eng
open Go.Proofs
theorem de{α:Type}(pr:α→Bool)(l:List α):(∃(k:Nat) (n:α),Ki pr l 0=(k:Nat)∧l[k]?=some n∧l.find? pr=some n)∨(Ki pr l 0=-1∧l.find? pr=none):=by
 have key:∀(l:List α) (b:Nat),(∃(k:Nat) (n:α),Ki pr l (b:Nat)=((b+k:Nat):Int)∧l[k]?=some n∧l.find? pr=some n)∨(Ki pr l (b:Nat)=-1∧l.find? pr=none):=by
  intro l
  induction l with
  |nil=>intro b;exact .inr Zr
  |cons y l ih =>
   intro b;cases h:pr y with
   |true=>exact .inl ⟨0,y,by unfold Ki;rw[Ax h];rfl,rfl,by rw[E0,h]⟩
   |false =>
    have e:Ki pr (y::l) (b:Nat)=Ki pr l ((b+1:Nat):Int):=by
     conv=>lhs;unfold Ki
     rw[Aq (by rw[h];decide)];rw[show((b+1:Nat):Int)=(b:Int)+1 by omega]
    have e2:(y::l).find? pr=l.find? pr:=by rw[E0,h]
    rcases ih (b+1)with ⟨k,n,h1,h2,h3⟩ | ⟨h1,h2⟩
    ·exact .inl ⟨k+1,n,by rw[e,h1];congr 1;omega,by simpa using h2,by rw[e2];exact h3⟩
    ·exact .inr ⟨by rw[e];exact h1,by rw[e2];exact h2⟩
 have:=key l 0
 simpa using this
section
variable {rec:List Cd→SS→List (List Sk)→JS}{x:List Rl}{p:ByteArray}{N:List Nd}{n0:Nd}{dec:List Cd}{st:List (List Sk)}{cs:List Cd}{i:Nat}{S:SS}{rs:List Nat}{sk:List Sk}
theorem fK(h:¬i<cs.length):DN rec x p N n0 dec st (cs.drop i) S rs sk=⟨(DP x p n0 rs S).1,false,(DP x p n0 rs S).2,dec,st⟩:=by
 rw[Kw (by omega)];rfl
theorem kD(h:i<cs.length)(hf:S.full=true):DN rec x p N n0 dec st (cs.drop i) S rs sk=⟨0,false,S,dec,st⟩:=by
 rw[Bl h,F0,Ax hf]
theorem rd(h:i<cs.length)(hf:S.full=false){n:Nd}(hn:N.find? (fun n=>!has n.rq.set cs[i].place)=some n):DN rec x p N n0 dec st (cs.drop i) S rs sk=DN rec x p N n0 dec st (cs.drop (i+1)) (Bf S n).2 (rs++[(Bf S n).1]) sk:=by
 rw[Bl h,F0,Aq (by rw[hf];decide),hn]
theorem Wh(h:i<cs.length)(hf:S.full=false)(hn:N.find? (fun n=>!has n.rq.set cs[i].place)=none){k:Nat}(he:NR S.drv (Ap (dec++[cs[i]]))=some k):DN rec x p N n0 dec st (cs.drop i) S rs sk=Ix rec x p N n0 dec st cs[i] (cs.drop (i+1)) rs sk k S:=by
 rw[Bl h,F0,Aq (by rw[hf];decide),hn];dsimp only;rw[he]
theorem Xu(h:i<cs.length)(hf:S.full=false)(hn:N.find? (fun n=>!has n.rq.set cs[i].place)=none)(he:NR S.drv (Ap (dec++[cs[i]]))=none){n:Nd}(hc:Co dec cs[i]=some n) :
  DN rec x p N n0 dec st (cs.drop i) S rs sk=Ix rec x p N n0 dec st cs[i] (cs.drop (i+1)) rs sk (Bf S n).1 (Bf S n).2:=by
 rw[Bl h,F0,Aq (by rw[hf];decide),hn];dsimp only;rw[he];dsimp only;rw[hc]
theorem Wi(h:i<cs.length)(hf:S.full=false)(hn:N.find? (fun n=>!has n.rq.set cs[i].place)=none)(he:NR S.drv (Ap (dec++[cs[i]]))=none)(hc:Co dec cs[i]=none){o:JS}(ho:o=rec (dec++[cs[i]]) S (st++[sk])) :
  DN rec x p N n0 dec st (cs.drop i) S rs sk=if o.found=true then⟨0,true,o.ss,o.dec,o.stack⟩else if o.ss.full=true then⟨0,false,o.ss,dec,st⟩else Ix rec x p N n0 dec st cs[i] (cs.drop (i+1)) rs sk o.res o.ss:=by
 rw[ho,Bl h,F0,Aq (by rw[hf];decide),hn];dsimp only;rw[he];dsimp only;rw[hc]
theorem aO{c:Cd}{l:List Cd}{k:Nat}(h:CA (DC S k) p=false):Ix rec x p N n0 dec st c l rs sk k S=⟨k,false,S,dec,st⟩:=by unfold Ix;rw[Ax h]
theorem Wc{c:Cd}{l:List Cd}{k:Nat}(h:CA (DC S k) p=true):Ix rec x p N n0 dec st c l rs sk k S=DN rec x p N n0 dec st l S (rs++[k]) (sk++[⟨p,c.place,(k:Nat)⟩]):=by unfold Ix;rw[Aq (by rw[h];decide)]
end
theorem OG{x:List Rl}{dec:List Cd}(h:D6 x dec):dec.length≤x.length:=by
 have h1:=Ir (m:=x.map (·.path)) h.nodup fun p hp=>by
  obtain⟨c,hc,rfl⟩:=Ar.1 hp;exact Ar.2 ⟨c.rel,(h.cand c hc).1,rfl⟩
 rw[Lm,Lm]at h1;exact h1
theorem PI(x:List Rl)(p:ByteArray):(Br x p).length≤x.length:=by
 unfold Br;rw[Lm];exact Bp _ _
end Go.Eng
