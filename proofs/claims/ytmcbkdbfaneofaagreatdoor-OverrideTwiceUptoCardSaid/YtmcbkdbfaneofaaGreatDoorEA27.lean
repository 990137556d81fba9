/- Lemmas for the claims of this seat, without a condition: part 27 (S5, S8a, S9, S10, S8b). -/
import Derived.Test.YtmcbkdbfaneofaaGreatDoorEA26
set_option maxHeartbeats 4000000
namespace Go.Eng
open Go.Proofs
theorem On{x:List Rl}{roots:List Rq}{l0:List Nf}:∀{l:List Nf} {d d' : List (List Tm)},(∀i∈l,i∈l0)→(∀t∈d,Uw (Ka x roots l0) t)→Dd x roots l d=some d'→∀t∈d',Uw (Ka x roots l0) t
 | [],d,d',_,hd,h=>by cases h;exact hd
 |i::l,d,d',hl,hd,h=>by
  unfold Dd at h;cases hi:DU x roots d i with
  |none=>rw[hi]at h;cases h
  |some t =>
   rw[hi]at h;refine On (fun j hj=>hl j (Ae _ hj)) (fun u hu=>?_) h;rcases A7.1 hu with hu | hu
   ·exact hd u hu
   ·rw[Am.1 hu];exact cB (hl i (Aa ..)) hd hi
section
variable {x:List Rl}{roots:List Rq}{s:SS}
theorem Fl.few(hx:A4 x=0)(hr:BS roots=0)(h:Fl x roots s):∀t∈s.drv,mr t:=fun t ht =>
 (On (l0:=s.infs) (fun _ h=>h) (fun _ h=>by cases h) h.der t ht).fewI (ZG hx hr h.len)
theorem HT{i:Nf}{l:List Tm}(h:s.infs.Nodup):(Ec s i l).2.infs.Nodup:=by
 cases hk:LJ i 0 s.infs with
 |some k=>rw[WZ hk];exact h
 |none =>
  by_cases hf:65536≤s.infs.length
  ·rw[UA hk hf];exact h
  ·rw[WY hk hf];show(s.infs++[i]).Nodup;rw[F6];refine⟨h,by simp,fun a ha b hb e=>?_⟩;rw[Am.1 hb]at e;exact P0 hk (e▸ha)
theorem Jy.add(h:Jy x roots s){i:Nf}{l:List Tm}(hi:DU x roots s.drv i=some l):Jy x roots (Ec s i l).2∧(Ec s i l).1<(Ec s i l).2.drv.length∧s.drv.length≤(Ec s i l).2.drv.length :=
 ⟨⟨(Kn h.der hi).1,HT h.nodup⟩,(Kn h.der hi).2.1,(Ko s i l).len⟩
theorem Jy.dl(h:Jy x roots s):s.infs.length≤65536∧s.drv.length=s.infs.length∧s.drv.length≤65536:=by
 have h1:=h.der.dlen;have h2:=h.der.len;exact⟨h2,h1,by omega⟩
theorem gM(hx:A4 x=0)(p:ByteArray):∀d,DU x roots d ⟨2,p,0,0,0,0⟩=some (HR p (B8 x p)):=fun d=>by
 obtain⟨u,u0,u1,hu⟩:=bo hx p;have hV:FY []:=fun _ h=>by cases h
 have ou:WU [] p (J9 [] p (Pn u)):=.ver hV (EV ⟨u0,u1⟩);have h1:Bg [(⟨p,false,Ed (B8 x p)⟩:Tm)] (J9 [] p (Pn u))=true:=by
  rw[BA];intro t ht;rw[Am.1 ht];show Di _ (Cb (J9 [] p (Pn u)) p)=true;rw[H8 rfl];show(CN (Pn u)&&has (Ed (B8 x p)) (place (Pn u)))=true;rw[EV ⟨u0,u1⟩,G2,FD,hu];unfold LH;simp[u0,u1]
 have h2:Bg [(⟨p,false,Ed (B8 x p)⟩:Tm)] []=false:=rfl;have DC:HR p (B8 x p)≠[]:=by
  have c1:=CY (l:=[(⟨p,false,Ed (B8 x p)⟩:Tm)]) ou.val;have c2:=CY (l:=[(⟨p,false,Ed (B8 x p)⟩:Tm)]) hV;rw[h1]at c1;rw[h2]at c2;unfold HR PY;cases hc:CP [(⟨p,false,Ed (B8 x p)⟩:Tm)]with
  |none=>rw[hc]at c1;cases c1
  |some c =>
   rw[hc]at c2;intro e;have e:c=[]:=e;rw[e]at c2;cases c2
 unfold DU;rw[Ah (show ¬((2:Int)=0) by decide),Ah (show ¬((2:Int)=1) by decide),Aw rfl,Aw ⟨rfl,rfl,rfl,rfl⟩];unfold cL;rw[Ah (by rw[GJ];exact DC)]
theorem EW{k:Nat}(h:k<s.drv.length):s.drv[k]?=some (DO s k):=by
 unfold DO;rw[Cj,Ge h];rfl
theorem Tj{p:ByteArray}{L:List Nat}{j k:Nat}(hj:j<L.length)(h:s.full=true∨CZ (DO s k) p=false):Cn p (L.drop j) k s=(k,s):=by
 rw[Bs hj];unfold Cn;rw[Aw h]
theorem Zq{p:ByteArray}{L:List Nat}{j k:Nat}(hj:j<L.length)(h1:¬(s.full=true∨CZ (DO s k) p=false))(h:L[j]=k):Cn p (L.drop j) k s=Cn p (L.drop (j+1)) k s:=by
 rw[Bs hj]
 conv=>lhs;unfold Cn
 rw[Ah h1,Aw h]
theorem cH{p:ByteArray}{L:List Nat}{j k:Nat}(hj:j<L.length)(h1:¬(s.full=true∨CZ (DO s k) p=false))(h2:¬L[j]=k)(h:(Bw (DO s k) (DO s L[j]) p).2≠0):Cn p (L.drop j) k s=Cn p (L.drop (j+1)) k s:=by
 rw[Bs hj]
 conv=>lhs;unfold Cn
 rw[Ah h1,Ah h2,Aw h]
theorem cG{p:ByteArray}{L:List Nat}{j k:Nat}(hj:j<L.length)(h1:¬(s.full=true∨CZ (DO s k) p=false))(h2:¬L[j]=k)(h:(Bw (DO s k) (DO s L[j]) p).2=0) :
  Cn p (L.drop j) k s=Cn p (L.drop (j+1)) (Ec s ⟨3,p,0,0,(k:Nat),(L[j]:Nat)⟩ (Bw (DO s k) (DO s L[j]) p).1).1 (Ec s ⟨3,p,0,0,(k:Nat),(L[j]:Nat)⟩ (Bw (DO s k) (DO s L[j]) p).1).2:=by
 rw[Bs hj]
 conv=>lhs;unfold Cn
 rw[Ah h1,Ah h2,Ah (fun h3=>h3 h)]
end
theorem E4{t:List Tm}(h:mr t):Cm t:=by have:=h.1;unfold Cm;omega
theorem yE(x:List Rl)(roots:List Rq)(C A:List (Value×AV))(s:SS)(dec:List Cd)(st:List (List Sk))(p:ByteArray)(n:Nd)(rs:List Nat)(V:AV)(hx:A4 x=0)(hr:BS roots=0)(hs:Jy x roots s)(nx:∀d,DU x roots d (Ta n)=some (IZ n))(sG:∀r∈rs,r<s.drv.length)(WO:rs.length≤1073741823)(hnq:Cm n.rq.set)(hnp:B2 (n.place+1))
  (qc:∀a,(Value.string p,a)∈A→a=V) (qd:(∀a,(Value.string p,a)∉A)→V=.v (.slice none 0 0)) (qe:∀h,PC 160 [vs p,str h V] (sl AF (HR p (B8 x p)))):Be Tryz.prog 128 [.ref 1000 0,vs p,.agg (A9 n),sl BN rs] (Ai (I1 roots C A s dec st) Ab) fun r h'=>mp roots C A dec st (D2 x p n rs s) r h':=by
 have hw:=hs.dl;obtain⟨sH,uH,SP⟩:=hs.add (nx s.drv)
 change Jy x roots (Bl s n).2 at sH
 change (Bl s n).1<(Bl s n).2.drv.length at uH
 change s.drv.length≤(Bl s n).2.drv.length at SP
 have KM:=sH.dl;obtain⟨o6,It,fM⟩:=sH.add (gM hx p (Bl s n).2.drv)
 change Jy x roots (Ej x p (Bl s n).2).2 at o6
 change (Ej x p (Bl s n).2).1<(Ej x p (Bl s n).2).2.drv.length at It
 change (Bl s n).2.drv.length≤(Ej x p (Bl s n).2).2.drv.length at fM
 obtain⟨L,hL⟩:∃L,L=(Ej x p (Bl s n).2).1::rs:=⟨_,rfl⟩;have zm:∀r∈L,r<(Ej x p (Bl s n).2).2.drv.length:=fun r nF=>by
  rw[hL]at nF;rcases Aq.1 nF with rfl | h
  ·exact It
  ·have:=sG r h;omega
 have xp:L.length=rs.length+1:=by rw[hL];rfl
 have uH:(Bl s n).1<(Ej x p (Bl s n).2).2.drv.length:=by omega
 refine Co (MF ⟨[6],[],[],[],[],[],[],[],[],[],[2,3,7,8,10,12]⟩) [(1000,1000),(1001,1001),(1002,1002),(1003,1003),(1004,1004)] rfl CB hm rfl Tryz.func128 (by kernel_rfl) rfl (Nz rfl) (by kernel_rfl) rfl ?_;refine Yi (Nz rfl) ?_;refine Xi (.gen YC 0) (Yi rfl (Be.imp (wU roots C A s dec st n hw.1 hw.2.1 hs.nodup hnq hnp) ?_));intro v1 g1 q1;have ip:=q1.1;have iq:=q1.2;subst ip;subst iq;refine Xi ⟨[(0,.ref 1000 0),(1,vs p),(3,sl BN rs),(9,vi (((Bl s n).1:Nat):Int))],[(1000,.cells [sl AM roots,.cmap C3 C,.cmap C3 A,.slice (.id 1001 6) ((Bl s n).2.infs.map BX),.slice (.id 1002 1) ((Bl s n).2.drv.map Ca),.mref 1003,vb (Bl s n).2.full,sl AE dec,sl Af (AK dec),.msl 1004 st.length]),(1001,.tok 6 (Bl s n).2.infs.length),(1002,.tok 1 (Bl s n).2.drv.length),(1003,.map DW (DY 0 (Bl s n).2.infs)),(1004,.arr 1 (st.map AS))],Ab⟩ (Yi ⟨Z4,Z5,Fh,Ay (by kernel_rfl)⟩ ?_)
 refine OH V (.v (.slice none 0 0)) qc qd (fun h=>h) ?_;refine Xi .pure (Xi _ (Yi (qe _) ?_));refine Xi (.gen YC 0) (Yi rfl (Be.imp (lg roots C A (Bl s n).2 dec st ⟨2,p,0,0,0,0⟩ (HR p (B8 x p)) KM.1 KM.2.1 sH.nodup) ?_));intro v2 g2 q2;have wj:=q2.1;have wk:=q2.2;subst wj;subst wk;refine Xi ⟨[(0,.ref 1000 0),(1,vs p),(3,sl BN rs),(9,vi (((Bl s n).1:Nat):Int)),(10,vi (((Ej x p (Bl s n).2).1:Nat):Int))],[(1000,.cells [sl AM roots,.cmap C3 C,.cmap C3 A,.slice (.id 1001 6) ((Ej x p (Bl s n).2).2.infs.map BX),.slice (.id 1002 1) ((Ej x p (Bl s n).2).2.drv.map Ca),.mref 1003,vb (Ej x p (Bl s n).2).2.full,sl AE dec,sl Af (AK dec),.msl 1004 st.length]),(1001,.tok 6 (Ej x p (Bl s n).2).2.infs.length),(1002,.tok 1 (Ej x p (Bl s n).2).2.drv.length),(1003,.map DW (DY 0 (Ej x p (Bl s n).2).2.infs)),(1004,.arr 1 (st.map AS))],Ab⟩ (Yi ⟨Z5,Z5,Fh,Ay (by kernel_rfl)⟩ ?_)
 have b3:Do 1 (rs.map BN)∧([[vi (((Ej x p (Bl s n).2).1:Nat):Int)]]:List (List AV)).length=1∧(([[vi (((Ej x p (Bl s n).2).1:Nat):Int)]]:List (List AV)).length+(rs.map BN).length)*8≤140737488355328∧([[vi (((Ej x p (Bl s n).2).1:Nat):Int)]]:List (List AV)).length+(rs.map BN).length≤9223372036854775807:=⟨(Ez (enc:=BN) (n:=1) (fun _=>rfl) rs),(by first | (simp;done) | (rw[Lm];assumption)),(by simp only[Lm,Au,AC];omega),(by simp only[Lm,Au,AC];omega)⟩
 refine Yi b3 ?_;refine Xi {q:Nat×Nat×SS // q.1≤L.length∧Cn p (L.drop q.1) q.2.1 q.2.2=Cn p L (Bl s n).1 (Ej x p (Bl s n).2).2∧Jy x roots q.2.2∧q.2.1<q.2.2.drv.length∧∀r∈L,r<q.2.2.drv.length} (Xi (fun q=>⟨[(0,.ref 1000 0),(1,vs p),(9,vi q.1.2.1),(33,.slice (.id 31 1) (L.map BN)),(34,vi (L.map BN).length),(35,vi q.1.1)],[(31,.tok 1 (L.map BN).length),(1000,.cells (srM roots C A q.1.2.2 dec 1004 st.length)),(1001,.tok 6 q.1.2.2.infs.length),(1002,.tok 1 q.1.2.2.drv.length),(1003,.map DW (DY 0 q.1.2.2.infs)),(1004,.arr 1 (st.map AS))],Ab⟩) (Xi (fun q=>L.length-q.1.1) (Yi (Xi ⟨(0,(Bl s n).1,(Ej x p (Bl s n).2).2),AO _,by rw[List.drop_zero],o6,uH,zm⟩ ?_) ?_)))
 ·exact⟨⟨Zr,Zr,Zr,⟨(show AV.slice (.id 31 1) ([[vi (((Ej x p (Bl s n).2).1:Nat):Int)]]++rs.map BN)=.slice (.id 31 1) (L.map BN) by rw[hL];rfl),rfl⟩,⟨(show vi (([[vi (((Ej x p (Bl s n).2).1:Nat):Int)]]++rs.map BN:List (List AV)).length:Int)=vi ((L.map BN).length:Int) by rw[hL];rfl),rfl⟩,Zr,Tv⟩,⟨⟨(show HO.tok 1 (([[vi (((Ej x p (Bl s n).2).1:Nat):Int)]]:List (List AV)).length+(rs.map BN).length)=.tok 1 (L.map BN).length by rw[hL];simp[Nat.add_comm]),rfl⟩,Zr,Zr,Zr,Zr,Zr,Tv⟩,Fh,Ay (by kernel_rfl)⟩
 intro⟨⟨j,k,S⟩,j1,j2,j3,j4,j5⟩;have j1:j≤L.length:=j1;have j2:Cn p (L.drop j) k S=Cn p L (Bl s n).1 (Ej x p (Bl s n).2).2:=j2;have j3:Jy x roots S:=j3;have j4:k<S.drv.length:=j4;have j5:∀r∈L,r<S.drv.length:=j5;have x7:=j3.dl;have sv:=j3.der.few hx hr;have gk:S.drv[k]?=some (DO S k):=EW j4;refine Yi (fun h4=>?_) (fun h4=>?_)
 ·have h4:(j:Int)<((L.map BN).length:Int):=h4;have n4:=Ld h4;refine Xi (BN L[j]) (Yi (Pu n4) (Yi rfl ?_));refine Yi (fun h5=>?_) (fun h5=>?_)
  ·have h5:S.full=true:=h5;refine Xi ⟨[(9,vi k)],[(1000,.cells (srM roots C A S dec 1004 st.length)),(1001,.tok 6 S.infs.length),(1002,.tok 1 S.drv.length),(1003,.map DW (DY 0 S.infs)),(1004,.arr 1 (st.map AS))],Ab⟩ (Yi ⟨Z1,Z5,Fh,Ay (by kernel_rfl)⟩ ?_)
   have eR:Cn p L (Bl s n).1 (Ej x p (Bl s n).2).2=(k,S):=by rw[←j2];exact Tj n4 (.inl h5)
   have eL:D2 x p n rs s=(k,S):=by unfold D2;rw[←hL];exact eR
   exact Xi _ (Yi (.refl _) (Yi (show vi (k:Int)=vi (((D2 x p n rs s).1:Nat):Int) by rw[eL]) (show Ai (I1 roots C A S dec st) Ab=Ai (I1 roots C A (D2 x p n rs s).2 dec st) Ab by rw[eL])))
  have h5:S.full=false:=h5;refine Xi (Ca (DO S k)) (Yi (Yi (Nn k) (Ch gk)) (Yi rfl ?_));refine BU (Bt (CZ (DO S k) p)) (fun h7=>?_) (fun h7=>?_)
  ·have h7:(CZ (DO S k) p)=true:=h7;refine Xi .pure (Xi _ (Yi (cb h7 (jn (DO S k) p (E4 (sv _ (Av (EW j4)))))) ?_));refine Xi ⟨[(0,.ref 1000 0),(1,vs p),(9,vi k),(12,vi (L[j]:Nat)),(33,.slice (.id 31 1) (L.map BN)),(34,vi (L.map BN).length),(35,vi j)],[(31,.tok 1 (L.map BN).length),(1000,.cells (srM roots C A S dec 1004 st.length)),(1001,.tok 6 S.infs.length),(1002,.tok 1 S.drv.length),(1003,.map DW (DY 0 S.infs)),(1004,.arr 1 (st.map AS))],Ab⟩ (Yi ⟨Z7,Z6,Fh,Ay (by kernel_rfl)⟩ ?_)
   refine Yi (fun h8=>?_) (fun h8=>?_)
   ·have h8:((L[j]:Nat):Int)=(k:Int):=h8;refine Xi ⟨[(0,.ref 1000 0),(1,vs p),(9,vi k),(33,.slice (.id 31 1) (L.map BN)),(34,vi (L.map BN).length),(35,vi j)],[(31,.tok 1 (L.map BN).length),(1000,.cells (srM roots C A S dec 1004 st.length)),(1001,.tok 6 S.infs.length),(1002,.tok 1 S.drv.length),(1003,.map DW (DY 0 S.infs)),(1004,.arr 1 (st.map AS))],Ab⟩ (Yi ⟨Z6,Z6,Fh,Ay (by kernel_rfl)⟩ ?_)
    refine Yi (Ii j (by omega)) ?_;refine Xi ⟨(j+1,k,S),Fo n4,by rw[←(Zq (s:=S) (p:=p) (L:=L) (j:=j) (k:=k) n4 (by rw[h5,h7];simp) (by have q:=h8;omega))];exact j2,j3,j4,j5⟩ ?_;exact⟨Dl L.length j (by omega),Z6,Z6,Fh,Ay (by kernel_rfl)⟩
   have h8:¬(((L[j]:Nat):Int)=(k:Int)):=h8;refine Xi (Ca (DO S k)) (Yi (Yi (Nn k) (Ch gk)) (Yi rfl ?_));refine Xi (Ca (DO S L[j])) (Yi (Yi (show(0:Int)≤(L[j]:Nat) by omega) (Ch (EW (j5 _ (Ap n4))))) (Yi rfl ?_));have fk:=sv _ (Av (EW j4));have fr:=sv _ (Av (EW (j5 _ (Ap n4))));refine Xi _ (Yi (tM (DO S k) (DO S L[j]) p fk.1 fr.1 fk.2 fr.2) ?_);refine Yi (by kernel_rfl) ?_;refine Xi ⟨[(0,.ref 1000 0),(1,vs p),(9,vi k),(12,vi (L[j]:Nat)),(13,sl AF (Bw (DO S k) (DO S L[j]) p).1),(14,vi (Bw (DO S k) (DO S L[j]) p).2),(33,.slice (.id 31 1) (L.map BN)),(34,vi (L.map BN).length),(35,vi j)],[(31,.tok 1 (L.map BN).length),(1000,.cells (srM roots C A S dec 1004 st.length)),(1001,.tok 6 S.infs.length),(1002,.tok 1 S.drv.length),(1003,.map DW (DY 0 S.infs)),(1004,.arr 1 (st.map AS))],Ab⟩ (Yi ⟨Z9,Z6,Fh,Ay (by kernel_rfl)⟩ ?_)
   refine Yi (fun SG=>?_) (fun SG=>?_)
   ·have SG:((Bw (DO S k) (DO S L[j]) p).2:Int)≠(0:Int):=SG;refine Xi ⟨[(0,.ref 1000 0),(1,vs p),(9,vi k),(33,.slice (.id 31 1) (L.map BN)),(34,vi (L.map BN).length),(35,vi j)],[(31,.tok 1 (L.map BN).length),(1000,.cells (srM roots C A S dec 1004 st.length)),(1001,.tok 6 S.infs.length),(1002,.tok 1 S.drv.length),(1003,.map DW (DY 0 S.infs)),(1004,.arr 1 (st.map AS))],Ab⟩ (Yi ⟨Z6,Z6,Fh,Ay (by kernel_rfl)⟩ ?_)
    refine Yi (Ii j (by omega)) ?_;refine Xi ⟨(j+1,k,S),Fo n4,by rw[←(cH (s:=S) (p:=p) (L:=L) (j:=j) (k:=k) n4 (by rw[h5,h7];simp) (by have q:=h8;omega) SG)];exact j2,j3,j4,j5⟩ ?_;exact⟨Dl L.length j (by omega),Z6,Z6,Fh,Ay (by kernel_rfl)⟩
   have SG:((Bw (DO S k) (DO S L[j]) p).2:Int)=(0:Int):=Bn SG;refine Xi (.gen YC 0) (Yi rfl (Be.imp (lg roots C A S dec st ⟨3,p,0,0,(k:Nat),(L[j]:Nat)⟩ (Bw (DO S k) (DO S L[j]) p).1 x7.1 x7.2.1 j3.nodup) ?_));intro v12 g12 kZ;have ol:=kZ.1;have om:=kZ.2;subst ol;subst om;refine Xi ⟨[(0,.ref 1000 0),(1,vs p),(9,vi (((Ec S ⟨3,p,0,0,(k:Nat),(L[j]:Nat)⟩ (Bw (DO S k) (DO S L[j]) p).1).1:Nat):Int)),(33,.slice (.id 31 1) (L.map BN)),(34,vi (L.map BN).length),(35,vi j)],[(31,.tok 1 (L.map BN).length),(1000,.cells [sl AM roots,.cmap C3 C,.cmap C3 A,.slice (.id 1001 6) ((Ec S ⟨3,p,0,0,(k:Nat),(L[j]:Nat)⟩ (Bw (DO S k) (DO S L[j]) p).1).2.infs.map BX),.slice (.id 1002 1) ((Ec S ⟨3,p,0,0,(k:Nat),(L[j]:Nat)⟩ (Bw (DO S k) (DO S L[j]) p).1).2.drv.map Ca),.mref 1003,vb (Ec S ⟨3,p,0,0,(k:Nat),(L[j]:Nat)⟩ (Bw (DO S k) (DO S L[j]) p).1).2.full,sl AE dec,sl Af (AK dec),.msl 1004 st.length]),(1001,.tok 6 (Ec S ⟨3,p,0,0,(k:Nat),(L[j]:Nat)⟩ (Bw (DO S k) (DO S L[j]) p).1).2.infs.length),(1002,.tok 1 (Ec S ⟨3,p,0,0,(k:Nat),(L[j]:Nat)⟩ (Bw (DO S k) (DO S L[j]) p).1).2.drv.length),(1003,.map DW (DY 0 (Ec S ⟨3,p,0,0,(k:Nat),(L[j]:Nat)⟩ (Bw (DO S k) (DO S L[j]) p).1).2.infs)),(1004,.arr 1 (st.map AS))],Ab⟩ (Yi ⟨Z6,Z6,Fh,Ay (by kernel_rfl)⟩ ?_)
   refine Yi (Ii j (by omega)) ?_;obtain⟨a1,a2,a3⟩:=j3.add (U8 (x:=x) (roots:=roots) (p:=p) j4 (j5 _ (Ap n4)) SG);refine Xi ⟨(j+1,(Ec S ⟨3,p,0,0,(k:Nat),(L[j]:Nat)⟩ (Bw (DO S k) (DO S L[j]) p).1).1,(Ec S ⟨3,p,0,0,(k:Nat),(L[j]:Nat)⟩ (Bw (DO S k) (DO S L[j]) p).1).2),Fo n4,by rw[←(cG (s:=S) (p:=p) (L:=L) (j:=j) (k:=k) n4 (by rw[h5,h7];simp) (by have q:=h8;omega) SG)];exact j2,a1,a2,fun r hr=>BJ (j5 r hr) a3⟩ ?_;exact⟨Dl L.length j (by omega),Z6,Z6,Fh,Ay (by kernel_rfl)⟩
  have h7:(CZ (DO S k) p)=false:=h7;refine Xi .pure (Xi _ (Yi (cb h7 (jn (DO S k) p (E4 (sv _ (Av (EW j4)))))) ?_));refine Xi ⟨[(9,vi k)],[(1000,.cells (srM roots C A S dec 1004 st.length)),(1001,.tok 6 S.infs.length),(1002,.tok 1 S.drv.length),(1003,.map DW (DY 0 S.infs)),(1004,.arr 1 (st.map AS))],Ab⟩ (Yi ⟨Z1,Z5,Fh,Ay (by kernel_rfl)⟩ ?_)
  have eR:Cn p L (Bl s n).1 (Ej x p (Bl s n).2).2=(k,S):=by rw[←j2];exact Tj n4 (.inr h7)
  have eL:D2 x p n rs s=(k,S):=by unfold D2;rw[←hL];exact eR
  exact Xi _ (Yi (.refl _) (Yi (show vi (k:Int)=vi (((D2 x p n rs s).1:Nat):Int) by rw[eL]) (show Ai (I1 roots C A S dec st) Ab=Ai (I1 roots C A (D2 x p n rs s).2 dec st) Ab by rw[eL])))
 have h4:¬((j:Int)<((L.map BN).length:Int)):=h4;have n4:=Lc h4;have hj:¬j<L.length:=by have q:=h4;rw[Lm]at q;omega
 have eR:Cn p L (Bl s n).1 (Ej x p (Bl s n).2).2=(k,S):=by rw[←j2,He (by omega)];rfl
 have eL:D2 x p n rs s=(k,S):=by unfold D2;rw[←hL];exact eR
 exact Xi _ (Yi (.refl _) (Yi (show vi (k:Int)=vi (((D2 x p n rs s).1:Nat):Int) by rw[eL]) (show Ai (I1 roots C A S dec st) Ab=Ai (I1 roots C A (D2 x p n rs s).2 dec st) Ab by rw[eL])))
abbrev YD:IT:=[(1000,1000),(1001,1001),(1002,1002),(1003,1003),(500,1004)]
abbrev s7(roots:List Rq)(C A:List (Value×AV))(s:SS)(dec:List Cd)(st:List (List Sk)):List (Nat×HO) :=
 [(1000,.cells (srM roots C A s dec 2000 st.length)),(1001,.tok 6 s.infs.length),(1002,.tok 1 s.drv.length),(1003,.map DW (DY 0 s.infs)),(1004,.dead),(2000,.arr 1 (st.map AS))]
abbrev YE(roots:List Rq)(C A:List (Value×AV))(o:JV)(r:AV)(h' : Nat→HO):Prop:=r=.tup [vi (o.res:Nat),vb o.found]∧h'=Ai (s7 roots C A o.ss o.dec o.stack) Ab
def yJ(roots:List Rq)(C A:List (Value×AV)):Prop:=∀(s:SS) (dec:List Cd) (st:List (List Sk)),dec.length≤1000→(∀c∈dec,c.rel.reqs.length≤1073741824) →
 Be Tryz.prog 119 [.ref 1000 0] (Ai (I1 roots C A s dec st) Ab) fun r h'=>r=.tup [vs (GA roots dec).1,sl A9 (GA roots dec).2]∧h'=Ai (I1 roots C A s dec st) Ab
theorem Nu{roots:List Rq}{C A:List (Value×AV)}{o:JV}{k:Nat}{b:Bool}{s:SS}{dec:List Cd}{st:List (List Sk)}(e:o=⟨k,b,s,dec,st⟩) :
  AV.tup [vi (k:Nat),vb b]=.tup [vi (o.res:Nat),vb o.found]∧Ai (s7 roots C A s dec st) Ab=Ai (s7 roots C A o.ss o.dec o.stack) Ab:=by rw[e];exact Zr
abbrev YB:IT:=[(1000,1000),(1001,1001),(1002,1002),(1003,1003),(1004,1004),(1005,1005),(1006,1006),(1007,1007),(1008,1008),(1009,1009)]
def FZ(roots:List Rq)(dec:List Cd)(m:Nat):ByteArray×List Nd:=((Dr roots dec).take m).foldl (Eh dec) (mt,[])
theorem Ya{roots:List Rq}{dec:List Cd}{m:Nat}{n:Nd}(h:(Dr roots dec)[m]?=some n):FZ roots dec (m+1)=Eh dec (FZ roots dec m) n:=by
 unfold FZ;rw[Bu,h,Ke];rfl
theorem kN{roots:List Rq}{dec:List Cd}{m:Nat}(h:(Dr roots dec).length≤m):FZ roots dec m=GA roots dec:=by
 unfold FZ GA;rw[AT h]
def E3(roots:List Rq)(dec:List Cd)(j:Nat):Nat:=roots.length+((dec.take j).map fun c=>c.rel.reqs.length).sum
theorem TL(c:Cd):(Qd c).length=c.rel.reqs.length:=KE _ _ _
theorem cW(roots:List Rq)(dec:List Cd):E3 roots dec 0=roots.length:=by unfold E3;simp
theorem cV{roots:List Rq}{dec:List Cd}{j:Nat}(h:j<dec.length):E3 roots dec (j+1)=E3 roots dec j+dec[j].rel.reqs.length:=by
 unfold E3;rw[Kh h,AH,List.sum_append];simp[Nat.add_assoc]
theorem Yd(roots:List Rq)(dec:List Cd):E3 roots dec dec.length=(Dr roots dec).length:=by
 unfold E3 Dr Yr;rw[Du,Ad,KE,List.length_flatten,BO]
 congr 2
 exact Bf fun c _=>(TL c).symm
theorem cN{roots:List Rq}{dec:List Cd}{i:Nat}(h:i<roots.length):(Dr roots dec)[i]?=some ⟨roots[i],mt,0,(i:Nat)⟩:=by
 unfold Dr Yr;rw[AY (by rw[KE];exact h),OZ,Ge h,Fw,Bi]
theorem Xv{α:Type}:∀{l:List (List α)} {j k:Nat} (hj:j<l.length),k<l[j].length→l.flatten[((l.take j).map List.length).sum+k]?=l[j][k]?
 |y::l,0,k,_,hk=>by
  rw[By,List.take_zero,E1,List.sum_nil,Bi,AY (show k<y.length from hk)];rfl
 |y::l,j+1,k,hj,hk=>by
  rw[By,IS,AN,List.sum_cons,A5 (by omega)]
  have:=Xv (l:=l) (j:=j) (k:=k) (by simpa using hj) hk
  rw[show y.length+((l.take j).map List.length).sum+k-y.length=((l.take j).map List.length).sum+k by omega,this]
  rfl
theorem gH{roots:List Rq}{dec:List Cd}{j k:Nat}(hj:j<dec.length)(hk:k<dec[j].rel.reqs.length):(Dr roots dec)[E3 roots dec j+k]?=some ⟨dec[j].rel.reqs[k],dec[j].rel.path,dec[j].place,(k:Nat)⟩:=by
 unfold Dr Yr E3;rw[A5 (by rw[KE];omega),KE];have h:=Xv (l:=dec.map Qd) (j:=j) (k:=k) (by simpa using hj) (by rw[GI,TL];exact hk);rw[←Re,BO,show(List.length ∘ Qd)=fun c=>c.rel.reqs.length from funext TL]at h;rw[show roots.length+((dec.take j).map fun c=>c.rel.reqs.length).sum+k-roots.length=((dec.take j).map fun c=>c.rel.reqs.length).sum+k by omega,h,GI];unfold Qd;rw[OZ,Ge hk,Fw,Bi]
abbrev gP(roots:List Rq)(C A:List (Value×AV))(s:SS)(dec:List Cd)(st:List (List Sk))(m:Nat):List (Nat×HO) :=
  [(1000,.cells (s5 roots C A s dec st.length)),(1001,.tok 6 s.infs.length),(1002,.tok 1 s.drv.length),(1003,.map DW (DY 0 s.infs)),(1004,.arr 1 (st.map AS)),
   (1005,.cells [.ref 1000 0]),(1006,.cells [vs (FZ roots dec m).1]),(1007,.cells [.slice (.ver 1008 5 m) ((FZ roots dec m).2.map A9)]),(1008,.var 5 m ((FZ roots dec m).2.map A9).length),(1009,.cells [.ref 1000 0])]
noncomputable abbrev y8(pl:T2)(l:Nat)(Y:Gh→World→Prop):Cx:=⟨Tryz.prog,mn,pl,true,0,fun l' σ' g w=>l'=l→σ'=YB→Y g w⟩
theorem IJ.pre{P:Program}{Y Y' : Gh→World→Prop}{l:Nat}{args:List AV}{h0:Nat→HO}{Q:AV→(Nat→HO)→Prop}(h:IJ P Y l args h0 Q)(hp:∀g w,Y' g w→Y g w):IJ P Y' l args h0 Q :=
 fun g w vals q1 q2 q3 q4=>h g w vals q1 q2 q3 (hp g w q4)
theorem wK(roots:List Rq)(C A:List (Value×AV))(s:SS)(dec:List Cd)(st:List (List Sk)):Be Tryz.prog 150 [.ref 1000 0] (Ai (I1 roots C A s dec st) Ab) fun r h'=>r=.clo 192 [.ref 2000 0]∧h'=Ai (I1 roots C A s dec st++[(2000,.cells [.ref 1000 0])]) Ab:=by
 refine Co (MF ⟨[],[],[],[],[],[],[],[],[],[],[]⟩) [(1000,1000),(1001,1001),(1002,1002),(1003,1003),(1004,1004),(1,2000)] rfl CB hm rfl Tryz.func150 (by kernel_rfl) rfl (Nz rfl) (by kernel_rfl) rfl ?_;exact Xi _ (Yi (.refl _) Zr)
theorem wL{Y:Gh→World→Prop}(l:Nat)(roots:List Rq)(C A:List (Value×AV))(s:SS)(dec:List Cd)(st:List (List Sk))(hr:roots.length≤1073741824)(hd:dec.length≤1073741824)(oY:∀c∈dec,c.rel.reqs.length≤1073741824)
  (hy:∀m n,(Dr roots dec)[m]?=some n→IJ Tryz.prog Y l [.agg (A9 n)] (Ai (gP roots C A s dec st m) Ab) fun r h'=>r=vb true∧h'=Ai (gP roots C A s dec st (m+1)) Ab) :
  WS Tryz.prog Y YB 192 [.v (.func (.yield l) #[] #[]),.ref 1005 0] (Ai (gP roots C A s dec st 0) Ab) fun _ h'=>h'=Ai (gP roots C A s dec st (Dr roots dec).length) Ab:=by
 have hr:roots.length≤1073741824:=hr;refine fY (l:=l) (y8 ⟨[],[],[],[],[],[],[],[],[],[],[4,12]⟩ l Y) YB rfl CB hm rfl Tryz.func192 (by kernel_rfl) rfl (Nz rfl) (by kernel_rfl) rfl rfl ?_;refine Xi {i:Nat // i≤roots.length} (Xi (fun q=>⟨[(0,.v (.func (.yield l) #[] #[])),(1,.ref 1005 0),(12,sl AM roots),(13,vi (roots.map AM).length),(14,vi q.1)],[(1000,.cells (srM roots C A s dec 1004 st.length)),(1001,.tok 6 s.infs.length),(1002,.tok 1 s.drv.length),(1003,.map DW (DY 0 s.infs)),(1004,.arr 1 (st.map AS)),(1005,.cells [.ref 1000 0]),(1006,.cells [vs (FZ roots dec q.1).1]),(1007,.cells [.slice (.ver 1008 5 q.1) ((FZ roots dec q.1).2.map A9)]),(1008,.var 5 q.1 ((FZ roots dec q.1).2.map A9).length),(1009,.cells [.ref 1000 0])],Ab⟩) (Xi (fun q=>roots.length-q.1) (Yi (Xi ⟨0,AO _⟩ ?_) ?_)))
 ·exact⟨Z5,Z10,Fh,Ay (by kernel_rfl)⟩
 intro⟨i,i1⟩;have i1:i≤roots.length:=i1;refine Yi (fun h1=>?_) (fun h1=>?_)
 ·have h1:(i:Int)<((roots.map AM).length:Int):=h1;have n1:=Ld h1;refine Xi (AM roots[i]) (Yi (Pu n1) (Yi rfl ?_));refine Yi (Nz rfl) ?_;refine Yi (Nz rfl) ?_;refine Yi (Nz rfl) ?_;refine Xi (.gen YB 0) (Yi rfl (IJ.imp (IJ.pre (hy i ⟨roots[i],mt,0,(i:Nat)⟩ (cN n1)) (fun g w q=>q rfl rfl)) ?_));intro v2 g2 q2;have wj:=q2.1;have wk:=q2.2;subst wj;subst wk;refine Xi ⟨[(0,.v (.func (.yield l) #[] #[])),(1,.ref 1005 0),(12,sl AM roots),(13,vi (roots.map AM).length),(14,vi i)],[(1000,.cells (srM roots C A s dec 1004 st.length)),(1001,.tok 6 s.infs.length),(1002,.tok 1 s.drv.length),(1003,.map DW (DY 0 s.infs)),(1004,.arr 1 (st.map AS)),(1005,.cells [.ref 1000 0]),(1006,.cells [vs (FZ roots dec (i+1)).1]),(1007,.cells [.slice (.ver 1008 5 (i+1)) ((FZ roots dec (i+1)).2.map A9)]),(1008,.var 5 (i+1) ((FZ roots dec (i+1)).2.map A9).length),(1009,.cells [.ref 1000 0])],Ab⟩ (Yi ⟨Z5,Z10,Fh,Ay (by kernel_rfl)⟩ ?_)
  refine Yi (Ii i (by omega)) ?_;refine Xi ⟨i+1,by omega⟩ ?_;exact⟨Dl roots.length i (by omega),Z5,Z10,Fh,Ay (by kernel_rfl)⟩
 have h1:¬((i:Int)<((roots.map AM).length:Int)):=h1;have n1:=Lc h1;have hE:i=E3 roots dec 0:=by rw[cW];omega
 refine Xi {j:Nat // j≤dec.length} (Xi (fun q=>⟨[(0,.v (.func (.yield l) #[] #[])),(29,sl AE dec),(30,vi (dec.map AE).length),(31,vi q.1)],[(1000,.cells (srM roots C A s dec 1004 st.length)),(1001,.tok 6 s.infs.length),(1002,.tok 1 s.drv.length),(1003,.map DW (DY 0 s.infs)),(1004,.arr 1 (st.map AS)),(1005,.cells [.ref 1000 0]),(1006,.cells [vs (FZ roots dec (E3 roots dec q.1)).1]),(1007,.cells [.slice (.ver 1008 5 (E3 roots dec q.1)) ((FZ roots dec (E3 roots dec q.1)).2.map A9)]),(1008,.var 5 (E3 roots dec q.1) ((FZ roots dec (E3 roots dec q.1)).2.map A9).length),(1009,.cells [.ref 1000 0])],Ab⟩) (Xi (fun q=>dec.length-q.1) (Yi (Xi ⟨0,AO _⟩ ?_) ?_)))
 ·exact⟨Z4,⟨Zr,Zr,Zr,Zr,Zr,Zr,⟨(show .cells [vs (FZ roots dec i).1]=(.cells [vs (FZ roots dec (E3 roots dec 0)).1]:HO) by rw[hE]),rfl⟩,⟨(show .cells [.slice (.ver 1008 5 i) ((FZ roots dec i).2.map A9)]=(.cells [.slice (.ver 1008 5 (E3 roots dec 0)) ((FZ roots dec (E3 roots dec 0)).2.map A9)]:HO) by rw[hE]),rfl⟩,⟨(show .var 5 i ((FZ roots dec i).2.map A9).length=(.var 5 (E3 roots dec 0) ((FZ roots dec (E3 roots dec 0)).2.map A9).length:HO) by rw[hE]),rfl⟩,Zr,Tv⟩,Fh,Ay (by kernel_rfl)⟩
 intro⟨j,j1⟩;have j1:j≤dec.length:=j1;refine Yi (fun h4=>?_) (fun h4=>?_)
 ·have h4:(j:Int)<((dec.map AE).length:Int):=h4;have n4:=Ld h4;have sr:=oY dec[j] (Ap n4);refine Xi (AE dec[j]) (Yi (Pu n4) (Yi rfl ?_));refine Yi (Nz rfl) ?_;refine Yi (Nz rfl) ?_;refine Xi {k:Nat // k≤dec[j].rel.reqs.length} (Xi (fun q=>⟨[(0,.v (.func (.yield l) #[] #[])),(6,.ref 6 0),(29,sl AE dec),(30,vi (dec.map AE).length),(31,vi j),(37,sl AM dec[j].rel.reqs),(38,vi (dec[j].rel.reqs.map AM).length),(39,vi q.1)],[(6,.cells (AE dec[j])),(1000,.cells (srM roots C A s dec 1004 st.length)),(1001,.tok 6 s.infs.length),(1002,.tok 1 s.drv.length),(1003,.map DW (DY 0 s.infs)),(1004,.arr 1 (st.map AS)),(1005,.cells [.ref 1000 0]),(1006,.cells [vs (FZ roots dec (E3 roots dec j+q.1)).1]),(1007,.cells [.slice (.ver 1008 5 (E3 roots dec j+q.1)) ((FZ roots dec (E3 roots dec j+q.1)).2.map A9)]),(1008,.var 5 (E3 roots dec j+q.1) ((FZ roots dec (E3 roots dec j+q.1)).2.map A9).length),(1009,.cells [.ref 1000 0])],Ab⟩) (Xi (fun q=>dec[j].rel.reqs.length-q.1) (Yi (Xi ⟨0,AO _⟩ ?_) ?_)))
  ·exact⟨Z8,Z11,Fh,Ay (by kernel_rfl)⟩
  intro⟨k,k1⟩;have k1:k≤dec[j].rel.reqs.length:=k1;refine Yi (fun h5=>?_) (fun h5=>?_)
  ·have h5:(k:Int)<((dec[j].rel.reqs.map AM).length:Int):=h5;have n5:=Ld h5;refine Xi (AM dec[j].rel.reqs[k]) (Yi (Pu n5) (Yi rfl ?_));refine Yi (Nz rfl) ?_;refine Yi (Nz rfl) ?_;refine Yi (Nz rfl) ?_;refine Xi (.gen YB 0) (Yi rfl (IJ.imp (IJ.pre (hy (E3 roots dec j+k) ⟨dec[j].rel.reqs[k],dec[j].rel.path,dec[j].place,(k:Nat)⟩ (gH n4 n5)) (fun g w q=>q rfl rfl)) ?_));intro v6 g6 q6;have wy:=q6.1;have wz:=q6.2;subst wy;subst wz;refine Xi ⟨[(0,.v (.func (.yield l) #[] #[])),(6,.ref 6 0),(29,sl AE dec),(30,vi (dec.map AE).length),(31,vi j),(37,sl AM dec[j].rel.reqs),(38,vi (dec[j].rel.reqs.map AM).length),(39,vi k)],[(6,.cells (AE dec[j])),(1000,.cells (srM roots C A s dec 1004 st.length)),(1001,.tok 6 s.infs.length),(1002,.tok 1 s.drv.length),(1003,.map DW (DY 0 s.infs)),(1004,.arr 1 (st.map AS)),(1005,.cells [.ref 1000 0]),(1006,.cells [vs (FZ roots dec (E3 roots dec j+(k+1))).1]),(1007,.cells [.slice (.ver 1008 5 (E3 roots dec j+(k+1))) ((FZ roots dec (E3 roots dec j+(k+1))).2.map A9)]),(1008,.var 5 (E3 roots dec j+(k+1)) ((FZ roots dec (E3 roots dec j+(k+1))).2.map A9).length),(1009,.cells [.ref 1000 0])],Ab⟩ (Yi ⟨Z8,Z11,Fh,Ay (by kernel_rfl)⟩ ?_)
   refine Yi (Ii k (by omega)) ?_;refine Xi ⟨k+1,by omega⟩ ?_;exact⟨by show dec[j].rel.reqs.length-(k+1)<dec[j].rel.reqs.length-k;omega,Z8,Z11,Fh,Ay (by kernel_rfl)⟩
  have h5:¬((k:Int)<((dec[j].rel.reqs.map AM).length:Int)):=h5;have n5:=Lc h5;refine Yi (Ii j (by omega)) ?_;have hE:E3 roots dec j+k=E3 roots dec (j+1):=by rw[cV n4];omega
  refine Xi ⟨j+1,by omega⟩ ?_;exact⟨Dl dec.length j (by omega),Z4,⟨Zr,Zr,Zr,Zr,Zr,Zr,⟨(show .cells [vs (FZ roots dec (E3 roots dec j+k)).1]=(.cells [vs (FZ roots dec (E3 roots dec (j+1))).1]:HO) by rw[hE]),rfl⟩,⟨(show .cells [.slice (.ver 1008 5 (E3 roots dec j+k)) ((FZ roots dec (E3 roots dec j+k)).2.map A9)]=(.cells [.slice (.ver 1008 5 (E3 roots dec (j+1))) ((FZ roots dec (E3 roots dec (j+1))).2.map A9)]:HO) by rw[hE]),rfl⟩,⟨(show .var 5 (E3 roots dec j+k) ((FZ roots dec (E3 roots dec j+k)).2.map A9).length=(.var 5 (E3 roots dec (j+1)) ((FZ roots dec (E3 roots dec (j+1))).2.map A9).length:HO) by rw[hE]),rfl⟩,Zr,Tv⟩,Fh,Ay (by kernel_rfl)⟩
 have h4:¬((j:Int)<((dec.map AE).length:Int)):=h4;have n4:=Lc h4;exact Ac (fun m=>Ai (gP roots C A s dec st m) Ab) (show E3 roots dec j=(Dr roots dec).length by rw[←Yd];congr 1;omega)
theorem nW{h:Nat→HO}{o k r sz:Nat}{cs:List AV}{K:(Nat→HO)→Prop}(c1:h o=.cells cs)(c2:I0 cs k=.v (.slice none 0 0))(c3:h r=.free)(hk:K (AW (AW h r (.var sz 0 0)) o (.cells (Ey cs k (.slice (.ver r sz 0) []))))):pf h o k r sz K:=by
 unfold pf;rw[c1];show match I0 cs k with
  |.v (.slice none 0 0)=>match h r with
   |.free=>K (AW (AW h r (.var sz 0 0)) o (.cells (Ey cs k (.slice (.ver r sz 0) []))))
   |_=>False
  |_=>False
 rw[c2,c3];exact hk
theorem ot{o k r0 sz:Nat}{bS:Cx}{P:Program}{N:Nat}{fn:Func}{σ:IT}{Q:AV→(Nat→HO)→Prop}{b rest:Code}{st:St}(cs:List AV)(c1:st.h o=.cells cs)(c2:I0 cs k=.v (.slice none 0 0))(c3:st.h r0=.free)(σF σr:IT)(H0 Hn:List (Nat×HO))(gf:Nat)(caps:List AV)
  {lz s:Nat} {ps:Array Tmp} {Gy body:Code} (hb:b=.block lz (.rangeFunc (.tmp s) ps Gy body)) (k1:(Ek σF&&DF (AW (AW st.h r0 (.var sz 0 0)) o (.cells (Ey cs k (.slice (.ver r0 sz 0) [])))) 0 0&&Dk σF 0 0)=true) (k2:Fx σF (AW (AW st.h r0 (.var sz 0 0)) o (.cells (Ey cs k (.slice (.ver r0 sz 0) []))))=Ai H0 Ab) (k3:(GD σr&&Ip σr H0)=true) (k4:Ip σr Hn=true)
  (k5:ren (Cu σF) (AW (AW st.h r0 (.var sz 0 0)) o (.cells (Ey cs k (.slice (.ver r0 sz 0) [])))) (st.t s)=.clo gf caps)
  (k6:∀(l D:Nat) (f' : FuncId) (tm:Array Value),tm.size=N→WS P (fun g w=>w.heap[l]?=some (.loop (HP f' tm ps Gy body D .ready))∧∀i,BH g w (AR (Ai H0 Ab)) (ren (Cu σF) (AW (AW st.h r0 (.var sz 0 0)) o (.cells (Ey cs k (.slice (.ver r0 sz 0) [])))) (st.t i)) (tm.getD i undef)) σr gf
   (.v (.func (.yield l) #[] #[])::caps) (Ai H0 Ab) fun _ h'=>h'=Ai Hn Ab)
  (k7:Es N rest=true) (k8:Rf bS rest (Xm bS fn.results.toList σr fun r h'=>Q (ren (Cu σ) (D6 σF 0 0 (AW (AW st.h r0 (.var sz 0 0)) o (.cells (Ey cs k (.slice (.ver r0 sz 0) [])))) h') (ren (E2 σF 0 0) h' r)) (Fx σ (D6 σF 0 0 (AW (AW st.h r0 (.var sz 0 0)) o (.cells (Ey cs k (.slice (.ver r0 sz 0) [])))) h')))
   ⟨fun i=>ren (Cu σF) (AW (AW st.h r0 (.var sz 0 0)) o (.cells (Ey cs k (.slice (.ver r0 sz 0) [])))) (st.t i),Ai Hn Ab⟩) (k9:Oh [] body=false:=by kernel_rfl):tc o k r0 sz bS P N fn σ Q b rest st :=
 nW c1 c2 c3 ⟨σF,σr,H0,Hn,lz,s,ps,Gy,body,gf,caps,hb,k1,k2,k3,k4,k5,k6,k7,k9,k8⟩
section
variable {roots:List Rq}{C A:List (Value×AV)}{s:SS}{dec:List Cd}{st:List (List Sk)}{n:Nd}
theorem TB{m:Nat}{p:ByteArray}{o:List Nd}(e:FZ roots dec (m+1)=(p,o)){es:List (List AV)}{k:Nat}(h1:es=o.map A9)(h2:k=es.length) :
  Ai [(1000,.cells (s5 roots C A s dec st.length)),(1001,.tok 6 s.infs.length),(1002,.tok 1 s.drv.length),(1003,.map DW (DY 0 s.infs)),(1004,.arr 1 (st.map AS)),
   (1005,.cells [.ref 1000 0]),(1006,.cells [vs p]),(1007,.cells [.slice (.ver 1008 5 (m+1)) es]),(1008,.var 5 (m+1) k),(1009,.cells [.ref 1000 0])] Ab=Ai (gP roots C A s dec st (m+1)) Ab:=by
 subst h1;subst h2
 rw[show gP roots C A s dec st (m+1)=[(1000,.cells (s5 roots C A s dec st.length)),(1001,.tok 6 s.infs.length),(1002,.tok 1 s.drv.length),(1003,.map DW (DY 0 s.infs)),(1004,.arr 1 (st.map AS)),
   (1005,.cells [.ref 1000 0]),(1006,.cells [vs (FZ roots dec (m+1)).1]),(1007,.cells [.slice (.ver 1008 5 (m+1)) ((FZ roots dec (m+1)).2.map A9)]),(1008,.var 5 (m+1) ((FZ roots dec (m+1)).2.map A9).length),(1009,.cells [.ref 1000 0])]from rfl,e]
theorem gR{a:ByteArray×List Nd}(h:De dec n.rq.path=true):Eh dec a n=(a.1,a.2):=by unfold Eh;rw[Aw (.inl h)]
theorem gG{o:List Nd}(h:(0:Int)<((o.map A9).length:Int)):o≠[]:=fun e=>by subst e;simp at h
theorem kJ{o:List Nd}(h:¬(0:Int)<((o.map A9).length:Int)):o=[]:=by
 cases o with
 |nil=>rfl
 |cons y l=>exact absurd (by simp) h
theorem kO{a:ByteArray×List Nd}(h:(0:Int)<((a.2.map A9).length:Int))(hb:Fg a.1 n.rq.path=true):Eh dec a n=(a.1,a.2):=by unfold Eh;rw[Aw (.inr ⟨gG h,hb⟩)]
theorem gS{a:ByteArray×List Nd}(hd:De dec n.rq.path=false)(h:(0:Int)<((a.2.map A9).length:Int))(hb:Fg a.1 n.rq.path=false)(hs:Fg n.rq.path a.1=true):Eh dec a n=(n.rq.path,[n]):=by
 unfold Eh;rw[Ah (by rw[hd,hb];simp),Aw ⟨gG h,hs⟩]
theorem gT{a:ByteArray×List Nd}(hd:De dec n.rq.path=false)(hb:Fg a.1 n.rq.path=false)(hs:Fg n.rq.path a.1=false):Eh dec a n=(n.rq.path,a.2++[n]):=by
 unfold Eh;rw[Ah (by rw[hd,hb];simp),Ah (by rw[hs];simp)]
theorem kQ{a:ByteArray×List Nd}(hd:De dec n.rq.path=false)(h:¬(0:Int)<((a.2.map A9).length:Int)):Eh dec a n=(n.rq.path,a.2++[n]):=by
 have:=kJ h
 unfold Eh;rw[Ah (by rw[hd,this];simp),Ah (by rw[this];simp)]
theorem kP(a:ByteArray×List Nd)(n:Nd):(Eh dec a n).2.length≤a.2.length+1:=by
 unfold Eh;split
 ·omega
 ·split
  ·simp
  ·simp
theorem aN:∀(m:Nat),(FZ roots dec m).2.length≤m
 |0=>Aj _
 |m+1=>by
  have ih:=aN m;cases h:(Dr roots dec)[m]? with
  |none =>
   have e:FZ roots dec (m+1)=FZ roots dec m:=by unfold FZ;rw[Bu,h];simp
   rw[e];omega
  |some n=>rw[Ya h];exact AU (kP _ _) (DL ih)
theorem Yv:∀{l l' : List (Nat×HO)},l.map Prod.fst=l'.map Prod.fst→(∀p∈l',p.2≠.free)→∀i,AR (Ai l Ab) i→AR (Ai l' Ab) i
 | [],[],_,_,_,h=>h
 |(a,o)::l,(a',o')::l',e,h,i,hu=>by
  rw[AN,AN]at e
  injection e with e1 e2
  have e1:a=a':=e1;subst e1;unfold AR at *
  by_cases q:i=a
  ·subst q;simp only[Ai,CW,JH];exact h _ (Aa ..)
  ·simp only[Ai,CL q,En]at hu⊢;exact Yv e2 (fun p hp=>h p (Ae _ hp)) i hu
theorem gQ(m:Nat):∀i,AR (Ai (gP roots C A s dec st 0) Ab) i→AR (Ai (gP roots C A s dec st m) Ab) i:=Yv rfl (by
 repeat (first | exact BP _ | refine Bv.2 ⟨by simp,?_⟩))
theorem bj:∀{l:List Cd},(∀c∈l,c.rel.reqs.length≤1073741824)→((l.map fun c=>c.rel.reqs.length)).sum≤l.length*1073741824
 | [],_=>by simp
 |c::l,h=>by
  have h1:=h c (Aa ..);have h2:=bj fun c hc=>h c (Ae _ hc);rw[AN,List.sum_cons,Au];omega
theorem cO(hr:roots.length≤1073741824)(hd:dec.length≤1000)(h:∀c∈dec,c.rel.reqs.length≤1073741824):(Dr roots dec).length≤1074815565824:=by
 rw[←Yd];unfold E3;rw[Du]
 have:=bj h
 have:=Bh 1073741824 hd
 omega
end
theorem X0(l:List Nd)(n:Nd):l.map A9++[A9 n]=(l++[n]).map A9:=by rw[AH];rfl
theorem OP(l:List Nd)(n:Nd):(l.map A9).length+([A9 n]:List (List AV)).length=(l.map A9++[A9 n]).length:=Ad.symm
attribute [local irreducible] tc pf FZ Dr Eh
theorem s64(roots:List Rq)(C A:List (Value×AV))(s:SS)(dec:List Cd)(st:List (List Sk))(hr:roots.length≤1073741824)(hd:dec.length≤1000)(oY:∀c∈dec,c.rel.reqs.length≤1073741824) :
  Be Tryz.prog 119 [.ref 1000 0] (Ai (I1 roots C A s dec st) Ab) fun r h'=>r=.tup [vs (GA roots dec).1,sl A9 (GA roots dec).2]∧h'=Ai (I1 roots C A s dec st) Ab:=by
 refine bw 5 0 9 5 (MF ⟨[],[],[],[],[],[],[],[],[],[],[]⟩) (MF F3) YC rfl CB rfl CB hm rfl rfl Tryz.func119 (by kernel_rfl) rfl (Nz rfl) (by kernel_rfl) rfl 3 ?_;refine Yi (Nz rfl) ?_;refine Xi (.gen YC 1) (Yi rfl (Be.imp (wK roots C A s dec st) ?_));intro v1 g1 q1;have ip:=q1.1;have iq:=q1.2;subst ip;subst iq;refine ot [.v (.slice none 0 0)] (by kernel_rfl) (by kernel_rfl) (by kernel_rfl) [(1000,1000),(1001,1001),(1002,1002),(1003,1003),(1004,1004),(10800,1005),(4,1006),(5,1007),(9,1008),(1,1009)] YB (gP roots C A s dec st 0) (gP roots C A s dec st (Dr roots dec).length) 192 [.ref 1005 0] rfl (by kernel_rfl) (by kernel_rfl) (by kernel_rfl) (by kernel_rfl) (by kernel_rfl) (fun l9 D9 f9 tm9 sI=>wL l9 roots C A s dec st hr (AU hd (by decide)) oY fun m n hn=>dH (σ:=YB) 1007 0 1008 (MF ⟨[],[(43,5)],[],[],[],[],[],[],[],[(500005,60001007)],[5]⟩) rfl CB hm rfl rfl rfl sI (by kernel_rfl) (by kernel_rfl) (by kernel_rfl) (gQ m) ?_) (by kernel_rfl) ?_
 ·have xP:m<(Dr roots dec).length:=(At.1 hn).1;have hol:=aN (roots:=roots) (dec:=dec) m;have hnl:=cO hr hd oY;have hF:=Ya hn;refine Yi (Nz rfl) ?_;refine Yi ⟨rfl,rfl⟩ ?_;refine Xi ⟨[(1,.ref 1009 0),(4,.ref 1006 0),(5,.ref 1007 0),(6,.ref 6 0)],[(6,.cells (A9 n)),(60,.tok 5 ((FZ roots dec m).2.map A9).length),(1000,.cells (srM roots C A s dec 1004 st.length)),(1001,.tok 6 s.infs.length),(1002,.tok 1 s.drv.length),(1003,.map DW (DY 0 s.infs)),(1004,.arr 1 (st.map AS)),(1005,.cells [.ref 1000 0]),(1006,.cells [vs (FZ roots dec m).1]),(1007,.cells [.slice (.id 60 5) ((FZ roots dec m).2.map A9)]),(1008,.vox m),(1009,.cells [.ref 1000 0])],Ab⟩ (Yi ⟨Z4,Z12,Fh,Ay (by kernel_rfl)⟩ ?_)
  refine BU (Bt (De dec n.rq.path)) (fun h2=>?_) (fun h2=>?_)
  ·have h2:(De dec n.rq.path)=true:=h2;have xx:=(rR roots C A s dec st n.rq.path (AU hd (by decide)));rw[show(De dec n.rq.path)=true from h2]at xx;refine Xi (.gen YC 0) (Yi rfl (Be.imp xx ?_));intro v4 g4 q4;have ww:=q4.1;have wx:=q4.2;subst ww;subst wx;refine Yi ⟨rfl,rfl⟩ ?_
   -- [('(De dec n.rq.path)=true',True)]
   exact⟨rfl,TB (hF.trans (gR h2)) rfl rfl⟩
  have h2:(De dec n.rq.path)=false:=h2;have xy:=(rR roots C A s dec st n.rq.path (AU hd (by decide)));rw[show(De dec n.rq.path)=false from h2]at xy;refine Xi (.gen YC 0) (Yi rfl (Be.imp xy ?_));intro v6 g6 q6;have wy:=q6.1;have wz:=q6.2;subst wy;subst wz;refine Yi (fun h7=>?_) (fun h7=>?_)
  ·have h7:(0:Int)<(((FZ roots dec m).2.map A9).length:Int):=h7;have n7:0<(FZ roots dec m).2.length:=by have q:=h7;rw[Lm]at q;omega
   refine Yi (fun h8=>?_) (fun h8=>?_)
   ·have h8:Fg (FZ roots dec m).1 n.rq.path=true:=(HU _ _).trans h8;refine Yi ⟨rfl,rfl⟩ ?_
    -- [('(De dec n.rq.path)=true',False),('(0:Int)<(((FZ roots dec m).2.map A9).length:Int)',True),('Fg (FZ roots dec m).1 n.rq.path=true',True)]
    exact⟨rfl,TB (hF.trans (kO h7 h8)) rfl rfl⟩
   have h8:Fg (FZ roots dec m).1 n.rq.path=false:=(HU _ _).trans (AI.2 h8);refine Yi (fun _=>?_) (fun hf=>absurd h7 hf);refine Yi (fun h9=>?_) (fun h9=>?_)
   ·have h9:Fg n.rq.path (FZ roots dec m).1=true:=(HU _ _).trans h9;refine Yi (Nz rfl) ?_;refine Yi (Nz rfl) ?_;refine Yi (Nz rfl) ?_;have Yx:Do 5 [(A9 n)]∧([(A9 n)]:List (List AV)).length*72≤140737488355328∧([(A9 n)]:List (List AV)).length≤9223372036854775807:=⟨⟨rfl,trivial⟩,(by simp only[Au,AC];omega),(by simp only[Au,AC];omega)⟩;refine Yi Yx ?_;refine Yi (Nz rfl) ?_;refine Yi ⟨rfl,rfl⟩ ?_
    -- [('(De dec n.rq.path)=true',False),('(0:Int)<(((FZ roots dec m).2.map A9).length:Int)',True),('Fg (FZ roots dec m).1 n.rq.path=true',False),('Fg n.rq.path (FZ roots dec m).1=true',True)]
    exact⟨rfl,TB (hF.trans (gS h2 h7 h8 h9)) rfl rfl⟩
   have h9:Fg n.rq.path (FZ roots dec m).1=false:=(HU _ _).trans (AI.2 h9);refine Yi (Nz rfl) ?_;refine Yi (Nz rfl) ?_;have mI:Do 5 [(A9 n)]∧((FZ roots dec m).2.map A9).length=((FZ roots dec m).2.map A9).length∧(((FZ roots dec m).2.map A9).length+([(A9 n)]:List (List AV)).length)*72≤140737488355328∧((FZ roots dec m).2.map A9).length+([(A9 n)]:List (List AV)).length≤9223372036854775807:=⟨⟨rfl,trivial⟩,rfl,(by simp only[Lm,Au,AC];omega),(by simp only[Lm,Au,AC];omega)⟩;refine Yi mI ?_;refine Yi (Nz rfl) ?_;refine Yi ⟨(OP _ n).symm,rfl⟩ ?_
   -- [('(De dec n.rq.path)=true',False),('(0:Int)<(((FZ roots dec m).2.map A9).length:Int)',True),('Fg (FZ roots dec m).1 n.rq.path=true',False),('Fg n.rq.path (FZ roots dec m).1=true',False)]
   exact⟨rfl,TB (hF.trans (gT h2 h8 h9)) (X0 _ n) (OP _ n)⟩
  have h7:¬((0:Int)<(((FZ roots dec m).2.map A9).length:Int)):=h7;have n7:¬0<(FZ roots dec m).2.length:=by have q:=h7;rw[Lm]at q;omega
  refine Yi (fun hf=>absurd hf h7) (fun _=>?_);refine Yi (Nz rfl) ?_;refine Yi (Nz rfl) ?_;have r6:Do 5 [(A9 n)]∧((FZ roots dec m).2.map A9).length=((FZ roots dec m).2.map A9).length∧(((FZ roots dec m).2.map A9).length+([(A9 n)]:List (List AV)).length)*72≤140737488355328∧((FZ roots dec m).2.map A9).length+([(A9 n)]:List (List AV)).length≤9223372036854775807:=⟨⟨rfl,trivial⟩,rfl,(by simp only[Lm,Au,AC];omega),(by simp only[Lm,Au,AC];omega)⟩;refine Yi r6 ?_;refine Yi (Nz rfl) ?_;refine Yi ⟨(OP _ n).symm,rfl⟩ ?_
  -- [('(De dec n.rq.path)=true',False),('(0:Int)<(((FZ roots dec m).2.map A9).length:Int)',False)]
  exact⟨rfl,TB (hF.trans (kQ h2 h7)) (X0 _ n) (OP _ n)⟩
 refine Yi (by kernel_rfl) ?_;exact Xi _ (Yi (.refl _) ⟨show AV.tup [vs (FZ roots dec (Dr roots dec).length).1,sl A9 (FZ roots dec (Dr roots dec).length).2]=_ by rw[kN (Aj _)],rfl⟩)
end Go.Eng
namespace Go.Eng
open Go.Proofs
theorem cw{α:Type}(pr:α→Bool)(l:List α):(∃(k:Nat) (n:α),H1 pr l 0=(k:Nat)∧l[k]?=some n∧l.find? pr=some n)∨(H1 pr l 0=-1∧l.find? pr=none):=by
 have key:∀(l:List α) (b:Nat),(∃(k:Nat) (n:α),H1 pr l (b:Nat)=((b+k:Nat):Int)∧l[k]?=some n∧l.find? pr=some n)∨(H1 pr l (b:Nat)=-1∧l.find? pr=none):=by
  intro l
  induction l with
  |nil=>intro b;exact .inr Zr
  |cons y l ih =>
   intro b;cases h:pr y with
   |true=>exact .inl ⟨0,y,by unfold H1;rw[Aw h];rfl,rfl,by rw[Fs,h]⟩
   |false =>
    have e:H1 pr (y::l) (b:Nat)=H1 pr l ((b+1:Nat):Int):=by
     conv=>lhs;unfold H1
     rw[Ah (by rw[h];decide)];rw[show((b+1:Nat):Int)=(b:Int)+1 by omega]
    have e2:(y::l).find? pr=l.find? pr:=by rw[Fs,h]
    rcases ih (b+1)with ⟨k,n,h1,h2,h3⟩ | ⟨h1,h2⟩
    ·exact .inl ⟨k+1,n,by rw[e,h1];congr 1;omega,by simpa using h2,by rw[e2];exact h3⟩
    ·exact .inr ⟨by rw[e];exact h1,by rw[e2];exact h2⟩
 have:=key l 0
 simpa using this
section
variable {rec:List Cd→SS→List (List Sk)→JV}{x:List Rl}{p:ByteArray}{N:List Nd}{n0:Nd}{dec:List Cd}{st:List (List Sk)}{cs:List Cd}{i:Nat}{S:SS}{rs:List Nat}{sk:List Sk}
theorem eJ(h:¬i<cs.length):D1 rec x p N n0 dec st (cs.drop i) S rs sk=⟨(D2 x p n0 rs S).1,false,(D2 x p n0 rs S).2,dec,st⟩:=by
 rw[He (by omega)];rfl
theorem jI(h:i<cs.length)(hf:S.full=true):D1 rec x p N n0 dec st (cs.drop i) S rs sk=⟨0,false,S,dec,st⟩:=by
 rw[Bs h,F9,Aw hf]
theorem pP(h:i<cs.length)(hf:S.full=false){n:Nd}(hn:N.find? (fun n=>!has n.rq.set cs[i].place)=some n):D1 rec x p N n0 dec st (cs.drop i) S rs sk=D1 rec x p N n0 dec st (cs.drop (i+1)) (Bl S n).2 (rs++[(Bl S n).1]) sk:=by
 rw[Bs h,F9,Ah (by rw[hf];decide),hn]
theorem VV(h:i<cs.length)(hf:S.full=false)(hn:N.find? (fun n=>!has n.rq.set cs[i].place)=none){k:Nat}(he:Oq S.drv (AK (dec++[cs[i]]))=some k):D1 rec x p N n0 dec st (cs.drop i) S rs sk=JE rec x p N n0 dec st cs[i] (cs.drop (i+1)) rs sk k S:=by
 rw[Bs h,F9,Ah (by rw[hf];decide),hn];dsimp only;rw[he]
theorem Xa(h:i<cs.length)(hf:S.full=false)(hn:N.find? (fun n=>!has n.rq.set cs[i].place)=none)(he:Oq S.drv (AK (dec++[cs[i]]))=none){n:Nd}(hc:D8 dec cs[i]=some n) :
  D1 rec x p N n0 dec st (cs.drop i) S rs sk=JE rec x p N n0 dec st cs[i] (cs.drop (i+1)) rs sk (Bl S n).1 (Bl S n).2:=by
 rw[Bs h,F9,Ah (by rw[hf];decide),hn];dsimp only;rw[he];dsimp only;rw[hc]
theorem VW(h:i<cs.length)(hf:S.full=false)(hn:N.find? (fun n=>!has n.rq.set cs[i].place)=none)(he:Oq S.drv (AK (dec++[cs[i]]))=none)(hc:D8 dec cs[i]=none){o:JV}(ho:o=rec (dec++[cs[i]]) S (st++[sk])) :
  D1 rec x p N n0 dec st (cs.drop i) S rs sk=if o.found=true then⟨0,true,o.ss,o.dec,o.stack⟩else if o.ss.full=true then⟨0,false,o.ss,dec,st⟩else JE rec x p N n0 dec st cs[i] (cs.drop (i+1)) rs sk o.res o.ss:=by
 rw[ho,Bs h,F9,Ah (by rw[hf];decide),hn];dsimp only;rw[he];dsimp only;rw[hc]
theorem ZZ{c:Cd}{l:List Cd}{k:Nat}(h:CZ (DO S k) p=false):JE rec x p N n0 dec st c l rs sk k S=⟨k,false,S,dec,st⟩:=by unfold JE;rw[Aw h]
theorem VN{c:Cd}{l:List Cd}{k:Nat}(h:CZ (DO S k) p=true):JE rec x p N n0 dec st c l rs sk k S=D1 rec x p N n0 dec st l S (rs++[k]) (sk++[⟨p,c.place,(k:Nat)⟩]):=by unfold JE;rw[Ah (by rw[h];decide)]
end
theorem Xh{x:List Rl}{dec:List Cd}(h:EC x dec):dec.length≤x.length:=by
 have h1:=Ih (m:=x.map (·.path)) h.nodup fun p hp=>by
  obtain⟨c,hc,rfl⟩:=Ak.1 hp;exact Ak.2 ⟨c.rel,(h.cand c hc).1,rfl⟩
 rw[Lm,Lm]at h1;exact h1
theorem UL(x:List Rl)(p:ByteArray):(Cq x p).length≤x.length:=by
 unfold Cq;rw[Lm];exact BD _ _
end Go.Eng
