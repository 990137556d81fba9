/- Lemmas for the claims of this seat, without a condition: part 27 (S5, S8a, S9, S10, S8b). -/
import Derived.Test.YtmcbkdbfaneofaaGreatDoorDA26
set_option maxHeartbeats 4000000
namespace Go.Eng
open Go.Proofs
theorem Oa{x:List Rl}{roots:List Rq}{l0:List Nf}:∀{l:List Nf} {d d' : List (List Tm)},(∀i∈l,i∈l0)→(∀t∈d,Uh (J7 x roots l0) t)→Dd x roots l d=some d'→∀t∈d',Uh (J7 x roots l0) t
 | [],d,d',_,hd,h=>by cases h;exact hd
 |i::l,d,d',hl,hd,h=>by
  unfold Dd at h;cases hi:DR x roots d i with
  |none=>rw[hi]at h;cases h
  |some t =>
   rw[hi]at h;refine Oa (fun j hj=>hl j (Af _ hj)) (fun u hu=>?_) h;rcases A3.1 hu with hu | hu
   ·exact hd u hu
   ·rw[Ai.1 hu];exact bX (hl i (Aa ..)) hd hi
section
variable {x:List Rl}{roots:List Rq}{s:SS}
theorem Fk.few(hx:A9 x=0)(hr:BS roots=0)(h:Fk x roots s):∀t∈s.drv,l7 t:=fun t ht =>
 (Oa (l0:=s.infs) (fun _ h=>h) (fun _ h=>by cases h) h.der t ht).fewI (Zm hx hr h.len)
theorem HT{i:Nf}{l:List Tm}(h:s.infs.Nodup):(D6 s i l).2.infs.Nodup:=by
 cases hk:Ly i 0 s.infs with
 |some k=>rw[WL hk];exact h
 |none =>
  by_cases hf:65536≤s.infs.length
  ·rw[Ul hk hf];exact h
  ·rw[WK hk hf];show(s.infs++[i]).Nodup;rw[F9];refine⟨h,by simp,fun a ha b hb e=>?_⟩;rw[Ai.1 hb]at e;exact PM hk (e▸ha)
theorem Jt.add(h:Jt x roots s){i:Nf}{l:List Tm}(hi:DR x roots s.drv i=some l):Jt x roots (D6 s i l).2∧(D6 s i l).1<(D6 s i l).2.drv.length∧s.drv.length≤(D6 s i l).2.drv.length :=
 ⟨⟨(Kk h.der hi).1,HT h.nodup⟩,(Kk h.der hi).2.1,(Kl s i l).len⟩
theorem Jt.dl(h:Jt x roots s):s.infs.length≤65536∧s.drv.length=s.infs.length∧s.drv.length≤65536:=by
 have h1:=h.der.dlen;have h2:=h.der.len;exact⟨h2,h1,by omega⟩
theorem gv(hx:A9 x=0)(p:ByteArray):∀d,DR x roots d ⟨2,p,0,0,0,0⟩=some (HR p (B8 x p)):=fun d=>by
 obtain⟨u,u0,u1,hu⟩:=aP hx p;have hV:F2 []:=fun _ h=>by cases h
 have ou:WG [] p (J6 [] p (Pc u)):=.ver hV (EV ⟨u0,u1⟩);have h1:Bh [(⟨p,false,Eg (B8 x p)⟩:Tm)] (J6 [] p (Pc u))=true:=by
  rw[BB];intro t ht;rw[Ai.1 ht];show Di _ (Cb (J6 [] p (Pc u)) p)=true;rw[H6 rfl];show(CM (Pc u)&&has (Eg (B8 x p)) (place (Pc u)))=true;rw[EV ⟨u0,u1⟩,G3,FE,hu];unfold Lw;simp[u0,u1]
 have h2:Bh [(⟨p,false,Eg (B8 x p)⟩:Tm)] []=false:=rfl;have DD:HR p (B8 x p)≠[]:=by
  have c1:=CX (l:=[(⟨p,false,Eg (B8 x p)⟩:Tm)]) ou.val;have c2:=CX (l:=[(⟨p,false,Eg (B8 x p)⟩:Tm)]) hV;rw[h1]at c1;rw[h2]at c2;unfold HR PK;cases hc:CO [(⟨p,false,Eg (B8 x p)⟩:Tm)]with
  |none=>rw[hc]at c1;cases c1
  |some c =>
   rw[hc]at c2;intro e;have e:c=[]:=e;rw[e]at c2;cases c2
 unfold DR;rw[Al (show ¬((2:Int)=0) by decide),Al (show ¬((2:Int)=1) by decide),Az rfl,Az ⟨rfl,rfl,rfl,rfl⟩];unfold cp;rw[Al (by rw[GL];exact DD)]
theorem EW{k:Nat}(h:k<s.drv.length):s.drv[k]?=some (DN s k):=by
 unfold DN;rw[Ci,Ge h];rfl
theorem SU{p:ByteArray}{L:List Nat}{j k:Nat}(hj:j<L.length)(h:s.full=true∨CZ (DN s k) p=false):Ck p (L.drop j) k s=(k,s):=by
 rw[Bs hj];unfold Ck;rw[Az h]
theorem Y7{p:ByteArray}{L:List Nat}{j k:Nat}(hj:j<L.length)(h1:¬(s.full=true∨CZ (DN s k) p=false))(h:L[j]=k):Ck p (L.drop j) k s=Ck p (L.drop (j+1)) k s:=by
 rw[Bs hj]
 conv=>lhs;unfold Ck
 rw[Al h1,Az h]
theorem cg{p:ByteArray}{L:List Nat}{j k:Nat}(hj:j<L.length)(h1:¬(s.full=true∨CZ (DN s k) p=false))(h2:¬L[j]=k)(h:(Bw (DN s k) (DN s L[j]) p).2≠0):Ck p (L.drop j) k s=Ck p (L.drop (j+1)) k s:=by
 rw[Bs hj]
 conv=>lhs;unfold Ck
 rw[Al h1,Al h2,Az h]
theorem cf{p:ByteArray}{L:List Nat}{j k:Nat}(hj:j<L.length)(h1:¬(s.full=true∨CZ (DN s k) p=false))(h2:¬L[j]=k)(h:(Bw (DN s k) (DN s L[j]) p).2=0) :
  Ck p (L.drop j) k s=Ck p (L.drop (j+1)) (D6 s ⟨3,p,0,0,(k:Nat),(L[j]:Nat)⟩ (Bw (DN s k) (DN s L[j]) p).1).1 (D6 s ⟨3,p,0,0,(k:Nat),(L[j]:Nat)⟩ (Bw (DN s k) (DN s L[j]) p).1).2:=by
 rw[Bs hj]
 conv=>lhs;unfold Ck
 rw[Al h1,Al h2,Al (fun h3=>h3 h)]
end
theorem E4{t:List Tm}(h:l7 t):Cn t:=by have:=h.1;unfold Cn;omega
theorem yh(x:List Rl)(roots:List Rq)(C A:List (Value×AV))(s:SS)(dec:List Cd)(st:List (List Sk))(p:ByteArray)(n:Nd)(rs:List Nat)(V:AV)(hx:A9 x=0)(hr:BS roots=0)(hs:Jt x roots s)(m7:∀d,DR x roots d (SL n)=some (IW n))(sc:∀r∈rs,r<s.drv.length)(Wx:rs.length≤1073741823)(hnq:Cn n.rq.set)(hnp:BY (n.place+1))
  (pQ:∀a,(Value.string p,a)∈A→a=V) (pR:(∀a,(Value.string p,a)∉A)→V=.v (.slice none 0 0)) (pS:∀h,PC 160 [vs p,str h V] (sl AF (HR p (B8 x p)))):Be Tryz.prog 128 [.ref 1000 0,vs p,.agg (Ba n),sl BO rs] (Aj (IZ roots C A s dec st) Ab) fun r h'=>l5 roots C A dec st (DY x p n rs s) r h':=by
 have hw:=hs.dl;obtain⟨sd,ul,T4⟩:=hs.add (m7 s.drv)
 change Jt x roots (Bm s n).2 at sd
 change (Bm s n).1<(Bm s n).2.drv.length at ul
 change s.drv.length≤(Bm s n).2.drv.length at T4
 have KK:=sd.dl;obtain⟨oJ,Ir,fo⟩:=sd.add (gv hx p (Bm s n).2.drv)
 change Jt x roots (Eh x p (Bm s n).2).2 at oJ
 change (Eh x p (Bm s n).2).1<(Eh x p (Bm s n).2).2.drv.length at Ir
 change (Bm s n).2.drv.length≤(Eh x p (Bm s n).2).2.drv.length at fo
 obtain⟨L,hL⟩:∃L,L=(Eh x p (Bm s n).2).1::rs:=⟨_,rfl⟩;have yY:∀r∈L,r<(Eh x p (Bm s n).2).2.drv.length:=fun r nh=>by
  rw[hL]at nh;rcases Au.1 nh with rfl | h
  ·exact Ir
  ·have:=sc r h;omega
 have wZ:L.length=rs.length+1:=by rw[hL];rfl
 have ul:(Bm s n).1<(Eh x p (Bm s n).2).2.drv.length:=by omega
 refine Cm (Mo ⟨[6],[],[],[],[],[],[],[],[],[],[2,3,7,8,10,12]⟩) [(1000,1000),(1001,1001),(1002,1002),(1003,1003),(1004,1004)] rfl CL hm rfl Tryz.func128 (by kernel_rfl) rfl (Nz rfl) (by kernel_rfl) rfl ?_;refine Yi (Nz rfl) ?_;refine Xi (.gen Ym 0) (Yi rfl (Be.imp (wB roots C A s dec st n hw.1 hw.2.1 hs.nodup hnq hnp) ?_));intro v1 g1 q1;have gT:=q1.1;have gU:=q1.2;subst gT;subst gU;refine Xi ⟨[(0,.ref 1000 0),(1,vs p),(3,sl BO rs),(9,vi (((Bm s n).1:Nat):Int))],[(1000,.cells [sl AN roots,.cmap C3 C,.cmap C3 A,.slice (.id 1001 6) ((Bm s n).2.infs.map BZ),.slice (.id 1002 1) ((Bm s n).2.drv.map Ca),.mref 1003,vb (Bm s n).2.full,sl AE dec,sl Ae (AK dec),.msl 1004 st.length]),(1001,.tok 6 (Bm s n).2.infs.length),(1002,.tok 1 (Bm s n).2.drv.length),(1003,.map DS (DU 0 (Bm s n).2.infs)),(1004,.arr 1 (st.map AS))],Ab⟩ (Yi ⟨Z4,Z5,Fh,Ax (by kernel_rfl)⟩ ?_)
 refine Ou V (.v (.slice none 0 0)) pQ pR (fun h=>h) ?_;refine Xi .pure (Xi _ (Yi (pS _) ?_));refine Xi (.gen Ym 0) (Yi rfl (Be.imp (kP roots C A (Bm s n).2 dec st ⟨2,p,0,0,0,0⟩ (HR p (B8 x p)) KK.1 KK.2.1 sd.nodup) ?_));intro v2 g2 q2;have vP:=q2.1;have vQ:=q2.2;subst vP;subst vQ;refine Xi ⟨[(0,.ref 1000 0),(1,vs p),(3,sl BO rs),(9,vi (((Bm s n).1:Nat):Int)),(10,vi (((Eh x p (Bm s n).2).1:Nat):Int))],[(1000,.cells [sl AN roots,.cmap C3 C,.cmap C3 A,.slice (.id 1001 6) ((Eh x p (Bm s n).2).2.infs.map BZ),.slice (.id 1002 1) ((Eh x p (Bm s n).2).2.drv.map Ca),.mref 1003,vb (Eh x p (Bm s n).2).2.full,sl AE dec,sl Ae (AK dec),.msl 1004 st.length]),(1001,.tok 6 (Eh x p (Bm s n).2).2.infs.length),(1002,.tok 1 (Eh x p (Bm s n).2).2.drv.length),(1003,.map DS (DU 0 (Eh x p (Bm s n).2).2.infs)),(1004,.arr 1 (st.map AS))],Ab⟩ (Yi ⟨Z5,Z5,Fh,Ax (by kernel_rfl)⟩ ?_)
 have b3:Dp 1 (rs.map BO)∧([[vi (((Eh x p (Bm s n).2).1:Nat):Int)]]:List (List AV)).length=1∧(([[vi (((Eh x p (Bm s n).2).1:Nat):Int)]]:List (List AV)).length+(rs.map BO).length)*8≤140737488355328∧([[vi (((Eh x p (Bm s n).2).1:Nat):Int)]]:List (List AV)).length+(rs.map BO).length≤9223372036854775807:=⟨(Ez (enc:=BO) (n:=1) (fun _=>rfl) rs),(by first | (simp;done) | (rw[Lm];assumption)),(by simp only[Lm,At,AC];omega),(by simp only[Lm,At,AC];omega)⟩
 refine Yi b3 ?_;refine Xi {q:Nat×Nat×SS // q.1≤L.length∧Ck p (L.drop q.1) q.2.1 q.2.2=Ck p L (Bm s n).1 (Eh x p (Bm s n).2).2∧Jt x roots q.2.2∧q.2.1<q.2.2.drv.length∧∀r∈L,r<q.2.2.drv.length} (Xi (fun q=>⟨[(0,.ref 1000 0),(1,vs p),(9,vi q.1.2.1),(33,.slice (.id 31 1) (L.map BO)),(34,vi (L.map BO).length),(35,vi q.1.1)],[(31,.tok 1 (L.map BO).length),(1000,.cells (srM roots C A q.1.2.2 dec 1004 st.length)),(1001,.tok 6 q.1.2.2.infs.length),(1002,.tok 1 q.1.2.2.drv.length),(1003,.map DS (DU 0 q.1.2.2.infs)),(1004,.arr 1 (st.map AS))],Ab⟩) (Xi (fun q=>L.length-q.1.1) (Yi (Xi ⟨(0,(Bm s n).1,(Eh x p (Bm s n).2).2),AM _,by rw[List.drop_zero],oJ,ul,yY⟩ ?_) ?_)))
 ·exact⟨⟨Zr,Zr,Zr,⟨(show AV.slice (.id 31 1) ([[vi (((Eh x p (Bm s n).2).1:Nat):Int)]]++rs.map BO)=.slice (.id 31 1) (L.map BO) by rw[hL];rfl),rfl⟩,⟨(show vi (([[vi (((Eh x p (Bm s n).2).1:Nat):Int)]]++rs.map BO:List (List AV)).length:Int)=vi ((L.map BO).length:Int) by rw[hL];rfl),rfl⟩,Zr,Tv⟩,⟨⟨(show HO.tok 1 (([[vi (((Eh x p (Bm s n).2).1:Nat):Int)]]:List (List AV)).length+(rs.map BO).length)=.tok 1 (L.map BO).length by rw[hL];simp[Nat.add_comm]),rfl⟩,Zr,Zr,Zr,Zr,Zr,Tv⟩,Fh,Ax (by kernel_rfl)⟩
 intro⟨⟨j,k,S⟩,j1,j2,j3,j4,j5⟩;have j1:j≤L.length:=j1;have j2:Ck p (L.drop j) k S=Ck p L (Bm s n).1 (Eh x p (Bm s n).2).2:=j2;have j3:Jt x roots S:=j3;have j4:k<S.drv.length:=j4;have j5:∀r∈L,r<S.drv.length:=j5;have xI:=j3.dl;have rZ:=j3.der.few hx hr;have gk:S.drv[k]?=some (DN S k):=EW j4;refine Yi (fun h4=>?_) (fun h4=>?_)
 ·have h4:(j:Int)<((L.map BO).length:Int):=h4;have n4:=Jy h4;refine Xi (BO L[j]) (Yi (NP n4) (Yi rfl ?_));refine Yi (fun h5=>?_) (fun h5=>?_)
  ·have h5:S.full=true:=h5;refine Xi ⟨[(9,vi k)],[(1000,.cells (srM roots C A S dec 1004 st.length)),(1001,.tok 6 S.infs.length),(1002,.tok 1 S.drv.length),(1003,.map DS (DU 0 S.infs)),(1004,.arr 1 (st.map AS))],Ab⟩ (Yi ⟨Z1,Z5,Fh,Ax (by kernel_rfl)⟩ ?_)
   have eR:Ck p L (Bm s n).1 (Eh x p (Bm s n).2).2=(k,S):=by rw[←j2];exact SU n4 (.inl h5)
   have eL:DY x p n rs s=(k,S):=by unfold DY;rw[←hL];exact eR
   exact Xi _ (Yi (.refl _) (Yi (show vi (k:Int)=vi (((DY x p n rs s).1:Nat):Int) by rw[eL]) (show Aj (IZ roots C A S dec st) Ab=Aj (IZ roots C A (DY x p n rs s).2 dec st) Ab by rw[eL])))
  have h5:S.full=false:=h5;refine Xi (Ca (DN S k)) (Yi (Yi (Nn k) (Cg gk)) (Yi rfl ?_));refine BN (Bt (CZ (DN S k) p)) (fun h7=>?_) (fun h7=>?_)
  ·have h7:(CZ (DN S k) p)=true:=h7;refine Xi .pure (Xi _ (Yi (cb h7 (iT (DN S k) p (E4 (rZ _ (Av (EW j4)))))) ?_));refine Xi ⟨[(0,.ref 1000 0),(1,vs p),(9,vi k),(12,vi (L[j]:Nat)),(33,.slice (.id 31 1) (L.map BO)),(34,vi (L.map BO).length),(35,vi j)],[(31,.tok 1 (L.map BO).length),(1000,.cells (srM roots C A S dec 1004 st.length)),(1001,.tok 6 S.infs.length),(1002,.tok 1 S.drv.length),(1003,.map DS (DU 0 S.infs)),(1004,.arr 1 (st.map AS))],Ab⟩ (Yi ⟨Z7,Z6,Fh,Ax (by kernel_rfl)⟩ ?_)
   refine Yi (fun h8=>?_) (fun h8=>?_)
   ·have h8:((L[j]:Nat):Int)=(k:Int):=h8;refine Xi ⟨[(0,.ref 1000 0),(1,vs p),(9,vi k),(33,.slice (.id 31 1) (L.map BO)),(34,vi (L.map BO).length),(35,vi j)],[(31,.tok 1 (L.map BO).length),(1000,.cells (srM roots C A S dec 1004 st.length)),(1001,.tok 6 S.infs.length),(1002,.tok 1 S.drv.length),(1003,.map DS (DU 0 S.infs)),(1004,.arr 1 (st.map AS))],Ab⟩ (Yi ⟨Z6,Z6,Fh,Ax (by kernel_rfl)⟩ ?_)
    refine Yi (Ii j (by omega)) ?_;refine Xi ⟨(j+1,k,S),Fo n4,by rw[←(Y7 (s:=S) (p:=p) (L:=L) (j:=j) (k:=k) n4 (by rw[h5,h7];simp) (by have q:=h8;omega))];exact j2,j3,j4,j5⟩ ?_;exact⟨Dl L.length j (by omega),Z6,Z6,Fh,Ax (by kernel_rfl)⟩
   have h8:¬(((L[j]:Nat):Int)=(k:Int)):=h8;refine Xi (Ca (DN S k)) (Yi (Yi (Nn k) (Cg gk)) (Yi rfl ?_));refine Xi (Ca (DN S L[j])) (Yi (Yi (show(0:Int)≤(L[j]:Nat) by omega) (Cg (EW (j5 _ (Ao n4))))) (Yi rfl ?_));have fk:=rZ _ (Av (EW j4));have fr:=rZ _ (Av (EW (j5 _ (Ao n4))));refine Xi _ (Yi (ti (DN S k) (DN S L[j]) p fk.1 fr.1 fk.2 fr.2) ?_);refine Yi (by kernel_rfl) ?_;refine Xi ⟨[(0,.ref 1000 0),(1,vs p),(9,vi k),(12,vi (L[j]:Nat)),(13,sl AF (Bw (DN S k) (DN S L[j]) p).1),(14,vi (Bw (DN S k) (DN S L[j]) p).2),(33,.slice (.id 31 1) (L.map BO)),(34,vi (L.map BO).length),(35,vi j)],[(31,.tok 1 (L.map BO).length),(1000,.cells (srM roots C A S dec 1004 st.length)),(1001,.tok 6 S.infs.length),(1002,.tok 1 S.drv.length),(1003,.map DS (DU 0 S.infs)),(1004,.arr 1 (st.map AS))],Ab⟩ (Yi ⟨Z9,Z6,Fh,Ax (by kernel_rfl)⟩ ?_)
   refine Yi (fun Sq=>?_) (fun Sq=>?_)
   ·have Sq:((Bw (DN S k) (DN S L[j]) p).2:Int)≠(0:Int):=Sq;refine Xi ⟨[(0,.ref 1000 0),(1,vs p),(9,vi k),(33,.slice (.id 31 1) (L.map BO)),(34,vi (L.map BO).length),(35,vi j)],[(31,.tok 1 (L.map BO).length),(1000,.cells (srM roots C A S dec 1004 st.length)),(1001,.tok 6 S.infs.length),(1002,.tok 1 S.drv.length),(1003,.map DS (DU 0 S.infs)),(1004,.arr 1 (st.map AS))],Ab⟩ (Yi ⟨Z6,Z6,Fh,Ax (by kernel_rfl)⟩ ?_)
    refine Yi (Ii j (by omega)) ?_;refine Xi ⟨(j+1,k,S),Fo n4,by rw[←(cg (s:=S) (p:=p) (L:=L) (j:=j) (k:=k) n4 (by rw[h5,h7];simp) (by have q:=h8;omega) Sq)];exact j2,j3,j4,j5⟩ ?_;exact⟨Dl L.length j (by omega),Z6,Z6,Fh,Ax (by kernel_rfl)⟩
   have Sq:((Bw (DN S k) (DN S L[j]) p).2:Int)=(0:Int):=Br Sq;refine Xi (.gen Ym 0) (Yi rfl (Be.imp (kP roots C A S dec st ⟨3,p,0,0,(k:Nat),(L[j]:Nat)⟩ (Bw (DN S k) (DN S L[j]) p).1 xI.1 xI.2.1 j3.nodup) ?_));intro v12 g12 kK;have nP:=kK.1;have nQ:=kK.2;subst nP;subst nQ;refine Xi ⟨[(0,.ref 1000 0),(1,vs p),(9,vi (((D6 S ⟨3,p,0,0,(k:Nat),(L[j]:Nat)⟩ (Bw (DN S k) (DN S L[j]) p).1).1:Nat):Int)),(33,.slice (.id 31 1) (L.map BO)),(34,vi (L.map BO).length),(35,vi j)],[(31,.tok 1 (L.map BO).length),(1000,.cells [sl AN roots,.cmap C3 C,.cmap C3 A,.slice (.id 1001 6) ((D6 S ⟨3,p,0,0,(k:Nat),(L[j]:Nat)⟩ (Bw (DN S k) (DN S L[j]) p).1).2.infs.map BZ),.slice (.id 1002 1) ((D6 S ⟨3,p,0,0,(k:Nat),(L[j]:Nat)⟩ (Bw (DN S k) (DN S L[j]) p).1).2.drv.map Ca),.mref 1003,vb (D6 S ⟨3,p,0,0,(k:Nat),(L[j]:Nat)⟩ (Bw (DN S k) (DN S L[j]) p).1).2.full,sl AE dec,sl Ae (AK dec),.msl 1004 st.length]),(1001,.tok 6 (D6 S ⟨3,p,0,0,(k:Nat),(L[j]:Nat)⟩ (Bw (DN S k) (DN S L[j]) p).1).2.infs.length),(1002,.tok 1 (D6 S ⟨3,p,0,0,(k:Nat),(L[j]:Nat)⟩ (Bw (DN S k) (DN S L[j]) p).1).2.drv.length),(1003,.map DS (DU 0 (D6 S ⟨3,p,0,0,(k:Nat),(L[j]:Nat)⟩ (Bw (DN S k) (DN S L[j]) p).1).2.infs)),(1004,.arr 1 (st.map AS))],Ab⟩ (Yi ⟨Z6,Z6,Fh,Ax (by kernel_rfl)⟩ ?_)
   refine Yi (Ii j (by omega)) ?_;obtain⟨a1,a2,a3⟩:=j3.add (UR (x:=x) (roots:=roots) (p:=p) j4 (j5 _ (Ao n4)) Sq);refine Xi ⟨(j+1,(D6 S ⟨3,p,0,0,(k:Nat),(L[j]:Nat)⟩ (Bw (DN S k) (DN S L[j]) p).1).1,(D6 S ⟨3,p,0,0,(k:Nat),(L[j]:Nat)⟩ (Bw (DN S k) (DN S L[j]) p).1).2),Fo n4,by rw[←(cf (s:=S) (p:=p) (L:=L) (j:=j) (k:=k) n4 (by rw[h5,h7];simp) (by have q:=h8;omega) Sq)];exact j2,a1,a2,fun r hr=>BJ (j5 r hr) a3⟩ ?_;exact⟨Dl L.length j (by omega),Z6,Z6,Fh,Ax (by kernel_rfl)⟩
  have h7:(CZ (DN S k) p)=false:=h7;refine Xi .pure (Xi _ (Yi (cb h7 (iT (DN S k) p (E4 (rZ _ (Av (EW j4)))))) ?_));refine Xi ⟨[(9,vi k)],[(1000,.cells (srM roots C A S dec 1004 st.length)),(1001,.tok 6 S.infs.length),(1002,.tok 1 S.drv.length),(1003,.map DS (DU 0 S.infs)),(1004,.arr 1 (st.map AS))],Ab⟩ (Yi ⟨Z1,Z5,Fh,Ax (by kernel_rfl)⟩ ?_)
  have eR:Ck p L (Bm s n).1 (Eh x p (Bm s n).2).2=(k,S):=by rw[←j2];exact SU n4 (.inr h7)
  have eL:DY x p n rs s=(k,S):=by unfold DY;rw[←hL];exact eR
  exact Xi _ (Yi (.refl _) (Yi (show vi (k:Int)=vi (((DY x p n rs s).1:Nat):Int) by rw[eL]) (show Aj (IZ roots C A S dec st) Ab=Aj (IZ roots C A (DY x p n rs s).2 dec st) Ab by rw[eL])))
 have h4:¬((j:Int)<((L.map BO).length:Int)):=h4;have n4:=Jx h4;have hj:¬j<L.length:=by have q:=h4;rw[Lm]at q;omega
 have eR:Ck p L (Bm s n).1 (Eh x p (Bm s n).2).2=(k,S):=by rw[←j2,Hf (by omega)];rfl
 have eL:DY x p n rs s=(k,S):=by unfold DY;rw[←hL];exact eR
 exact Xi _ (Yi (.refl _) (Yi (show vi (k:Int)=vi (((DY x p n rs s).1:Nat):Int) by rw[eL]) (show Aj (IZ roots C A S dec st) Ab=Aj (IZ roots C A (DY x p n rs s).2 dec st) Ab by rw[eL])))
abbrev Yn:IQ:=[(1000,1000),(1001,1001),(1002,1002),(1003,1003),(500,1004)]
abbrev sG(roots:List Rq)(C A:List (Value×AV))(s:SS)(dec:List Cd)(st:List (List Sk)):List (Nat×HO) :=
 [(1000,.cells (srM roots C A s dec 2000 st.length)),(1001,.tok 6 s.infs.length),(1002,.tok 1 s.drv.length),(1003,.map DS (DU 0 s.infs)),(1004,.dead),(2000,.arr 1 (st.map AS))]
abbrev Yo(roots:List Rq)(C A:List (Value×AV))(o:JT)(r:AV)(h' : Nat→HO):Prop:=r=.tup [vi (o.res:Nat),vb o.found]∧h'=Aj (sG roots C A o.ss o.dec o.stack) Ab
def yn(roots:List Rq)(C A:List (Value×AV)):Prop:=∀(s:SS) (dec:List Cd) (st:List (List Sk)),dec.length≤1000→(∀c∈dec,c.rel.reqs.length≤1073741824) →
 Be Tryz.prog 119 [.ref 1000 0] (Aj (IZ roots C A s dec st) Ab) fun r h'=>r=.tup [vs (GC roots dec).1,sl Ba (GC roots dec).2]∧h'=Aj (IZ roots C A s dec st) Ab
theorem Na{roots:List Rq}{C A:List (Value×AV)}{o:JT}{k:Nat}{b:Bool}{s:SS}{dec:List Cd}{st:List (List Sk)}(e:o=⟨k,b,s,dec,st⟩) :
  AV.tup [vi (k:Nat),vb b]=.tup [vi (o.res:Nat),vb o.found]∧Aj (sG roots C A s dec st) Ab=Aj (sG roots C A o.ss o.dec o.stack) Ab:=by rw[e];exact Zr
abbrev Yl:IQ:=[(1000,1000),(1001,1001),(1002,1002),(1003,1003),(1004,1004),(1005,1005),(1006,1006),(1007,1007),(1008,1008),(1009,1009)]
def F3(roots:List Rq)(dec:List Cd)(m:Nat):ByteArray×List Nd:=((Ds roots dec).take m).foldl (Ee dec) (mt,[])
theorem XW{roots:List Rq}{dec:List Cd}{m:Nat}{n:Nd}(h:(Ds roots dec)[m]?=some n):F3 roots dec (m+1)=Ee dec (F3 roots dec m) n:=by
 unfold F3;rw[Bu,h,Kb];rfl
theorem kq{roots:List Rq}{dec:List Cd}{m:Nat}(h:(Ds roots dec).length≤m):F3 roots dec m=GC roots dec:=by
 unfold F3 GC;rw[AT h]
def E3(roots:List Rq)(dec:List Cd)(j:Nat):Nat:=roots.length+((dec.take j).map fun c=>c.rel.reqs.length).sum
theorem Tr(c:Cd):(PP c).length=c.rel.reqs.length:=KB _ _ _
theorem cC(roots:List Rq)(dec:List Cd):E3 roots dec 0=roots.length:=by unfold E3;simp
theorem cB{roots:List Rq}{dec:List Cd}{j:Nat}(h:j<dec.length):E3 roots dec (j+1)=E3 roots dec j+dec[j].rel.reqs.length:=by
 unfold E3;rw[Ke h,AH,List.sum_append];simp[Nat.add_assoc]
theorem XZ(roots:List Rq)(dec:List Cd):E3 roots dec dec.length=(Ds roots dec).length:=by
 unfold E3 Ds Yb;rw[Dv,Ad,KB,List.length_flatten,BP]
 congr 2
 exact Bf fun c _=>(Tr c).symm
theorem cr{roots:List Rq}{dec:List Cd}{i:Nat}(h:i<roots.length):(Ds roots dec)[i]?=some ⟨roots[i],mt,0,(i:Nat)⟩:=by
 unfold Ds Yb;rw[AY (by rw[KB];exact h),OP,Ge h,Fx,Bk]
theorem Xe{α:Type}:∀{l:List (List α)} {j k:Nat} (hj:j<l.length),k<l[j].length→l.flatten[((l.take j).map List.length).sum+k]?=l[j][k]?
 |y::l,0,k,_,hk=>by
  rw[Bz,List.take_zero,E0,List.sum_nil,Bk,AY (show k<y.length from hk)];rfl
 |y::l,j+1,k,hj,hk=>by
  rw[Bz,IP,AP,List.sum_cons,A4 (by omega)]
  have:=Xe (l:=l) (j:=j) (k:=k) (by simpa using hj) hk
  rw[show y.length+((l.take j).map List.length).sum+k-y.length=((l.take j).map List.length).sum+k by omega,this]
  rfl
theorem gm{roots:List Rq}{dec:List Cd}{j k:Nat}(hj:j<dec.length)(hk:k<dec[j].rel.reqs.length):(Ds roots dec)[E3 roots dec j+k]?=some ⟨dec[j].rel.reqs[k],dec[j].rel.path,dec[j].place,(k:Nat)⟩:=by
 unfold Ds Yb E3;rw[A4 (by rw[KB];omega),KB];have h:=Xe (l:=dec.map PP) (j:=j) (k:=k) (by simpa using hj) (by rw[List.getElem_map,Tr];exact hk);rw[←QS,BP,show(List.length ∘ PP)=fun c=>c.rel.reqs.length from funext Tr]at h;rw[show roots.length+((dec.take j).map fun c=>c.rel.reqs.length).sum+k-roots.length=((dec.take j).map fun c=>c.rel.reqs.length).sum+k by omega,h,List.getElem_map];unfold PP;rw[OP,Ge hk,Fx,Bk]
abbrev gy(roots:List Rq)(C A:List (Value×AV))(s:SS)(dec:List Cd)(st:List (List Sk))(m:Nat):List (Nat×HO) :=
  [(1000,.cells (sF roots C A s dec st.length)),(1001,.tok 6 s.infs.length),(1002,.tok 1 s.drv.length),(1003,.map DS (DU 0 s.infs)),(1004,.arr 1 (st.map AS)),
   (1005,.cells [.ref 1000 0]),(1006,.cells [vs (F3 roots dec m).1]),(1007,.cells [.slice (.ver 1008 5 m) ((F3 roots dec m).2.map Ba)]),(1008,.var 5 m ((F3 roots dec m).2.map Ba).length),(1009,.cells [.ref 1000 0])]
noncomputable abbrev yJ(pl:TM)(l:Nat)(Y:Gh→World→Prop):Cx:=⟨Tryz.prog,lY,pl,true,0,fun l' σ' g w=>l'=l→σ'=Yl→Y g w⟩
theorem IH.pre{P:Program}{Y Y' : Gh→World→Prop}{l:Nat}{args:List AV}{h0:Nat→HO}{Q:AV→(Nat→HO)→Prop}(h:IH P Y l args h0 Q)(hp:∀g w,Y' g w→Y g w):IH P Y' l args h0 Q :=
 fun g w vals q1 q2 q3 q4=>h g w vals q1 q2 q3 (hp g w q4)
theorem wq(roots:List Rq)(C A:List (Value×AV))(s:SS)(dec:List Cd)(st:List (List Sk)):Be Tryz.prog 150 [.ref 1000 0] (Aj (IZ roots C A s dec st) Ab) fun r h'=>r=.clo 192 [.ref 2000 0]∧h'=Aj (IZ roots C A s dec st++[(2000,.cells [.ref 1000 0])]) Ab:=by
 refine Cm (Mo ⟨[],[],[],[],[],[],[],[],[],[],[]⟩) [(1000,1000),(1001,1001),(1002,1002),(1003,1003),(1004,1004),(1,2000)] rfl CL hm rfl Tryz.func150 (by kernel_rfl) rfl (Nz rfl) (by kernel_rfl) rfl ?_;exact Xi _ (Yi (.refl _) Zr)
theorem ws{Y:Gh→World→Prop}(l:Nat)(roots:List Rq)(C A:List (Value×AV))(s:SS)(dec:List Cd)(st:List (List Sk))(hr:roots.length≤1073741824)(hd:dec.length≤1073741824)(oC:∀c∈dec,c.rel.reqs.length≤1073741824)
  (hy:∀m n,(Ds roots dec)[m]?=some n→IH Tryz.prog Y l [.agg (Ba n)] (Aj (gy roots C A s dec st m) Ab) fun r h'=>r=vb true∧h'=Aj (gy roots C A s dec st (m+1)) Ab) :
  WE Tryz.prog Y Yl 192 [.v (.func (.yield l) #[] #[]),.ref 1005 0] (Aj (gy roots C A s dec st 0) Ab) fun _ h'=>h'=Aj (gy roots C A s dec st (Ds roots dec).length) Ab:=by
 have hr:roots.length≤1073741824:=hr;refine fI (l:=l) (yJ ⟨[],[],[],[],[],[],[],[],[],[],[4,12]⟩ l Y) Yl rfl CL hm rfl Tryz.func192 (by kernel_rfl) rfl (Nz rfl) (by kernel_rfl) rfl rfl ?_;refine Xi {i:Nat // i≤roots.length} (Xi (fun q=>⟨[(0,.v (.func (.yield l) #[] #[])),(1,.ref 1005 0),(12,sl AN roots),(13,vi (roots.map AN).length),(14,vi q.1)],[(1000,.cells (srM roots C A s dec 1004 st.length)),(1001,.tok 6 s.infs.length),(1002,.tok 1 s.drv.length),(1003,.map DS (DU 0 s.infs)),(1004,.arr 1 (st.map AS)),(1005,.cells [.ref 1000 0]),(1006,.cells [vs (F3 roots dec q.1).1]),(1007,.cells [.slice (.ver 1008 5 q.1) ((F3 roots dec q.1).2.map Ba)]),(1008,.var 5 q.1 ((F3 roots dec q.1).2.map Ba).length),(1009,.cells [.ref 1000 0])],Ab⟩) (Xi (fun q=>roots.length-q.1) (Yi (Xi ⟨0,AM _⟩ ?_) ?_)))
 ·exact⟨Z5,Z10,Fh,Ax (by kernel_rfl)⟩
 intro⟨i,i1⟩;have i1:i≤roots.length:=i1;refine Yi (fun h1=>?_) (fun h1=>?_)
 ·have h1:(i:Int)<((roots.map AN).length:Int):=h1;have n1:=Jy h1;refine Xi (AN roots[i]) (Yi (NP n1) (Yi rfl ?_));refine Yi (Nz rfl) ?_;refine Yi (Nz rfl) ?_;refine Yi (Nz rfl) ?_;refine Xi (.gen Yl 0) (Yi rfl (IH.imp (IH.pre (hy i ⟨roots[i],mt,0,(i:Nat)⟩ (cr n1)) (fun g w q=>q rfl rfl)) ?_));intro v2 g2 q2;have vP:=q2.1;have vQ:=q2.2;subst vP;subst vQ;refine Xi ⟨[(0,.v (.func (.yield l) #[] #[])),(1,.ref 1005 0),(12,sl AN roots),(13,vi (roots.map AN).length),(14,vi i)],[(1000,.cells (srM roots C A s dec 1004 st.length)),(1001,.tok 6 s.infs.length),(1002,.tok 1 s.drv.length),(1003,.map DS (DU 0 s.infs)),(1004,.arr 1 (st.map AS)),(1005,.cells [.ref 1000 0]),(1006,.cells [vs (F3 roots dec (i+1)).1]),(1007,.cells [.slice (.ver 1008 5 (i+1)) ((F3 roots dec (i+1)).2.map Ba)]),(1008,.var 5 (i+1) ((F3 roots dec (i+1)).2.map Ba).length),(1009,.cells [.ref 1000 0])],Ab⟩ (Yi ⟨Z5,Z10,Fh,Ax (by kernel_rfl)⟩ ?_)
  refine Yi (Ii i (by omega)) ?_;refine Xi ⟨i+1,by omega⟩ ?_;exact⟨Dl roots.length i (by omega),Z5,Z10,Fh,Ax (by kernel_rfl)⟩
 have h1:¬((i:Int)<((roots.map AN).length:Int)):=h1;have n1:=Jx h1;have hE:i=E3 roots dec 0:=by rw[cC];omega
 refine Xi {j:Nat // j≤dec.length} (Xi (fun q=>⟨[(0,.v (.func (.yield l) #[] #[])),(29,sl AE dec),(30,vi (dec.map AE).length),(31,vi q.1)],[(1000,.cells (srM roots C A s dec 1004 st.length)),(1001,.tok 6 s.infs.length),(1002,.tok 1 s.drv.length),(1003,.map DS (DU 0 s.infs)),(1004,.arr 1 (st.map AS)),(1005,.cells [.ref 1000 0]),(1006,.cells [vs (F3 roots dec (E3 roots dec q.1)).1]),(1007,.cells [.slice (.ver 1008 5 (E3 roots dec q.1)) ((F3 roots dec (E3 roots dec q.1)).2.map Ba)]),(1008,.var 5 (E3 roots dec q.1) ((F3 roots dec (E3 roots dec q.1)).2.map Ba).length),(1009,.cells [.ref 1000 0])],Ab⟩) (Xi (fun q=>dec.length-q.1) (Yi (Xi ⟨0,AM _⟩ ?_) ?_)))
 ·exact⟨Z4,⟨Zr,Zr,Zr,Zr,Zr,Zr,⟨(show .cells [vs (F3 roots dec i).1]=(.cells [vs (F3 roots dec (E3 roots dec 0)).1]:HO) by rw[hE]),rfl⟩,⟨(show .cells [.slice (.ver 1008 5 i) ((F3 roots dec i).2.map Ba)]=(.cells [.slice (.ver 1008 5 (E3 roots dec 0)) ((F3 roots dec (E3 roots dec 0)).2.map Ba)]:HO) by rw[hE]),rfl⟩,⟨(show .var 5 i ((F3 roots dec i).2.map Ba).length=(.var 5 (E3 roots dec 0) ((F3 roots dec (E3 roots dec 0)).2.map Ba).length:HO) by rw[hE]),rfl⟩,Zr,Tv⟩,Fh,Ax (by kernel_rfl)⟩
 intro⟨j,j1⟩;have j1:j≤dec.length:=j1;refine Yi (fun h4=>?_) (fun h4=>?_)
 ·have h4:(j:Int)<((dec.map AE).length:Int):=h4;have n4:=Jy h4;have rX:=oC dec[j] (Ao n4);refine Xi (AE dec[j]) (Yi (NP n4) (Yi rfl ?_));refine Yi (Nz rfl) ?_;refine Yi (Nz rfl) ?_;refine Xi {k:Nat // k≤dec[j].rel.reqs.length} (Xi (fun q=>⟨[(0,.v (.func (.yield l) #[] #[])),(6,.ref 6 0),(29,sl AE dec),(30,vi (dec.map AE).length),(31,vi j),(37,sl AN dec[j].rel.reqs),(38,vi (dec[j].rel.reqs.map AN).length),(39,vi q.1)],[(6,.cells (AE dec[j])),(1000,.cells (srM roots C A s dec 1004 st.length)),(1001,.tok 6 s.infs.length),(1002,.tok 1 s.drv.length),(1003,.map DS (DU 0 s.infs)),(1004,.arr 1 (st.map AS)),(1005,.cells [.ref 1000 0]),(1006,.cells [vs (F3 roots dec (E3 roots dec j+q.1)).1]),(1007,.cells [.slice (.ver 1008 5 (E3 roots dec j+q.1)) ((F3 roots dec (E3 roots dec j+q.1)).2.map Ba)]),(1008,.var 5 (E3 roots dec j+q.1) ((F3 roots dec (E3 roots dec j+q.1)).2.map Ba).length),(1009,.cells [.ref 1000 0])],Ab⟩) (Xi (fun q=>dec[j].rel.reqs.length-q.1) (Yi (Xi ⟨0,AM _⟩ ?_) ?_)))
  ·exact⟨Z8,Z11,Fh,Ax (by kernel_rfl)⟩
  intro⟨k,k1⟩;have k1:k≤dec[j].rel.reqs.length:=k1;refine Yi (fun h5=>?_) (fun h5=>?_)
  ·have h5:(k:Int)<((dec[j].rel.reqs.map AN).length:Int):=h5;have n5:=Jy h5;refine Xi (AN dec[j].rel.reqs[k]) (Yi (NP n5) (Yi rfl ?_));refine Yi (Nz rfl) ?_;refine Yi (Nz rfl) ?_;refine Yi (Nz rfl) ?_;refine Xi (.gen Yl 0) (Yi rfl (IH.imp (IH.pre (hy (E3 roots dec j+k) ⟨dec[j].rel.reqs[k],dec[j].rel.path,dec[j].place,(k:Nat)⟩ (gm n4 n5)) (fun g w q=>q rfl rfl)) ?_));intro v6 g6 q6;have wa:=q6.1;have wb:=q6.2;subst wa;subst wb;refine Xi ⟨[(0,.v (.func (.yield l) #[] #[])),(6,.ref 6 0),(29,sl AE dec),(30,vi (dec.map AE).length),(31,vi j),(37,sl AN dec[j].rel.reqs),(38,vi (dec[j].rel.reqs.map AN).length),(39,vi k)],[(6,.cells (AE dec[j])),(1000,.cells (srM roots C A s dec 1004 st.length)),(1001,.tok 6 s.infs.length),(1002,.tok 1 s.drv.length),(1003,.map DS (DU 0 s.infs)),(1004,.arr 1 (st.map AS)),(1005,.cells [.ref 1000 0]),(1006,.cells [vs (F3 roots dec (E3 roots dec j+(k+1))).1]),(1007,.cells [.slice (.ver 1008 5 (E3 roots dec j+(k+1))) ((F3 roots dec (E3 roots dec j+(k+1))).2.map Ba)]),(1008,.var 5 (E3 roots dec j+(k+1)) ((F3 roots dec (E3 roots dec j+(k+1))).2.map Ba).length),(1009,.cells [.ref 1000 0])],Ab⟩ (Yi ⟨Z8,Z11,Fh,Ax (by kernel_rfl)⟩ ?_)
   refine Yi (Ii k (by omega)) ?_;refine Xi ⟨k+1,by omega⟩ ?_;exact⟨by show dec[j].rel.reqs.length-(k+1)<dec[j].rel.reqs.length-k;omega,Z8,Z11,Fh,Ax (by kernel_rfl)⟩
  have h5:¬((k:Int)<((dec[j].rel.reqs.map AN).length:Int)):=h5;have n5:=Jx h5;refine Yi (Ii j (by omega)) ?_;have hE:E3 roots dec j+k=E3 roots dec (j+1):=by rw[cB n4];omega
  refine Xi ⟨j+1,by omega⟩ ?_;exact⟨Dl dec.length j (by omega),Z4,⟨Zr,Zr,Zr,Zr,Zr,Zr,⟨(show .cells [vs (F3 roots dec (E3 roots dec j+k)).1]=(.cells [vs (F3 roots dec (E3 roots dec (j+1))).1]:HO) by rw[hE]),rfl⟩,⟨(show .cells [.slice (.ver 1008 5 (E3 roots dec j+k)) ((F3 roots dec (E3 roots dec j+k)).2.map Ba)]=(.cells [.slice (.ver 1008 5 (E3 roots dec (j+1))) ((F3 roots dec (E3 roots dec (j+1))).2.map Ba)]:HO) by rw[hE]),rfl⟩,⟨(show .var 5 (E3 roots dec j+k) ((F3 roots dec (E3 roots dec j+k)).2.map Ba).length=(.var 5 (E3 roots dec (j+1)) ((F3 roots dec (E3 roots dec (j+1))).2.map Ba).length:HO) by rw[hE]),rfl⟩,Zr,Tv⟩,Fh,Ax (by kernel_rfl)⟩
 have h4:¬((j:Int)<((dec.map AE).length:Int)):=h4;have n4:=Jx h4;exact Ac (fun m=>Aj (gy roots C A s dec st m) Ab) (show E3 roots dec j=(Ds roots dec).length by rw[←XZ];congr 1;omega)
theorem nG{h:Nat→HO}{o k r sz:Nat}{cs:List AV}{K:(Nat→HO)→Prop}(c1:h o=.cells cs)(c2:IX cs k=.v (.slice none 0 0))(c3:h r=.free)(hk:K (AW (AW h r (.var sz 0 0)) o (.cells (Ey cs k (.slice (.ver r sz 0) []))))):oO h o k r sz K:=by
 unfold oO;rw[c1];show match IX cs k with
  |.v (.slice none 0 0)=>match h r with
   |.free=>K (AW (AW h r (.var sz 0 0)) o (.cells (Ey cs k (.slice (.ver r sz 0) []))))
   |_=>False
  |_=>False
 rw[c2,c3];exact hk
theorem nT{o k r0 sz:Nat}{bw:Cx}{P:Program}{N:Nat}{fn:Func}{σ:IQ}{Q:AV→(Nat→HO)→Prop}{b rest:Code}{st:St}(cs:List AV)(c1:st.h o=.cells cs)(c2:IX cs k=.v (.slice none 0 0))(c3:st.h r0=.free)(σF σr:IQ)(H0 Hn:List (Nat×HO))(gf:Nat)(caps:List AV)
  {lg s:Nat} {ps:Array Tmp} {GA body:Code} (hb:b=.block lg (.rangeFunc (.tmp s) ps GA body)) (k1:(Ei σF&&DF (AW (AW st.h r0 (.var sz 0 0)) o (.cells (Ey cs k (.slice (.ver r0 sz 0) [])))) 0 0&&Dm σF 0 0)=true) (k2:Fy σF (AW (AW st.h r0 (.var sz 0 0)) o (.cells (Ey cs k (.slice (.ver r0 sz 0) []))))=Aj H0 Ab) (k3:(GG σr&&In σr H0)=true) (k4:In σr Hn=true)
  (k5:ren (Ct σF) (AW (AW st.h r0 (.var sz 0 0)) o (.cells (Ey cs k (.slice (.ver r0 sz 0) [])))) (st.t s)=.clo gf caps)
  (k6:∀(l D:Nat) (f' : FuncId) (tm:Array Value),tm.size=N→WE P (fun g w=>w.heap[l]?=some (.loop (HP f' tm ps GA body D .ready))∧∀i,BI g w (AR (Aj H0 Ab)) (ren (Ct σF) (AW (AW st.h r0 (.var sz 0 0)) o (.cells (Ey cs k (.slice (.ver r0 sz 0) [])))) (st.t i)) (tm.getD i undef)) σr gf
   (.v (.func (.yield l) #[] #[])::caps) (Aj H0 Ab) fun _ h'=>h'=Aj Hn Ab)
  (k7:Et N rest=true) (k8:QT bw rest (W5 bw fn.results.toList σr fun r h'=>Q (ren (Ct σ) (D0 σF 0 0 (AW (AW st.h r0 (.var sz 0 0)) o (.cells (Ey cs k (.slice (.ver r0 sz 0) [])))) h') (ren (E1 σF 0 0) h' r)) (Fy σ (D0 σF 0 0 (AW (AW st.h r0 (.var sz 0 0)) o (.cells (Ey cs k (.slice (.ver r0 sz 0) [])))) h')))
   ⟨fun i=>ren (Ct σF) (AW (AW st.h r0 (.var sz 0 0)) o (.cells (Ey cs k (.slice (.ver r0 sz 0) [])))) (st.t i),Aj Hn Ab⟩) (k9:N4 [] body=false:=by kernel_rfl):sL o k r0 sz bw P N fn σ Q b rest st :=
 nG c1 c2 c3 ⟨σF,σr,H0,Hn,lg,s,ps,GA,body,gf,caps,hb,k1,k2,k3,k4,k5,k6,k7,k9,k8⟩
section
variable {roots:List Rq}{C A:List (Value×AV)}{s:SS}{dec:List Cd}{st:List (List Sk)}{n:Nd}
theorem Th{m:Nat}{p:ByteArray}{o:List Nd}(e:F3 roots dec (m+1)=(p,o)){es:List (List AV)}{k:Nat}(h1:es=o.map Ba)(h2:k=es.length) :
  Aj [(1000,.cells (sF roots C A s dec st.length)),(1001,.tok 6 s.infs.length),(1002,.tok 1 s.drv.length),(1003,.map DS (DU 0 s.infs)),(1004,.arr 1 (st.map AS)),
   (1005,.cells [.ref 1000 0]),(1006,.cells [vs p]),(1007,.cells [.slice (.ver 1008 5 (m+1)) es]),(1008,.var 5 (m+1) k),(1009,.cells [.ref 1000 0])] Ab=Aj (gy roots C A s dec st (m+1)) Ab:=by
 subst h1;subst h2
 rw[show gy roots C A s dec st (m+1)=[(1000,.cells (sF roots C A s dec st.length)),(1001,.tok 6 s.infs.length),(1002,.tok 1 s.drv.length),(1003,.map DS (DU 0 s.infs)),(1004,.arr 1 (st.map AS)),
   (1005,.cells [.ref 1000 0]),(1006,.cells [vs (F3 roots dec (m+1)).1]),(1007,.cells [.slice (.ver 1008 5 (m+1)) ((F3 roots dec (m+1)).2.map Ba)]),(1008,.var 5 (m+1) ((F3 roots dec (m+1)).2.map Ba).length),(1009,.cells [.ref 1000 0])]from rfl,e]
theorem gA{a:ByteArray×List Nd}(h:De dec n.rq.path=true):Ee dec a n=(a.1,a.2):=by unfold Ee;rw[Az (.inl h)]
theorem gl{o:List Nd}(h:(0:Int)<((o.map Ba).length:Int)):o≠[]:=fun e=>by subst e;simp at h
theorem kl{o:List Nd}(h:¬(0:Int)<((o.map Ba).length:Int)):o=[]:=by
 cases o with
 |nil=>rfl
 |cons y l=>exact absurd (by simp) h
theorem kr{a:ByteArray×List Nd}(h:(0:Int)<((a.2.map Ba).length:Int))(hb:Ff a.1 n.rq.path=true):Ee dec a n=(a.1,a.2):=by unfold Ee;rw[Az (.inr ⟨gl h,hb⟩)]
theorem gC{a:ByteArray×List Nd}(hd:De dec n.rq.path=false)(h:(0:Int)<((a.2.map Ba).length:Int))(hb:Ff a.1 n.rq.path=false)(hs:Ff n.rq.path a.1=true):Ee dec a n=(n.rq.path,[n]):=by
 unfold Ee;rw[Al (by rw[hd,hb];simp),Az ⟨gl h,hs⟩]
theorem gD{a:ByteArray×List Nd}(hd:De dec n.rq.path=false)(hb:Ff a.1 n.rq.path=false)(hs:Ff n.rq.path a.1=false):Ee dec a n=(n.rq.path,a.2++[n]):=by
 unfold Ee;rw[Al (by rw[hd,hb];simp),Al (by rw[hs];simp)]
theorem ku{a:ByteArray×List Nd}(hd:De dec n.rq.path=false)(h:¬(0:Int)<((a.2.map Ba).length:Int)):Ee dec a n=(n.rq.path,a.2++[n]):=by
 have:=kl h
 unfold Ee;rw[Al (by rw[hd,this];simp),Al (by rw[this];simp)]
theorem ks(a:ByteArray×List Nd)(n:Nd):(Ee dec a n).2.length≤a.2.length+1:=by
 unfold Ee;split
 ·omega
 ·split
  ·simp
  ·simp
theorem au:∀(m:Nat),(F3 roots dec m).2.length≤m
 |0=>Ak _
 |m+1=>by
  have ih:=au m;cases h:(Ds roots dec)[m]? with
  |none =>
   have e:F3 roots dec (m+1)=F3 roots dec m:=by unfold F3;rw[Bu,h];simp
   rw[e];omega
  |some n=>rw[XW h];exact A5 (ks _ _) (DK ih)
theorem Yg:∀{l l' : List (Nat×HO)},l.map Prod.fst=l'.map Prod.fst→(∀p∈l',p.2≠.free)→∀i,AR (Aj l Ab) i→AR (Aj l' Ab) i
 | [],[],_,_,_,h=>h
 |(a,o)::l,(a',o')::l',e,h,i,hu=>by
  rw[AP,AP]at e
  injection e with e1 e2
  have e1:a=a':=e1;subst e1;unfold AR at *
  by_cases q:i=a
  ·subst q;simp only[Aj,CV,JE];exact h _ (Aa ..)
  ·simp only[Aj,CJ q,El]at hu⊢;exact Yg e2 (fun p hp=>h p (Af _ hp)) i hu
theorem gz(m:Nat):∀i,AR (Aj (gy roots C A s dec st 0) Ab) i→AR (Aj (gy roots C A s dec st m) Ab) i:=Yg rfl (by
 repeat (first | exact BW _ | refine Bv.2 ⟨by simp,?_⟩))
theorem aM:∀{l:List Cd},(∀c∈l,c.rel.reqs.length≤1073741824)→((l.map fun c=>c.rel.reqs.length)).sum≤l.length*1073741824
 | [],_=>by simp
 |c::l,h=>by
  have h1:=h c (Aa ..);have h2:=aM fun c hc=>h c (Af _ hc);rw[AP,List.sum_cons,At];omega
theorem ct(hr:roots.length≤1073741824)(hd:dec.length≤1000)(h:∀c∈dec,c.rel.reqs.length≤1073741824):(Ds roots dec).length≤1074815565824:=by
 rw[←XZ];unfold E3;rw[Dv]
 have:=aM h
 have:=Bj 1073741824 hd
 omega
end
theorem XL(l:List Nd)(n:Nd):l.map Ba++[Ba n]=(l++[n]).map Ba:=by rw[AH];rfl
theorem OE(l:List Nd)(n:Nd):(l.map Ba).length+([Ba n]:List (List AV)).length=(l.map Ba++[Ba n]).length:=Ad.symm
attribute [local irreducible] sL oO F3 Ds Ee
theorem s64(roots:List Rq)(C A:List (Value×AV))(s:SS)(dec:List Cd)(st:List (List Sk))(hr:roots.length≤1073741824)(hd:dec.length≤1000)(oC:∀c∈dec,c.rel.reqs.length≤1073741824) :
  Be Tryz.prog 119 [.ref 1000 0] (Aj (IZ roots C A s dec st) Ab) fun r h'=>r=.tup [vs (GC roots dec).1,sl Ba (GC roots dec).2]∧h'=Aj (IZ roots C A s dec st) Ab:=by
 refine aV 5 0 9 5 (Mo ⟨[],[],[],[],[],[],[],[],[],[],[]⟩) (Mo F7) Ym rfl CL rfl CL hm rfl rfl Tryz.func119 (by kernel_rfl) rfl (Nz rfl) (by kernel_rfl) rfl 3 ?_;refine Yi (Nz rfl) ?_;refine Xi (.gen Ym 1) (Yi rfl (Be.imp (wq roots C A s dec st) ?_));intro v1 g1 q1;have gT:=q1.1;have gU:=q1.2;subst gT;subst gU;refine nT [.v (.slice none 0 0)] (by kernel_rfl) (by kernel_rfl) (by kernel_rfl) [(1000,1000),(1001,1001),(1002,1002),(1003,1003),(1004,1004),(10800,1005),(4,1006),(5,1007),(9,1008),(1,1009)] Yl (gy roots C A s dec st 0) (gy roots C A s dec st (Ds roots dec).length) 192 [.ref 1005 0] rfl (by kernel_rfl) (by kernel_rfl) (by kernel_rfl) (by kernel_rfl) (by kernel_rfl) (fun l9 D9 f9 tm9 se=>ws l9 roots C A s dec st hr (A5 hd (by decide)) oC fun m n hn=>di (σ:=Yl) 1007 0 1008 (Mo ⟨[],[(43,5)],[],[],[],[],[],[],[],[(500005,60001007)],[5]⟩) rfl CL hm rfl rfl rfl se (by kernel_rfl) (by kernel_rfl) (by kernel_rfl) (gz m) ?_) (by kernel_rfl) ?_
 ·have xv:m<(Ds roots dec).length:=(As.1 hn).1;have hol:=au (roots:=roots) (dec:=dec) m;have hnl:=ct hr hd oC;have hF:=XW hn;refine Yi (Nz rfl) ?_;refine Yi ⟨rfl,rfl⟩ ?_;refine Xi ⟨[(1,.ref 1009 0),(4,.ref 1006 0),(5,.ref 1007 0),(6,.ref 6 0)],[(6,.cells (Ba n)),(60,.tok 5 ((F3 roots dec m).2.map Ba).length),(1000,.cells (srM roots C A s dec 1004 st.length)),(1001,.tok 6 s.infs.length),(1002,.tok 1 s.drv.length),(1003,.map DS (DU 0 s.infs)),(1004,.arr 1 (st.map AS)),(1005,.cells [.ref 1000 0]),(1006,.cells [vs (F3 roots dec m).1]),(1007,.cells [.slice (.id 60 5) ((F3 roots dec m).2.map Ba)]),(1008,.vox m),(1009,.cells [.ref 1000 0])],Ab⟩ (Yi ⟨Z4,Z12,Fh,Ax (by kernel_rfl)⟩ ?_)
  refine BN (Bt (De dec n.rq.path)) (fun h2=>?_) (fun h2=>?_)
  ·have h2:(De dec n.rq.path)=true:=h2;have xc:=(rx roots C A s dec st n.rq.path (A5 hd (by decide)));rw[show(De dec n.rq.path)=true from h2]at xc;refine Xi (.gen Ym 0) (Yi rfl (Be.imp xc ?_));intro v4 g4 q4;have vZ:=q4.1;have v8:=q4.2;subst vZ;subst v8;refine Yi ⟨rfl,rfl⟩ ?_
   -- [('(De dec n.rq.path)=true',True)]
   exact⟨rfl,Th (hF.trans (gA h2)) rfl rfl⟩
  have h2:(De dec n.rq.path)=false:=h2;have xd:=(rx roots C A s dec st n.rq.path (A5 hd (by decide)));rw[show(De dec n.rq.path)=false from h2]at xd;refine Xi (.gen Ym 0) (Yi rfl (Be.imp xd ?_));intro v6 g6 q6;have wa:=q6.1;have wb:=q6.2;subst wa;subst wb;refine Yi (fun h7=>?_) (fun h7=>?_)
  ·have h7:(0:Int)<(((F3 roots dec m).2.map Ba).length:Int):=h7;have n7:0<(F3 roots dec m).2.length:=by have q:=h7;rw[Lm]at q;omega
   refine Yi (fun h8=>?_) (fun h8=>?_)
   ·have h8:Ff (F3 roots dec m).1 n.rq.path=true:=(HW _ _).trans h8;refine Yi ⟨rfl,rfl⟩ ?_
    -- [('(De dec n.rq.path)=true',False),('(0:Int)<(((F3 roots dec m).2.map Ba).length:Int)',True),('Ff (F3 roots dec m).1 n.rq.path=true',True)]
    exact⟨rfl,Th (hF.trans (kr h7 h8)) rfl rfl⟩
   have h8:Ff (F3 roots dec m).1 n.rq.path=false:=(HW _ _).trans (AI.2 h8);refine Yi (fun _=>?_) (fun hf=>absurd h7 hf);refine Yi (fun h9=>?_) (fun h9=>?_)
   ·have h9:Ff n.rq.path (F3 roots dec m).1=true:=(HW _ _).trans h9;refine Yi (Nz rfl) ?_;refine Yi (Nz rfl) ?_;refine Yi (Nz rfl) ?_;have Yh:Dp 5 [(Ba n)]∧([(Ba n)]:List (List AV)).length*72≤140737488355328∧([(Ba n)]:List (List AV)).length≤9223372036854775807:=⟨⟨rfl,trivial⟩,(by simp only[At,AC];omega),(by simp only[At,AC];omega)⟩;refine Yi Yh ?_;refine Yi (Nz rfl) ?_;refine Yi ⟨rfl,rfl⟩ ?_
    -- [('(De dec n.rq.path)=true',False),('(0:Int)<(((F3 roots dec m).2.map Ba).length:Int)',True),('Ff (F3 roots dec m).1 n.rq.path=true',False),('Ff n.rq.path (F3 roots dec m).1=true',True)]
    exact⟨rfl,Th (hF.trans (gC h2 h7 h8 h9)) rfl rfl⟩
   have h9:Ff n.rq.path (F3 roots dec m).1=false:=(HW _ _).trans (AI.2 h9);refine Yi (Nz rfl) ?_;refine Yi (Nz rfl) ?_;have mo:Dp 5 [(Ba n)]∧((F3 roots dec m).2.map Ba).length=((F3 roots dec m).2.map Ba).length∧(((F3 roots dec m).2.map Ba).length+([(Ba n)]:List (List AV)).length)*72≤140737488355328∧((F3 roots dec m).2.map Ba).length+([(Ba n)]:List (List AV)).length≤9223372036854775807:=⟨⟨rfl,trivial⟩,rfl,(by simp only[Lm,At,AC];omega),(by simp only[Lm,At,AC];omega)⟩;refine Yi mo ?_;refine Yi (Nz rfl) ?_;refine Yi ⟨(OE _ n).symm,rfl⟩ ?_
   -- [('(De dec n.rq.path)=true',False),('(0:Int)<(((F3 roots dec m).2.map Ba).length:Int)',True),('Ff (F3 roots dec m).1 n.rq.path=true',False),('Ff n.rq.path (F3 roots dec m).1=true',False)]
   exact⟨rfl,Th (hF.trans (gD h2 h8 h9)) (XL _ n) (OE _ n)⟩
  have h7:¬((0:Int)<(((F3 roots dec m).2.map Ba).length:Int)):=h7;have n7:¬0<(F3 roots dec m).2.length:=by have q:=h7;rw[Lm]at q;omega
  refine Yi (fun hf=>absurd hf h7) (fun _=>?_);refine Yi (Nz rfl) ?_;refine Yi (Nz rfl) ?_;have rJ:Dp 5 [(Ba n)]∧((F3 roots dec m).2.map Ba).length=((F3 roots dec m).2.map Ba).length∧(((F3 roots dec m).2.map Ba).length+([(Ba n)]:List (List AV)).length)*72≤140737488355328∧((F3 roots dec m).2.map Ba).length+([(Ba n)]:List (List AV)).length≤9223372036854775807:=⟨⟨rfl,trivial⟩,rfl,(by simp only[Lm,At,AC];omega),(by simp only[Lm,At,AC];omega)⟩;refine Yi rJ ?_;refine Yi (Nz rfl) ?_;refine Yi ⟨(OE _ n).symm,rfl⟩ ?_
  -- [('(De dec n.rq.path)=true',False),('(0:Int)<(((F3 roots dec m).2.map Ba).length:Int)',False)]
  exact⟨rfl,Th (hF.trans (ku h2 h7)) (XL _ n) (OE _ n)⟩
 refine Yi (by kernel_rfl) ?_;exact Xi _ (Yi (.refl _) ⟨show AV.tup [vs (F3 roots dec (Ds roots dec).length).1,sl Ba (F3 roots dec (Ds roots dec).length).2]=_ by rw[kq (Ak _)],rfl⟩)
end Go.Eng
namespace Go.Eng
open Go.Proofs
theorem bU{α:Type}(pr:α→Bool)(l:List α):(∃(k:Nat) (n:α),Hy pr l 0=(k:Nat)∧l[k]?=some n∧l.find? pr=some n)∨(Hy pr l 0=-1∧l.find? pr=none):=by
 have key:∀(l:List α) (b:Nat),(∃(k:Nat) (n:α),Hy pr l (b:Nat)=((b+k:Nat):Int)∧l[k]?=some n∧l.find? pr=some n)∨(Hy pr l (b:Nat)=-1∧l.find? pr=none):=by
  intro l
  induction l with
  |nil=>intro b;exact .inr Zr
  |cons y l ih =>
   intro b;cases h:pr y with
   |true=>exact .inl ⟨0,y,by unfold Hy;rw[Az h];rfl,rfl,by rw[Ft,h]⟩
   |false =>
    have e:Hy pr (y::l) (b:Nat)=Hy pr l ((b+1:Nat):Int):=by
     conv=>lhs;unfold Hy
     rw[Al (by rw[h];decide)];rw[show((b+1:Nat):Int)=(b:Int)+1 by omega]
    have e2:(y::l).find? pr=l.find? pr:=by rw[Ft,h]
    rcases ih (b+1)with ⟨k,n,h1,h2,h3⟩ | ⟨h1,h2⟩
    ·exact .inl ⟨k+1,n,by rw[e,h1];congr 1;omega,by simpa using h2,by rw[e2];exact h3⟩
    ·exact .inr ⟨by rw[e];exact h1,by rw[e2];exact h2⟩
 have:=key l 0
 simpa using this
section
variable {rec:List Cd→SS→List (List Sk)→JT}{x:List Rl}{p:ByteArray}{N:List Nd}{n0:Nd}{dec:List Cd}{st:List (List Sk)}{cs:List Cd}{i:Nat}{S:SS}{rs:List Nat}{sk:List Sk}
theorem dV(h:¬i<cs.length):DX rec x p N n0 dec st (cs.drop i) S rs sk=⟨(DY x p n0 rs S).1,false,(DY x p n0 rs S).2,dec,st⟩:=by
 rw[Hf (by omega)];rfl
theorem jo(h:i<cs.length)(hf:S.full=true):DX rec x p N n0 dec st (cs.drop i) S rs sk=⟨0,false,S,dec,st⟩:=by
 rw[Bs h,Gc,Az hf]
theorem px(h:i<cs.length)(hf:S.full=false){n:Nd}(hn:N.find? (fun n=>!has n.rq.set cs[i].place)=some n):DX rec x p N n0 dec st (cs.drop i) S rs sk=DX rec x p N n0 dec st (cs.drop (i+1)) (Bm S n).2 (rs++[(Bm S n).1]) sk:=by
 rw[Bs h,Gc,Al (by rw[hf];decide),hn]
theorem VG(h:i<cs.length)(hf:S.full=false)(hn:N.find? (fun n=>!has n.rq.set cs[i].place)=none){k:Nat}(he:Oc S.drv (AK (dec++[cs[i]]))=some k):DX rec x p N n0 dec st (cs.drop i) S rs sk=JB rec x p N n0 dec st cs[i] (cs.drop (i+1)) rs sk k S:=by
 rw[Bs h,Gc,Al (by rw[hf];decide),hn];dsimp only;rw[he]
theorem WT(h:i<cs.length)(hf:S.full=false)(hn:N.find? (fun n=>!has n.rq.set cs[i].place)=none)(he:Oc S.drv (AK (dec++[cs[i]]))=none){n:Nd}(hc:D3 dec cs[i]=some n) :
  DX rec x p N n0 dec st (cs.drop i) S rs sk=JB rec x p N n0 dec st cs[i] (cs.drop (i+1)) rs sk (Bm S n).1 (Bm S n).2:=by
 rw[Bs h,Gc,Al (by rw[hf];decide),hn];dsimp only;rw[he];dsimp only;rw[hc]
theorem VH(h:i<cs.length)(hf:S.full=false)(hn:N.find? (fun n=>!has n.rq.set cs[i].place)=none)(he:Oc S.drv (AK (dec++[cs[i]]))=none)(hc:D3 dec cs[i]=none){o:JT}(ho:o=rec (dec++[cs[i]]) S (st++[sk])) :
  DX rec x p N n0 dec st (cs.drop i) S rs sk=if o.found=true then⟨0,true,o.ss,o.dec,o.stack⟩else if o.ss.full=true then⟨0,false,o.ss,dec,st⟩else JB rec x p N n0 dec st cs[i] (cs.drop (i+1)) rs sk o.res o.ss:=by
 rw[ho,Bs h,Gc,Al (by rw[hf];decide),hn];dsimp only;rw[he];dsimp only;rw[hc]
theorem ZI{c:Cd}{l:List Cd}{k:Nat}(h:CZ (DN S k) p=false):JB rec x p N n0 dec st c l rs sk k S=⟨k,false,S,dec,st⟩:=by unfold JB;rw[Az h]
theorem Vy{c:Cd}{l:List Cd}{k:Nat}(h:CZ (DN S k) p=true):JB rec x p N n0 dec st c l rs sk k S=DX rec x p N n0 dec st l S (rs++[k]) (sk++[⟨p,c.place,(k:Nat)⟩]):=by unfold JB;rw[Al (by rw[h];decide)]
end
theorem W0{x:List Rl}{dec:List Cd}(h:ED x dec):dec.length≤x.length:=by
 have h1:=If (m:=x.map (·.path)) h.nodup fun p hp=>by
  obtain⟨c,hc,rfl⟩:=Am.1 hp;exact Am.2 ⟨c.rel,(h.cand c hc).1,rfl⟩
 rw[Lm,Lm]at h1;exact h1
theorem Uv(x:List Rl)(p:ByteArray):(Cp x p).length≤x.length:=by
 unfold Cp;rw[Lm];exact BE _ _
end Go.Eng
