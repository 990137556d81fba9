/- Lemmas for the claims of this seat, without a condition: part 27 (S5, S8a, S9, S10, S8b). -/
import Derived.Test.YtmcbkdbfaneofaaGreatDoorFA26
set_option maxHeartbeats 4000000
namespace Go.Eng
open Go.Proofs
theorem Om{x:List Rl}{roots:List Rq}{l0:List Nf}:∀{l:List Nf} {d d' : List (List Tm)},(∀i∈l,i∈l0)→(∀t∈d,Uu (Ke x roots l0) t)→Df x roots l d=some d'→∀t∈d',Uu (Ke x roots l0) t
 | [],d,d',_,hd,h=>by cases h;exact hd
 |i::l,d,d',hl,hd,h=>by
  unfold Df at h;cases hi:DW x roots d i with
  |none=>rw[hi]at h;cases h
  |some t =>
   rw[hi]at h;refine Om (fun j hj=>hl j (Af _ hj)) (fun u hu=>?_) h;rcases A8.1 hu with hu | hu
   ·exact hd u hu
   ·rw[Am.1 hu];exact cJ (hl i (Ab ..)) hd hi
section
variable {x:List Rl}{roots:List Rq}{s:SS}
theorem Fr.few(hx:A5 x=0)(hr:BU roots=0)(h:Fr x roots s):∀t∈s.drv,mL t:=fun t ht =>
 (Om (l0:=s.infs) (fun _ h=>h) (fun _ h=>by cases h) h.der t ht).fewI (ZJ hx hr h.len)
theorem HW{i:Nf}{l:List Tm}(h:s.infs.Nodup):(Ef s i l).2.infs.Nodup:=by
 cases hk:LI i 0 s.infs with
 |some k=>rw[WV hk];exact h
 |none =>
  by_cases hf:65536≤s.infs.length
  ·rw[Uy hk hf];exact h
  ·rw[WU hk hf];show(s.infs++[i]).Nodup;rw[Gc];refine⟨h,by simp,fun a ha b hb e=>?_⟩;rw[Am.1 hb]at e;exact PW hk (e▸ha)
theorem JA.add(h:JA x roots s){i:Nf}{l:List Tm}(hi:DW x roots s.drv i=some l):JA x roots (Ef s i l).2∧(Ef s i l).1<(Ef s i l).2.drv.length∧s.drv.length≤(Ef s i l).2.drv.length :=
 ⟨⟨(Kq h.der hi).1,HW h.nodup⟩,(Kq h.der hi).2.1,(Kr s i l).len⟩
theorem JA.dl(h:JA x roots s):s.infs.length≤65536∧s.drv.length=s.infs.length∧s.drv.length≤65536:=by
 have h1:=h.der.dlen;have h2:=h.der.len;exact⟨h2,h1,by omega⟩
theorem gZ(hx:A5 x=0)(p:ByteArray):∀d,DW x roots d ⟨2,p,0,0,0,0⟩=some (HT p (B8 x p)):=fun d=>by
 obtain⟨u,u0,u1,hu⟩:=bv hx p;have hV:F3 []:=fun _ h=>by cases h
 have ou:WQ [] p (Kd [] p (Po u)):=.ver hV (EZ ⟨u0,u1⟩);have h1:Bg [(⟨p,false,Eg (B8 x p)⟩:Tm)] (Kd [] p (Po u))=true:=by
  rw[BC];intro t ht;rw[Am.1 ht];show Dk _ (Cc (Kd [] p (Po u)) p)=true;rw[Ia rfl];show(CO (Po u)&&has (Eg (B8 x p)) (place (Po u)))=true;rw[EZ ⟨u0,u1⟩,G5,FH,hu];unfold LG;simp[u0,u1]
 have h2:Bg [(⟨p,false,Eg (B8 x p)⟩:Tm)] []=false:=rfl;have DE:HT p (B8 x p)≠[]:=by
  have c1:=Da (l:=[(⟨p,false,Eg (B8 x p)⟩:Tm)]) ou.val;have c2:=Da (l:=[(⟨p,false,Eg (B8 x p)⟩:Tm)]) hV;rw[h1]at c1;rw[h2]at c2;unfold HT PU;cases hc:CR [(⟨p,false,Eg (B8 x p)⟩:Tm)]with
  |none=>rw[hc]at c1;cases c1
  |some c =>
   rw[hc]at c2;intro e;have e:c=[]:=e;rw[e]at c2;cases c2
 unfold DW;rw[Ai (show ¬((2:Int)=0) by decide),Ai (show ¬((2:Int)=1) by decide),Aw rfl,Aw ⟨rfl,rfl,rfl,rfl⟩];unfold cS;rw[Ai (by rw[GO];exact DE)]
theorem E0{k:Nat}(h:k<s.drv.length):s.drv[k]?=some (DR s k):=by
 unfold DR;rw[Ck,Ge h];rfl
theorem Th{p:ByteArray}{L:List Nat}{j k:Nat}(hj:j<L.length)(h:s.full=true∨Db (DR s k) p=false):Cn p (L.drop j) k s=(k,s):=by
 rw[Bv hj];unfold Cn;rw[Aw h]
theorem Zq{p:ByteArray}{L:List Nat}{j k:Nat}(hj:j<L.length)(h1:¬(s.full=true∨Db (DR s k) p=false))(h:L[j]=k):Cn p (L.drop j) k s=Cn p (L.drop (j+1)) k s:=by
 rw[Bv hj]
 conv=>lhs;unfold Cn
 rw[Ai h1,Aw h]
theorem cO{p:ByteArray}{L:List Nat}{j k:Nat}(hj:j<L.length)(h1:¬(s.full=true∨Db (DR s k) p=false))(h2:¬L[j]=k)(h:(Bx (DR s k) (DR s L[j]) p).2≠0):Cn p (L.drop j) k s=Cn p (L.drop (j+1)) k s:=by
 rw[Bv hj]
 conv=>lhs;unfold Cn
 rw[Ai h1,Ai h2,Aw h]
theorem cN{p:ByteArray}{L:List Nat}{j k:Nat}(hj:j<L.length)(h1:¬(s.full=true∨Db (DR s k) p=false))(h2:¬L[j]=k)(h:(Bx (DR s k) (DR s L[j]) p).2=0) :
  Cn p (L.drop j) k s=Cn p (L.drop (j+1)) (Ef s ⟨3,p,0,0,(k:Nat),(L[j]:Nat)⟩ (Bx (DR s k) (DR s L[j]) p).1).1 (Ef s ⟨3,p,0,0,(k:Nat),(L[j]:Nat)⟩ (Bx (DR s k) (DR s L[j]) p).1).2:=by
 rw[Bv hj]
 conv=>lhs;unfold Cn
 rw[Ai h1,Ai h2,Ai (fun h3=>h3 h)]
end
theorem E8{t:List Tm}(h:mL t):Ci t:=by have:=h.1;unfold Ci;omega
theorem za(x:List Rl)(roots:List Rq)(C A:List (Value×AV))(s:SS)(dec:List Cd)(st:List (List Sk))(p:ByteArray)(n:Nd)(rs:List Nat)(V:AV)(hx:A5 x=0)(hr:BU roots=0)(hs:JA x roots s)(nP:∀d,DW x roots d (S8 n)=some (I0 n))(sZ:∀r∈rs,r<s.drv.length)(WK:rs.length≤1073741823)(hnq:Ci n.rq.set)(hnp:B3 (n.place+1))
  (qx:∀a,(Value.string p,a)∈A→a=V) (qy:(∀a,(Value.string p,a)∉A)→V=.v (.slice none 0 0)) (qz:∀h,PC 160 [vs p,str h V] (sl AG (HT p (B8 x p)))):Be Tryz.prog 128 [.ref 1000 0,vs p,.agg (Ba n),sl BQ rs] (Aj (I2 roots C A s dec st) Aa) fun r h'=>mJ roots C A dec st (D4 x p n rs s) r h':=by
 have hw:=hs.dl;obtain⟨s5,vd,Uh⟩:=hs.add (nP s.drv)
 change JA x roots (Bl s n).2 at s5
 change (Bl s n).1<(Bl s n).2.drv.length at vd
 change s.drv.length≤(Bl s n).2.drv.length at Uh
 have KP:=s5.dl;obtain⟨pq,Iv,fV⟩:=s5.add (gZ hx p (Bl s n).2.drv)
 change JA x roots (En x p (Bl s n).2).2 at pq
 change (En x p (Bl s n).2).1<(En x p (Bl s n).2).2.drv.length at Iv
 change (Bl s n).2.drv.length≤(En x p (Bl s n).2).2.drv.length at fV
 obtain⟨L,hL⟩:∃L,L=(En x p (Bl s n).2).1::rs:=⟨_,rfl⟩;have zP:∀r∈L,r<(En x p (Bl s n).2).2.drv.length:=fun r nW=>by
  rw[hL]at nW;rcases As.1 nW with rfl | h
  ·exact Iv
  ·have:=sZ r h;omega
 have xR:L.length=rs.length+1:=by rw[hL];rfl
 have vd:(Bl s n).1<(En x p (Bl s n).2).2.drv.length:=by omega
 refine Co (MA ⟨[6],[],[],[],[],[],[],[],[],[],[2,3,7,8,10,12]⟩) [(1000,1000),(1001,1001),(1002,1002),(1003,1003),(1004,1004)] rfl CD hm rfl Tryz.func128 (by kernel_rfl) rfl (Nz rfl) (by kernel_rfl) rfl ?_;refine Yi (Nz rfl) ?_;refine Xi (.gen YA 0) (Yi rfl (Be.imp (xt roots C A s dec st n hw.1 hw.2.1 hs.nodup hnq hnp) ?_));intro v1 g1 q1;have iH:=q1.1;have iI:=q1.2;subst iH;subst iI;refine Xi ⟨[(0,.ref 1000 0),(1,vs p),(3,sl BQ rs),(9,vi (((Bl s n).1:Nat):Int))],[(1000,.cells [sl AE roots,.cmap C3 C,.cmap C3 A,.slice (.id 1001 6) ((Bl s n).2.infs.map BY),.slice (.id 1002 1) ((Bl s n).2.drv.map Cb),.mref 1003,vb (Bl s n).2.full,sl AF dec,sl Ae (AM dec),.msl 1004 st.length]),(1001,.tok 6 (Bl s n).2.infs.length),(1002,.tok 1 (Bl s n).2.drv.length),(1003,.map DY (D0 0 (Bl s n).2.infs)),(1004,.arr 1 (st.map AT))],Aa⟩ (Yi ⟨Z4,Z5,Fh,Az (by kernel_rfl)⟩ ?_)
 refine OG V (.v (.slice none 0 0)) qx qy (fun h=>h) ?_;refine Xi .pure (Xi _ (Yi (qz _) ?_));refine Xi (.gen YA 0) (Yi rfl (Be.imp (lC roots C A (Bl s n).2 dec st ⟨2,p,0,0,0,0⟩ (HT p (B8 x p)) KP.1 KP.2.1 s5.nodup) ?_));intro v2 g2 q2;have wO:=q2.1;have wP:=q2.2;subst wO;subst wP;refine Xi ⟨[(0,.ref 1000 0),(1,vs p),(3,sl BQ rs),(9,vi (((Bl s n).1:Nat):Int)),(10,vi (((En x p (Bl s n).2).1:Nat):Int))],[(1000,.cells [sl AE roots,.cmap C3 C,.cmap C3 A,.slice (.id 1001 6) ((En x p (Bl s n).2).2.infs.map BY),.slice (.id 1002 1) ((En x p (Bl s n).2).2.drv.map Cb),.mref 1003,vb (En x p (Bl s n).2).2.full,sl AF dec,sl Ae (AM dec),.msl 1004 st.length]),(1001,.tok 6 (En x p (Bl s n).2).2.infs.length),(1002,.tok 1 (En x p (Bl s n).2).2.drv.length),(1003,.map DY (D0 0 (En x p (Bl s n).2).2.infs)),(1004,.arr 1 (st.map AT))],Aa⟩ (Yi ⟨Z5,Z5,Fh,Az (by kernel_rfl)⟩ ?_)
 have b3:Dn 1 (rs.map BQ)∧([[vi (((En x p (Bl s n).2).1:Nat):Int)]]:List (List AV)).length=1∧(([[vi (((En x p (Bl s n).2).1:Nat):Int)]]:List (List AV)).length+(rs.map BQ).length)*8≤140737488355328∧([[vi (((En x p (Bl s n).2).1:Nat):Int)]]:List (List AV)).length+(rs.map BQ).length≤9223372036854775807:=⟨(EE (enc:=BQ) (n:=1) (fun _=>rfl) rs),(by first | (simp;done) | (rw[Lm];assumption)),(by simp only[Lm,Au,AD];omega),(by simp only[Lm,Au,AD];omega)⟩
 refine Yi b3 ?_;refine Xi {q:Nat×Nat×SS // q.1≤L.length∧Cn p (L.drop q.1) q.2.1 q.2.2=Cn p L (Bl s n).1 (En x p (Bl s n).2).2∧JA x roots q.2.2∧q.2.1<q.2.2.drv.length∧∀r∈L,r<q.2.2.drv.length} (Xi (fun q=>⟨[(0,.ref 1000 0),(1,vs p),(9,vi q.1.2.1),(33,.slice (.id 31 1) (L.map BQ)),(34,vi (L.map BQ).length),(35,vi q.1.1)],[(31,.tok 1 (L.map BQ).length),(1000,.cells (srM roots C A q.1.2.2 dec 1004 st.length)),(1001,.tok 6 q.1.2.2.infs.length),(1002,.tok 1 q.1.2.2.drv.length),(1003,.map DY (D0 0 q.1.2.2.infs)),(1004,.arr 1 (st.map AT))],Aa⟩) (Xi (fun q=>L.length-q.1.1) (Yi (Xi ⟨(0,(Bl s n).1,(En x p (Bl s n).2).2),AL _,by rw[List.drop_zero],pq,vd,zP⟩ ?_) ?_)))
 ·exact⟨⟨Zr,Zr,Zr,⟨(show AV.slice (.id 31 1) ([[vi (((En x p (Bl s n).2).1:Nat):Int)]]++rs.map BQ)=.slice (.id 31 1) (L.map BQ) by rw[hL];rfl),rfl⟩,⟨(show vi (([[vi (((En x p (Bl s n).2).1:Nat):Int)]]++rs.map BQ:List (List AV)).length:Int)=vi ((L.map BQ).length:Int) by rw[hL];rfl),rfl⟩,Zr,Tv⟩,⟨⟨(show HO.tok 1 (([[vi (((En x p (Bl s n).2).1:Nat):Int)]]:List (List AV)).length+(rs.map BQ).length)=.tok 1 (L.map BQ).length by rw[hL];simp[Nat.add_comm]),rfl⟩,Zr,Zr,Zr,Zr,Zr,Tv⟩,Fh,Az (by kernel_rfl)⟩
 intro⟨⟨j,k,S⟩,j1,j2,j3,j4,j5⟩;have j1:j≤L.length:=j1;have j2:Cn p (L.drop j) k S=Cn p L (Bl s n).1 (En x p (Bl s n).2).2:=j2;have j3:JA x roots S:=j3;have j4:k<S.drv.length:=j4;have j5:∀r∈L,r<S.drv.length:=j5;have yC:=j3.dl;have sP:=j3.der.few hx hr;have gk:S.drv[k]?=some (DR S k):=E0 j4;refine Yi (fun h4=>?_) (fun h4=>?_)
 ·have h4:(j:Int)<((L.map BQ).length:Int):=h4;have n4:=Ka h4;refine Xi (BQ L[j]) (Yi (OO n4) (Yi rfl ?_));refine Yi (fun h5=>?_) (fun h5=>?_)
  ·have h5:S.full=true:=h5;refine Xi ⟨[(9,vi k)],[(1000,.cells (srM roots C A S dec 1004 st.length)),(1001,.tok 6 S.infs.length),(1002,.tok 1 S.drv.length),(1003,.map DY (D0 0 S.infs)),(1004,.arr 1 (st.map AT))],Aa⟩ (Yi ⟨Z1,Z5,Fh,Az (by kernel_rfl)⟩ ?_)
   have eR:Cn p L (Bl s n).1 (En x p (Bl s n).2).2=(k,S):=by rw[←j2];exact Th n4 (.inl h5)
   have eL:D4 x p n rs s=(k,S):=by unfold D4;rw[←hL];exact eR
   exact Xi _ (Yi (.refl _) (Yi (show vi (k:Int)=vi (((D4 x p n rs s).1:Nat):Int) by rw[eL]) (show Aj (I2 roots C A S dec st) Aa=Aj (I2 roots C A (D4 x p n rs s).2 dec st) Aa by rw[eL])))
  have h5:S.full=false:=h5;refine Xi (Cb (DR S k)) (Yi (Yi (Nn k) (Ch gk)) (Yi rfl ?_));refine BH (Bt (Db (DR S k) p)) (fun h7=>?_) (fun h7=>?_)
  ·have h7:(Db (DR S k) p)=true:=h7;refine Xi .pure (Xi _ (Yi (cb h7 (jC (DR S k) p (E8 (sP _ (Av (E0 j4)))))) ?_));refine Xi ⟨[(0,.ref 1000 0),(1,vs p),(9,vi k),(12,vi (L[j]:Nat)),(33,.slice (.id 31 1) (L.map BQ)),(34,vi (L.map BQ).length),(35,vi j)],[(31,.tok 1 (L.map BQ).length),(1000,.cells (srM roots C A S dec 1004 st.length)),(1001,.tok 6 S.infs.length),(1002,.tok 1 S.drv.length),(1003,.map DY (D0 0 S.infs)),(1004,.arr 1 (st.map AT))],Aa⟩ (Yi ⟨Z7,Z6,Fh,Az (by kernel_rfl)⟩ ?_)
   refine Yi (fun h8=>?_) (fun h8=>?_)
   ·have h8:((L[j]:Nat):Int)=(k:Int):=h8;refine Xi ⟨[(0,.ref 1000 0),(1,vs p),(9,vi k),(33,.slice (.id 31 1) (L.map BQ)),(34,vi (L.map BQ).length),(35,vi j)],[(31,.tok 1 (L.map BQ).length),(1000,.cells (srM roots C A S dec 1004 st.length)),(1001,.tok 6 S.infs.length),(1002,.tok 1 S.drv.length),(1003,.map DY (D0 0 S.infs)),(1004,.arr 1 (st.map AT))],Aa⟩ (Yi ⟨Z6,Z6,Fh,Az (by kernel_rfl)⟩ ?_)
    refine Yi (Ii j (by omega)) ?_;refine Xi ⟨(j+1,k,S),Fu n4,by rw[←(Zq (s:=S) (p:=p) (L:=L) (j:=j) (k:=k) n4 (by rw[h5,h7];simp) (by have q:=h8;omega))];exact j2,j3,j4,j5⟩ ?_;exact⟨Dl L.length j (by omega),Z6,Z6,Fh,Az (by kernel_rfl)⟩
   have h8:¬(((L[j]:Nat):Int)=(k:Int)):=h8;refine Xi (Cb (DR S k)) (Yi (Yi (Nn k) (Ch gk)) (Yi rfl ?_));refine Xi (Cb (DR S L[j])) (Yi (Yi (show(0:Int)≤(L[j]:Nat) by omega) (Ch (E0 (j5 _ (Ap n4))))) (Yi rfl ?_));have fk:=sP _ (Av (E0 j4));have fr:=sP _ (Av (E0 (j5 _ (Ap n4))));refine Xi _ (Yi (ug (DR S k) (DR S L[j]) p fk.1 fr.1 fk.2 fr.2) ?_);refine Yi (by kernel_rfl) ?_;refine Xi ⟨[(0,.ref 1000 0),(1,vs p),(9,vi k),(12,vi (L[j]:Nat)),(13,sl AG (Bx (DR S k) (DR S L[j]) p).1),(14,vi (Bx (DR S k) (DR S L[j]) p).2),(33,.slice (.id 31 1) (L.map BQ)),(34,vi (L.map BQ).length),(35,vi j)],[(31,.tok 1 (L.map BQ).length),(1000,.cells (srM roots C A S dec 1004 st.length)),(1001,.tok 6 S.infs.length),(1002,.tok 1 S.drv.length),(1003,.map DY (D0 0 S.infs)),(1004,.arr 1 (st.map AT))],Aa⟩ (Yi ⟨Z9,Z6,Fh,Az (by kernel_rfl)⟩ ?_)
   refine Yi (fun SG=>?_) (fun SG=>?_)
   ·have SG:((Bx (DR S k) (DR S L[j]) p).2:Int)≠(0:Int):=SG;refine Xi ⟨[(0,.ref 1000 0),(1,vs p),(9,vi k),(33,.slice (.id 31 1) (L.map BQ)),(34,vi (L.map BQ).length),(35,vi j)],[(31,.tok 1 (L.map BQ).length),(1000,.cells (srM roots C A S dec 1004 st.length)),(1001,.tok 6 S.infs.length),(1002,.tok 1 S.drv.length),(1003,.map DY (D0 0 S.infs)),(1004,.arr 1 (st.map AT))],Aa⟩ (Yi ⟨Z6,Z6,Fh,Az (by kernel_rfl)⟩ ?_)
    refine Yi (Ii j (by omega)) ?_;refine Xi ⟨(j+1,k,S),Fu n4,by rw[←(cO (s:=S) (p:=p) (L:=L) (j:=j) (k:=k) n4 (by rw[h5,h7];simp) (by have q:=h8;omega) SG)];exact j2,j3,j4,j5⟩ ?_;exact⟨Dl L.length j (by omega),Z6,Z6,Fh,Az (by kernel_rfl)⟩
   have SG:((Bx (DR S k) (DR S L[j]) p).2:Int)=(0:Int):=Bn SG;refine Xi (.gen YA 0) (Yi rfl (Be.imp (lC roots C A S dec st ⟨3,p,0,0,(k:Nat),(L[j]:Nat)⟩ (Bx (DR S k) (DR S L[j]) p).1 yC.1 yC.2.1 j3.nodup) ?_));intro v12 g12 lx;have oK:=lx.1;have oL:=lx.2;subst oK;subst oL;refine Xi ⟨[(0,.ref 1000 0),(1,vs p),(9,vi (((Ef S ⟨3,p,0,0,(k:Nat),(L[j]:Nat)⟩ (Bx (DR S k) (DR S L[j]) p).1).1:Nat):Int)),(33,.slice (.id 31 1) (L.map BQ)),(34,vi (L.map BQ).length),(35,vi j)],[(31,.tok 1 (L.map BQ).length),(1000,.cells [sl AE roots,.cmap C3 C,.cmap C3 A,.slice (.id 1001 6) ((Ef S ⟨3,p,0,0,(k:Nat),(L[j]:Nat)⟩ (Bx (DR S k) (DR S L[j]) p).1).2.infs.map BY),.slice (.id 1002 1) ((Ef S ⟨3,p,0,0,(k:Nat),(L[j]:Nat)⟩ (Bx (DR S k) (DR S L[j]) p).1).2.drv.map Cb),.mref 1003,vb (Ef S ⟨3,p,0,0,(k:Nat),(L[j]:Nat)⟩ (Bx (DR S k) (DR S L[j]) p).1).2.full,sl AF dec,sl Ae (AM dec),.msl 1004 st.length]),(1001,.tok 6 (Ef S ⟨3,p,0,0,(k:Nat),(L[j]:Nat)⟩ (Bx (DR S k) (DR S L[j]) p).1).2.infs.length),(1002,.tok 1 (Ef S ⟨3,p,0,0,(k:Nat),(L[j]:Nat)⟩ (Bx (DR S k) (DR S L[j]) p).1).2.drv.length),(1003,.map DY (D0 0 (Ef S ⟨3,p,0,0,(k:Nat),(L[j]:Nat)⟩ (Bx (DR S k) (DR S L[j]) p).1).2.infs)),(1004,.arr 1 (st.map AT))],Aa⟩ (Yi ⟨Z6,Z6,Fh,Az (by kernel_rfl)⟩ ?_)
   refine Yi (Ii j (by omega)) ?_;obtain⟨a1,a2,a3⟩:=j3.add (U4 (x:=x) (roots:=roots) (p:=p) j4 (j5 _ (Ap n4)) SG);refine Xi ⟨(j+1,(Ef S ⟨3,p,0,0,(k:Nat),(L[j]:Nat)⟩ (Bx (DR S k) (DR S L[j]) p).1).1,(Ef S ⟨3,p,0,0,(k:Nat),(L[j]:Nat)⟩ (Bx (DR S k) (DR S L[j]) p).1).2),Fu n4,by rw[←(cN (s:=S) (p:=p) (L:=L) (j:=j) (k:=k) n4 (by rw[h5,h7];simp) (by have q:=h8;omega) SG)];exact j2,a1,a2,fun r hr=>BK (j5 r hr) a3⟩ ?_;exact⟨Dl L.length j (by omega),Z6,Z6,Fh,Az (by kernel_rfl)⟩
  have h7:(Db (DR S k) p)=false:=h7;refine Xi .pure (Xi _ (Yi (cb h7 (jC (DR S k) p (E8 (sP _ (Av (E0 j4)))))) ?_));refine Xi ⟨[(9,vi k)],[(1000,.cells (srM roots C A S dec 1004 st.length)),(1001,.tok 6 S.infs.length),(1002,.tok 1 S.drv.length),(1003,.map DY (D0 0 S.infs)),(1004,.arr 1 (st.map AT))],Aa⟩ (Yi ⟨Z1,Z5,Fh,Az (by kernel_rfl)⟩ ?_)
  have eR:Cn p L (Bl s n).1 (En x p (Bl s n).2).2=(k,S):=by rw[←j2];exact Th n4 (.inr h7)
  have eL:D4 x p n rs s=(k,S):=by unfold D4;rw[←hL];exact eR
  exact Xi _ (Yi (.refl _) (Yi (show vi (k:Int)=vi (((D4 x p n rs s).1:Nat):Int) by rw[eL]) (show Aj (I2 roots C A S dec st) Aa=Aj (I2 roots C A (D4 x p n rs s).2 dec st) Aa by rw[eL])))
 have h4:¬((j:Int)<((L.map BQ).length:Int)):=h4;have n4:=KC h4;have hj:¬j<L.length:=by have q:=h4;rw[Lm]at q;omega
 have eR:Cn p L (Bl s n).1 (En x p (Bl s n).2).2=(k,S):=by rw[←j2,Hi (by omega)];rfl
 have eL:D4 x p n rs s=(k,S):=by unfold D4;rw[←hL];exact eR
 exact Xi _ (Yi (.refl _) (Yi (show vi (k:Int)=vi (((D4 x p n rs s).1:Nat):Int) by rw[eL]) (show Aj (I2 roots C A S dec st) Aa=Aj (I2 roots C A (D4 x p n rs s).2 dec st) Aa by rw[eL])))
abbrev YB:IU:=[(1000,1000),(1001,1001),(1002,1002),(1003,1003),(500,1004)]
abbrev tB(roots:List Rq)(C A:List (Value×AV))(s:SS)(dec:List Cd)(st:List (List Sk)):List (Nat×HO) :=
 [(1000,.cells (srM roots C A s dec 2000 st.length)),(1001,.tok 6 s.infs.length),(1002,.tok 1 s.drv.length),(1003,.map DY (D0 0 s.infs)),(1004,.dead),(2000,.arr 1 (st.map AT))]
abbrev YC(roots:List Rq)(C A:List (Value×AV))(o:JZ)(r:AV)(h' : Nat→HO):Prop:=r=.tup [vi (o.res:Nat),vb o.found]∧h'=Aj (tB roots C A o.ss o.dec o.stack) Aa
def zg(roots:List Rq)(C A:List (Value×AV)):Prop:=∀(s:SS) (dec:List Cd) (st:List (List Sk)),dec.length≤1000→(∀c∈dec,c.rel.reqs.length≤1073741824) →
 Be Tryz.prog 119 [.ref 1000 0] (Aj (I2 roots C A s dec st) Aa) fun r h'=>r=.tup [vs (GF roots dec).1,sl Ba (GF roots dec).2]∧h'=Aj (I2 roots C A s dec st) Aa
theorem Ns{roots:List Rq}{C A:List (Value×AV)}{o:JZ}{k:Nat}{b:Bool}{s:SS}{dec:List Cd}{st:List (List Sk)}(e:o=⟨k,b,s,dec,st⟩) :
  AV.tup [vi (k:Nat),vb b]=.tup [vi (o.res:Nat),vb o.found]∧Aj (tB roots C A s dec st) Aa=Aj (tB roots C A o.ss o.dec o.stack) Aa:=by rw[e];exact Zr
abbrev Yz:IU:=[(1000,1000),(1001,1001),(1002,1002),(1003,1003),(1004,1004),(1005,1005),(1006,1006),(1007,1007),(1008,1008),(1009,1009)]
def F5(roots:List Rq)(dec:List Cd)(m:Nat):ByteArray×List Nd:=((Ds roots dec).take m).foldl (Ek dec) (mt,[])
theorem X8{roots:List Rq}{dec:List Cd}{m:Nat}{n:Nd}(h:(Ds roots dec)[m]?=some n):F5 roots dec (m+1)=Ek dec (F5 roots dec m) n:=by
 unfold F5;rw[Bp,h,Ki];rfl
theorem lg{roots:List Rq}{dec:List Cd}{m:Nat}(h:(Ds roots dec).length≤m):F5 roots dec m=GF roots dec:=by
 unfold F5 GF;rw[AS h]
def E7(roots:List Rq)(dec:List Cd)(j:Nat):Nat:=roots.length+((dec.take j).map fun c=>c.rel.reqs.length).sum
theorem TG(c:Cd):(PZ c).length=c.rel.reqs.length:=KI _ _ _
theorem db(roots:List Rq)(dec:List Cd):E7 roots dec 0=roots.length:=by unfold E7;simp
theorem da{roots:List Rq}{dec:List Cd}{j:Nat}(h:j<dec.length):E7 roots dec (j+1)=E7 roots dec j+dec[j].rel.reqs.length:=by
 unfold E7;rw[Kl h,AH,List.sum_append];simp[Nat.add_assoc]
theorem Yb(roots:List Rq)(dec:List Cd):E7 roots dec dec.length=(Ds roots dec).length:=by
 unfold E7 Ds Yp;rw[Dv,Ad,KI,List.length_flatten,BN]
 congr 2
 exact Bf fun c _=>(TG c).symm
theorem cV{roots:List Rq}{dec:List Cd}{i:Nat}(h:i<roots.length):(Ds roots dec)[i]?=some ⟨roots[i],mt,0,(i:Nat)⟩:=by
 unfold Ds Yp;rw[AX (by rw[KI];exact h),O0,Ge h,FA,Bi]
theorem Xr{α:Type}:∀{l:List (List α)} {j k:Nat} (hj:j<l.length),k<l[j].length→l.flatten[((l.take j).map List.length).sum+k]?=l[j][k]?
 |y::l,0,k,_,hk=>by
  rw[BA,List.take_zero,E5,List.sum_nil,Bi,AX (show k<y.length from hk)];rfl
 |y::l,j+1,k,hj,hk=>by
  rw[BA,IT,AN,List.sum_cons,A4 (by omega)]
  have:=Xr (l:=l) (j:=j) (k:=k) (by simpa using hj) hk
  rw[show y.length+((l.take j).map List.length).sum+k-y.length=((l.take j).map List.length).sum+k by omega,this]
  rfl
theorem gU{roots:List Rq}{dec:List Cd}{j k:Nat}(hj:j<dec.length)(hk:k<dec[j].rel.reqs.length):(Ds roots dec)[E7 roots dec j+k]?=some ⟨dec[j].rel.reqs[k],dec[j].rel.path,dec[j].place,(k:Nat)⟩:=by
 unfold Ds Yp E7;rw[A4 (by rw[KI];omega),KI];have h:=Xr (l:=dec.map PZ) (j:=j) (k:=k) (by simpa using hj) (by rw[GN,TG];exact hk);rw[←Re,BN,show(List.length ∘ PZ)=fun c=>c.rel.reqs.length from funext TG]at h;rw[show roots.length+((dec.take j).map fun c=>c.rel.reqs.length).sum+k-roots.length=((dec.take j).map fun c=>c.rel.reqs.length).sum+k by omega,h,GN];unfold PZ;rw[O0,Ge hk,FA,Bi]
abbrev ia(roots:List Rq)(C A:List (Value×AV))(s:SS)(dec:List Cd)(st:List (List Sk))(m:Nat):List (Nat×HO) :=
  [(1000,.cells (tA roots C A s dec st.length)),(1001,.tok 6 s.infs.length),(1002,.tok 1 s.drv.length),(1003,.map DY (D0 0 s.infs)),(1004,.arr 1 (st.map AT)),
   (1005,.cells [.ref 1000 0]),(1006,.cells [vs (F5 roots dec m).1]),(1007,.cells [.slice (.ver 1008 5 m) ((F5 roots dec m).2.map Ba)]),(1008,.var 5 m ((F5 roots dec m).2.map Ba).length),(1009,.cells [.ref 1000 0])]
noncomputable abbrev zB(pl:RS)(l:Nat)(Y:Gh→World→Prop):Cx:=⟨Tryz.prog,mH,pl,true,0,fun l' σ' g w=>l'=l→σ'=Yz→Y g w⟩
theorem IL.pre{P:Program}{Y Y' : Gh→World→Prop}{l:Nat}{args:List AV}{h0:Nat→HO}{Q:AV→(Nat→HO)→Prop}(h:IL P Y l args h0 Q)(hp:∀g w,Y' g w→Y g w):IL P Y' l args h0 Q :=
 fun g w vals q1 q2 q3 q4=>h g w vals q1 q2 q3 (hp g w q4)
theorem xi(roots:List Rq)(C A:List (Value×AV))(s:SS)(dec:List Cd)(st:List (List Sk)):Be Tryz.prog 150 [.ref 1000 0] (Aj (I2 roots C A s dec st) Aa) fun r h'=>r=.clo 192 [.ref 2000 0]∧h'=Aj (I2 roots C A s dec st++[(2000,.cells [.ref 1000 0])]) Aa:=by
 refine Co (MA ⟨[],[],[],[],[],[],[],[],[],[],[]⟩) [(1000,1000),(1001,1001),(1002,1002),(1003,1003),(1004,1004),(1,2000)] rfl CD hm rfl Tryz.func150 (by kernel_rfl) rfl (Nz rfl) (by kernel_rfl) rfl ?_;exact Xi _ (Yi (.refl _) Zr)
theorem xj{Y:Gh→World→Prop}(l:Nat)(roots:List Rq)(C A:List (Value×AV))(s:SS)(dec:List Cd)(st:List (List Sk))(hr:roots.length≤1073741824)(hd:dec.length≤1073741824)(pm:∀c∈dec,c.rel.reqs.length≤1073741824)
  (hy:∀m n,(Ds roots dec)[m]?=some n→IL Tryz.prog Y l [.agg (Ba n)] (Aj (ia roots C A s dec st m) Aa) fun r h'=>r=vb true∧h'=Aj (ia roots C A s dec st (m+1)) Aa) :
  WO Tryz.prog Y Yz 192 [.v (.func (.yield l) #[] #[]),.ref 1005 0] (Aj (ia roots C A s dec st 0) Aa) fun _ h'=>h'=Aj (ia roots C A s dec st (Ds roots dec).length) Aa:=by
 have hr:roots.length≤1073741824:=hr;refine gv (l:=l) (zB ⟨[],[],[],[],[],[],[],[],[],[],[4,12]⟩ l Y) Yz rfl CD hm rfl Tryz.func192 (by kernel_rfl) rfl (Nz rfl) (by kernel_rfl) rfl rfl ?_;refine Xi {i:Nat // i≤roots.length} (Xi (fun q=>⟨[(0,.v (.func (.yield l) #[] #[])),(1,.ref 1005 0),(12,sl AE roots),(13,vi (roots.map AE).length),(14,vi q.1)],[(1000,.cells (srM roots C A s dec 1004 st.length)),(1001,.tok 6 s.infs.length),(1002,.tok 1 s.drv.length),(1003,.map DY (D0 0 s.infs)),(1004,.arr 1 (st.map AT)),(1005,.cells [.ref 1000 0]),(1006,.cells [vs (F5 roots dec q.1).1]),(1007,.cells [.slice (.ver 1008 5 q.1) ((F5 roots dec q.1).2.map Ba)]),(1008,.var 5 q.1 ((F5 roots dec q.1).2.map Ba).length),(1009,.cells [.ref 1000 0])],Aa⟩) (Xi (fun q=>roots.length-q.1) (Yi (Xi ⟨0,AL _⟩ ?_) ?_)))
 ·exact⟨Z5,Z10,Fh,Az (by kernel_rfl)⟩
 intro⟨i,i1⟩;have i1:i≤roots.length:=i1;refine Yi (fun h1=>?_) (fun h1=>?_)
 ·have h1:(i:Int)<((roots.map AE).length:Int):=h1;have n1:=Ka h1;refine Xi (AE roots[i]) (Yi (OO n1) (Yi rfl ?_));refine Yi (Nz rfl) ?_;refine Yi (Nz rfl) ?_;refine Yi (Nz rfl) ?_;refine Xi (.gen Yz 0) (Yi rfl (IL.imp (IL.pre (hy i ⟨roots[i],mt,0,(i:Nat)⟩ (cV n1)) (fun g w q=>q rfl rfl)) ?_));intro v2 g2 q2;have wO:=q2.1;have wP:=q2.2;subst wO;subst wP;refine Xi ⟨[(0,.v (.func (.yield l) #[] #[])),(1,.ref 1005 0),(12,sl AE roots),(13,vi (roots.map AE).length),(14,vi i)],[(1000,.cells (srM roots C A s dec 1004 st.length)),(1001,.tok 6 s.infs.length),(1002,.tok 1 s.drv.length),(1003,.map DY (D0 0 s.infs)),(1004,.arr 1 (st.map AT)),(1005,.cells [.ref 1000 0]),(1006,.cells [vs (F5 roots dec (i+1)).1]),(1007,.cells [.slice (.ver 1008 5 (i+1)) ((F5 roots dec (i+1)).2.map Ba)]),(1008,.var 5 (i+1) ((F5 roots dec (i+1)).2.map Ba).length),(1009,.cells [.ref 1000 0])],Aa⟩ (Yi ⟨Z5,Z10,Fh,Az (by kernel_rfl)⟩ ?_)
  refine Yi (Ii i (by omega)) ?_;refine Xi ⟨i+1,by omega⟩ ?_;exact⟨Dl roots.length i (by omega),Z5,Z10,Fh,Az (by kernel_rfl)⟩
 have h1:¬((i:Int)<((roots.map AE).length:Int)):=h1;have n1:=KC h1;have hE:i=E7 roots dec 0:=by rw[db];omega
 refine Xi {j:Nat // j≤dec.length} (Xi (fun q=>⟨[(0,.v (.func (.yield l) #[] #[])),(29,sl AF dec),(30,vi (dec.map AF).length),(31,vi q.1)],[(1000,.cells (srM roots C A s dec 1004 st.length)),(1001,.tok 6 s.infs.length),(1002,.tok 1 s.drv.length),(1003,.map DY (D0 0 s.infs)),(1004,.arr 1 (st.map AT)),(1005,.cells [.ref 1000 0]),(1006,.cells [vs (F5 roots dec (E7 roots dec q.1)).1]),(1007,.cells [.slice (.ver 1008 5 (E7 roots dec q.1)) ((F5 roots dec (E7 roots dec q.1)).2.map Ba)]),(1008,.var 5 (E7 roots dec q.1) ((F5 roots dec (E7 roots dec q.1)).2.map Ba).length),(1009,.cells [.ref 1000 0])],Aa⟩) (Xi (fun q=>dec.length-q.1) (Yi (Xi ⟨0,AL _⟩ ?_) ?_)))
 ·exact⟨Z4,⟨Zr,Zr,Zr,Zr,Zr,Zr,⟨(show .cells [vs (F5 roots dec i).1]=(.cells [vs (F5 roots dec (E7 roots dec 0)).1]:HO) by rw[hE]),rfl⟩,⟨(show .cells [.slice (.ver 1008 5 i) ((F5 roots dec i).2.map Ba)]=(.cells [.slice (.ver 1008 5 (E7 roots dec 0)) ((F5 roots dec (E7 roots dec 0)).2.map Ba)]:HO) by rw[hE]),rfl⟩,⟨(show .var 5 i ((F5 roots dec i).2.map Ba).length=(.var 5 (E7 roots dec 0) ((F5 roots dec (E7 roots dec 0)).2.map Ba).length:HO) by rw[hE]),rfl⟩,Zr,Tv⟩,Fh,Az (by kernel_rfl)⟩
 intro⟨j,j1⟩;have j1:j≤dec.length:=j1;refine Yi (fun h4=>?_) (fun h4=>?_)
 ·have h4:(j:Int)<((dec.map AF).length:Int):=h4;have n4:=Ka h4;have sN:=pm dec[j] (Ap n4);refine Xi (AF dec[j]) (Yi (OO n4) (Yi rfl ?_));refine Yi (Nz rfl) ?_;refine Yi (Nz rfl) ?_;refine Xi {k:Nat // k≤dec[j].rel.reqs.length} (Xi (fun q=>⟨[(0,.v (.func (.yield l) #[] #[])),(6,.ref 6 0),(29,sl AF dec),(30,vi (dec.map AF).length),(31,vi j),(37,sl AE dec[j].rel.reqs),(38,vi (dec[j].rel.reqs.map AE).length),(39,vi q.1)],[(6,.cells (AF dec[j])),(1000,.cells (srM roots C A s dec 1004 st.length)),(1001,.tok 6 s.infs.length),(1002,.tok 1 s.drv.length),(1003,.map DY (D0 0 s.infs)),(1004,.arr 1 (st.map AT)),(1005,.cells [.ref 1000 0]),(1006,.cells [vs (F5 roots dec (E7 roots dec j+q.1)).1]),(1007,.cells [.slice (.ver 1008 5 (E7 roots dec j+q.1)) ((F5 roots dec (E7 roots dec j+q.1)).2.map Ba)]),(1008,.var 5 (E7 roots dec j+q.1) ((F5 roots dec (E7 roots dec j+q.1)).2.map Ba).length),(1009,.cells [.ref 1000 0])],Aa⟩) (Xi (fun q=>dec[j].rel.reqs.length-q.1) (Yi (Xi ⟨0,AL _⟩ ?_) ?_)))
  ·exact⟨Z8,Z11,Fh,Az (by kernel_rfl)⟩
  intro⟨k,k1⟩;have k1:k≤dec[j].rel.reqs.length:=k1;refine Yi (fun h5=>?_) (fun h5=>?_)
  ·have h5:(k:Int)<((dec[j].rel.reqs.map AE).length:Int):=h5;have n5:=Ka h5;refine Xi (AE dec[j].rel.reqs[k]) (Yi (OO n5) (Yi rfl ?_));refine Yi (Nz rfl) ?_;refine Yi (Nz rfl) ?_;refine Yi (Nz rfl) ?_;refine Xi (.gen Yz 0) (Yi rfl (IL.imp (IL.pre (hy (E7 roots dec j+k) ⟨dec[j].rel.reqs[k],dec[j].rel.path,dec[j].place,(k:Nat)⟩ (gU n4 n5)) (fun g w q=>q rfl rfl)) ?_));intro v6 g6 q6;have w6:=q6.1;have w7:=q6.2;subst w6;subst w7;refine Xi ⟨[(0,.v (.func (.yield l) #[] #[])),(6,.ref 6 0),(29,sl AF dec),(30,vi (dec.map AF).length),(31,vi j),(37,sl AE dec[j].rel.reqs),(38,vi (dec[j].rel.reqs.map AE).length),(39,vi k)],[(6,.cells (AF dec[j])),(1000,.cells (srM roots C A s dec 1004 st.length)),(1001,.tok 6 s.infs.length),(1002,.tok 1 s.drv.length),(1003,.map DY (D0 0 s.infs)),(1004,.arr 1 (st.map AT)),(1005,.cells [.ref 1000 0]),(1006,.cells [vs (F5 roots dec (E7 roots dec j+(k+1))).1]),(1007,.cells [.slice (.ver 1008 5 (E7 roots dec j+(k+1))) ((F5 roots dec (E7 roots dec j+(k+1))).2.map Ba)]),(1008,.var 5 (E7 roots dec j+(k+1)) ((F5 roots dec (E7 roots dec j+(k+1))).2.map Ba).length),(1009,.cells [.ref 1000 0])],Aa⟩ (Yi ⟨Z8,Z11,Fh,Az (by kernel_rfl)⟩ ?_)
   refine Yi (Ii k (by omega)) ?_;refine Xi ⟨k+1,by omega⟩ ?_;exact⟨by show dec[j].rel.reqs.length-(k+1)<dec[j].rel.reqs.length-k;omega,Z8,Z11,Fh,Az (by kernel_rfl)⟩
  have h5:¬((k:Int)<((dec[j].rel.reqs.map AE).length:Int)):=h5;have n5:=KC h5;refine Yi (Ii j (by omega)) ?_;have hE:E7 roots dec j+k=E7 roots dec (j+1):=by rw[da n4];omega
  refine Xi ⟨j+1,by omega⟩ ?_;exact⟨Dl dec.length j (by omega),Z4,⟨Zr,Zr,Zr,Zr,Zr,Zr,⟨(show .cells [vs (F5 roots dec (E7 roots dec j+k)).1]=(.cells [vs (F5 roots dec (E7 roots dec (j+1))).1]:HO) by rw[hE]),rfl⟩,⟨(show .cells [.slice (.ver 1008 5 (E7 roots dec j+k)) ((F5 roots dec (E7 roots dec j+k)).2.map Ba)]=(.cells [.slice (.ver 1008 5 (E7 roots dec (j+1))) ((F5 roots dec (E7 roots dec (j+1))).2.map Ba)]:HO) by rw[hE]),rfl⟩,⟨(show .var 5 (E7 roots dec j+k) ((F5 roots dec (E7 roots dec j+k)).2.map Ba).length=(.var 5 (E7 roots dec (j+1)) ((F5 roots dec (E7 roots dec (j+1))).2.map Ba).length:HO) by rw[hE]),rfl⟩,Zr,Tv⟩,Fh,Az (by kernel_rfl)⟩
 have h4:¬((j:Int)<((dec.map AF).length:Int)):=h4;have n4:=KC h4;exact Ac (fun m=>Aj (ia roots C A s dec st m) Aa) (show E7 roots dec j=(Ds roots dec).length by rw[←Yb];congr 1;omega)
theorem oz{h:Nat→HO}{o k r sz:Nat}{cs:List AV}{K:(Nat→HO)→Prop}(c1:h o=.cells cs)(c2:I1 cs k=.v (.slice none 0 0))(c3:h r=.free)(hk:K (AW (AW h r (.var sz 0 0)) o (.cells (ED cs k (.slice (.ver r sz 0) []))))):pA h o k r sz K:=by
 unfold pA;rw[c1];show match I1 cs k with
  |.v (.slice none 0 0)=>match h r with
   |.free=>K (AW (AW h r (.var sz 0 0)) o (.cells (ED cs k (.slice (.ver r sz 0) []))))
   |_=>False
  |_=>False
 rw[c2,c3];exact hk
theorem oO{o k r0 sz:Nat}{bY:Cx}{P:Program}{N:Nat}{fn:Func}{σ:IU}{Q:AV→(Nat→HO)→Prop}{b rest:Code}{st:St}(cs:List AV)(c1:st.h o=.cells cs)(c2:I1 cs k=.v (.slice none 0 0))(c3:st.h r0=.free)(σF σr:IU)(H0 Hn:List (Nat×HO))(gf:Nat)(caps:List AV)
  {lQ s:Nat} {ps:Array Tmp} {GD body:Code} (hb:b=.block lQ (.rangeFunc (.tmp s) ps GD body)) (k1:(Eo σF&&DH (AW (AW st.h r0 (.var sz 0 0)) o (.cells (ED cs k (.slice (.ver r0 sz 0) [])))) 0 0&&Do σF 0 0)=true) (k2:FB σF (AW (AW st.h r0 (.var sz 0 0)) o (.cells (ED cs k (.slice (.ver r0 sz 0) []))))=Aj H0 Aa) (k3:(GI σr&&Ir σr H0)=true) (k4:Ir σr Hn=true)
  (k5:ren (Cv σF) (AW (AW st.h r0 (.var sz 0 0)) o (.cells (ED cs k (.slice (.ver r0 sz 0) [])))) (st.t s)=.clo gf caps)
  (k6:∀(l D:Nat) (f' : FuncId) (tm:Array Value),tm.size=N→WO P (fun g w=>w.heap[l]?=some (.loop (HR f' tm ps GD body D .ready))∧∀i,BJ g w (AR (Aj H0 Aa)) (ren (Cv σF) (AW (AW st.h r0 (.var sz 0 0)) o (.cells (ED cs k (.slice (.ver r0 sz 0) [])))) (st.t i)) (tm.getD i undef)) σr gf
   (.v (.func (.yield l) #[] #[])::caps) (Aj H0 Aa) fun _ h'=>h'=Aj Hn Aa)
  (k7:Ew N rest=true) (k8:Rf bY rest (Xg bY fn.results.toList σr fun r h'=>Q (ren (Cv σ) (D8 σF 0 0 (AW (AW st.h r0 (.var sz 0 0)) o (.cells (ED cs k (.slice (.ver r0 sz 0) [])))) h') (ren (E6 σF 0 0) h' r)) (FB σ (D8 σF 0 0 (AW (AW st.h r0 (.var sz 0 0)) o (.cells (ED cs k (.slice (.ver r0 sz 0) [])))) h')))
   ⟨fun i=>ren (Cv σF) (AW (AW st.h r0 (.var sz 0 0)) o (.cells (ED cs k (.slice (.ver r0 sz 0) [])))) (st.t i),Aj Hn Aa⟩) (k9:Og [] body=false:=by kernel_rfl):tH o k r0 sz bY P N fn σ Q b rest st :=
 oz c1 c2 c3 ⟨σF,σr,H0,Hn,lQ,s,ps,GD,body,gf,caps,hb,k1,k2,k3,k4,k5,k6,k7,k9,k8⟩
section
variable {roots:List Rq}{C A:List (Value×AV)}{s:SS}{dec:List Cd}{st:List (List Sk)}{n:Nd}
theorem Tx{m:Nat}{p:ByteArray}{o:List Nd}(e:F5 roots dec (m+1)=(p,o)){es:List (List AV)}{k:Nat}(h1:es=o.map Ba)(h2:k=es.length) :
  Aj [(1000,.cells (tA roots C A s dec st.length)),(1001,.tok 6 s.infs.length),(1002,.tok 1 s.drv.length),(1003,.map DY (D0 0 s.infs)),(1004,.arr 1 (st.map AT)),
   (1005,.cells [.ref 1000 0]),(1006,.cells [vs p]),(1007,.cells [.slice (.ver 1008 5 (m+1)) es]),(1008,.var 5 (m+1) k),(1009,.cells [.ref 1000 0])] Aa=Aj (ia roots C A s dec st (m+1)) Aa:=by
 subst h1;subst h2
 rw[show ia roots C A s dec st (m+1)=[(1000,.cells (tA roots C A s dec st.length)),(1001,.tok 6 s.infs.length),(1002,.tok 1 s.drv.length),(1003,.map DY (D0 0 s.infs)),(1004,.arr 1 (st.map AT)),
   (1005,.cells [.ref 1000 0]),(1006,.cells [vs (F5 roots dec (m+1)).1]),(1007,.cells [.slice (.ver 1008 5 (m+1)) ((F5 roots dec (m+1)).2.map Ba)]),(1008,.var 5 (m+1) ((F5 roots dec (m+1)).2.map Ba).length),(1009,.cells [.ref 1000 0])]from rfl,e]
theorem ic{a:ByteArray×List Nd}(h:Dg dec n.rq.path=true):Ek dec a n=(a.1,a.2):=by unfold Ek;rw[Aw (.inl h)]
theorem gT{o:List Nd}(h:(0:Int)<((o.map Ba).length:Int)):o≠[]:=fun e=>by subst e;simp at h
theorem kZ{o:List Nd}(h:¬(0:Int)<((o.map Ba).length:Int)):o=[]:=by
 cases o with
 |nil=>rfl
 |cons y l=>exact absurd (by simp) h
theorem lh{a:ByteArray×List Nd}(h:(0:Int)<((a.2.map Ba).length:Int))(hb:Fl a.1 n.rq.path=true):Ek dec a n=(a.1,a.2):=by unfold Ek;rw[Aw (.inr ⟨gT h,hb⟩)]
theorem ie{a:ByteArray×List Nd}(hd:Dg dec n.rq.path=false)(h:(0:Int)<((a.2.map Ba).length:Int))(hb:Fl a.1 n.rq.path=false)(hs:Fl n.rq.path a.1=true):Ek dec a n=(n.rq.path,[n]):=by
 unfold Ek;rw[Ai (by rw[hd,hb];simp),Aw ⟨gT h,hs⟩]
theorem ig{a:ByteArray×List Nd}(hd:Dg dec n.rq.path=false)(hb:Fl a.1 n.rq.path=false)(hs:Fl n.rq.path a.1=false):Ek dec a n=(n.rq.path,a.2++[n]):=by
 unfold Ek;rw[Ai (by rw[hd,hb];simp),Ai (by rw[hs];simp)]
theorem lj{a:ByteArray×List Nd}(hd:Dg dec n.rq.path=false)(h:¬(0:Int)<((a.2.map Ba).length:Int)):Ek dec a n=(n.rq.path,a.2++[n]):=by
 have:=kZ h
 unfold Ek;rw[Ai (by rw[hd,this];simp),Ai (by rw[this];simp)]
theorem li(a:ByteArray×List Nd)(n:Nd):(Ek dec a n).2.length≤a.2.length+1:=by
 unfold Ek;split
 ·omega
 ·split
  ·simp
  ·simp
theorem aR:∀(m:Nat),(F5 roots dec m).2.length≤m
 |0=>Ak _
 |m+1=>by
  have ih:=aR m;cases h:(Ds roots dec)[m]? with
  |none =>
   have e:F5 roots dec (m+1)=F5 roots dec m:=by unfold F5;rw[Bp,h];simp
   rw[e];omega
  |some n=>rw[X8 h];exact AU (li _ _) (DO ih)
theorem Yt:∀{l l' : List (Nat×HO)},l.map Prod.fst=l'.map Prod.fst→(∀p∈l',p.2≠.free)→∀i,AR (Aj l Aa) i→AR (Aj l' Aa) i
 | [],[],_,_,_,h=>h
 |(a,o)::l,(a',o')::l',e,h,i,hu=>by
  rw[AN,AN]at e
  injection e with e1 e2
  have e1:a=a':=e1;subst e1;unfold AR at *
  by_cases q:i=a
  ·subst q;simp only[Aj,CY,JK];exact h _ (Ab ..)
  ·simp only[Aj,CM q,Er]at hu⊢;exact Yt e2 (fun p hp=>h p (Af _ hp)) i hu
theorem ib(m:Nat):∀i,AR (Aj (ia roots C A s dec st 0) Aa) i→AR (Aj (ia roots C A s dec st m) Aa) i:=Yt rfl (by
 repeat (first | exact BR _ | refine Bw.2 ⟨by simp,?_⟩))
theorem bq:∀{l:List Cd},(∀c∈l,c.rel.reqs.length≤1073741824)→((l.map fun c=>c.rel.reqs.length)).sum≤l.length*1073741824
 | [],_=>by simp
 |c::l,h=>by
  have h1:=h c (Ab ..);have h2:=bq fun c hc=>h c (Af _ hc);rw[AN,List.sum_cons,Au];omega
theorem cW(hr:roots.length≤1073741824)(hd:dec.length≤1000)(h:∀c∈dec,c.rel.reqs.length≤1073741824):(Ds roots dec).length≤1074815565824:=by
 rw[←Yb];unfold E7;rw[Dv]
 have:=bq h
 have:=Bh 1073741824 hd
 omega
end
theorem XY(l:List Nd)(n:Nd):l.map Ba++[Ba n]=(l++[n]).map Ba:=by rw[AH];rfl
theorem OP(l:List Nd)(n:Nd):(l.map Ba).length+([Ba n]:List (List AV)).length=(l.map Ba++[Ba n]).length:=Ad.symm
attribute [local irreducible] tH pA F5 Ds Ek
theorem s64(roots:List Rq)(C A:List (Value×AV))(s:SS)(dec:List Cd)(st:List (List Sk))(hr:roots.length≤1073741824)(hd:dec.length≤1000)(pm:∀c∈dec,c.rel.reqs.length≤1073741824) :
  Be Tryz.prog 119 [.ref 1000 0] (Aj (I2 roots C A s dec st) Aa) fun r h'=>r=.tup [vs (GF roots dec).1,sl Ba (GF roots dec).2]∧h'=Aj (I2 roots C A s dec st) Aa:=by
 refine bF 5 0 9 5 (MA ⟨[],[],[],[],[],[],[],[],[],[],[]⟩) (MA F6) YA rfl CD rfl CD hm rfl rfl Tryz.func119 (by kernel_rfl) rfl (Nz rfl) (by kernel_rfl) rfl 3 ?_;refine Yi (Nz rfl) ?_;refine Xi (.gen YA 1) (Yi rfl (Be.imp (xi roots C A s dec st) ?_));intro v1 g1 q1;have iH:=q1.1;have iI:=q1.2;subst iH;subst iI;refine oO [.v (.slice none 0 0)] (by kernel_rfl) (by kernel_rfl) (by kernel_rfl) [(1000,1000),(1001,1001),(1002,1002),(1003,1003),(1004,1004),(10800,1005),(4,1006),(5,1007),(9,1008),(1,1009)] Yz (ia roots C A s dec st 0) (ia roots C A s dec st (Ds roots dec).length) 192 [.ref 1005 0] rfl (by kernel_rfl) (by kernel_rfl) (by kernel_rfl) (by kernel_rfl) (by kernel_rfl) (fun l9 D9 f9 tm9 s7=>xj l9 roots C A s dec st hr (AU hd (by decide)) pm fun m n hn=>dM (σ:=Yz) 1007 0 1008 (MA ⟨[],[(43,5)],[],[],[],[],[],[],[],[(500005,60001007)],[5]⟩) rfl CD hm rfl rfl rfl s7 (by kernel_rfl) (by kernel_rfl) (by kernel_rfl) (ib m) ?_) (by kernel_rfl) ?_
 ·have ym:m<(Ds roots dec).length:=(At.1 hn).1;have hol:=aR (roots:=roots) (dec:=dec) m;have hnl:=cW hr hd pm;have hF:=X8 hn;refine Yi (Nz rfl) ?_;refine Yi ⟨rfl,rfl⟩ ?_;refine Xi ⟨[(1,.ref 1009 0),(4,.ref 1006 0),(5,.ref 1007 0),(6,.ref 6 0)],[(6,.cells (Ba n)),(60,.tok 5 ((F5 roots dec m).2.map Ba).length),(1000,.cells (srM roots C A s dec 1004 st.length)),(1001,.tok 6 s.infs.length),(1002,.tok 1 s.drv.length),(1003,.map DY (D0 0 s.infs)),(1004,.arr 1 (st.map AT)),(1005,.cells [.ref 1000 0]),(1006,.cells [vs (F5 roots dec m).1]),(1007,.cells [.slice (.id 60 5) ((F5 roots dec m).2.map Ba)]),(1008,.vox m),(1009,.cells [.ref 1000 0])],Aa⟩ (Yi ⟨Z4,Z12,Fh,Az (by kernel_rfl)⟩ ?_)
  refine BH (Bt (Dg dec n.rq.path)) (fun h2=>?_) (fun h2=>?_)
  ·have h2:(Dg dec n.rq.path)=true:=h2;have xY:=(se roots C A s dec st n.rq.path (AU hd (by decide)));rw[show(Dg dec n.rq.path)=true from h2]at xY;refine Xi (.gen YA 0) (Yi rfl (Be.imp xY ?_));intro v4 g4 q4;have wY:=q4.1;have wZ:=q4.2;subst wY;subst wZ;refine Yi ⟨rfl,rfl⟩ ?_
   -- [('(Dg dec n.rq.path)=true',True)]
   exact⟨rfl,Tx (hF.trans (ic h2)) rfl rfl⟩
  have h2:(Dg dec n.rq.path)=false:=h2;have xZ:=(se roots C A s dec st n.rq.path (AU hd (by decide)));rw[show(Dg dec n.rq.path)=false from h2]at xZ;refine Xi (.gen YA 0) (Yi rfl (Be.imp xZ ?_));intro v6 g6 q6;have w6:=q6.1;have w7:=q6.2;subst w6;subst w7;refine Yi (fun h7=>?_) (fun h7=>?_)
  ·have h7:(0:Int)<(((F5 roots dec m).2.map Ba).length:Int):=h7;have n7:0<(F5 roots dec m).2.length:=by have q:=h7;rw[Lm]at q;omega
   refine Yi (fun h8=>?_) (fun h8=>?_)
   ·have h8:Fl (F5 roots dec m).1 n.rq.path=true:=(HX _ _).trans h8;refine Yi ⟨rfl,rfl⟩ ?_
    -- [('(Dg dec n.rq.path)=true',False),('(0:Int)<(((F5 roots dec m).2.map Ba).length:Int)',True),('Fl (F5 roots dec m).1 n.rq.path=true',True)]
    exact⟨rfl,Tx (hF.trans (lh h7 h8)) rfl rfl⟩
   have h8:Fl (F5 roots dec m).1 n.rq.path=false:=(HX _ _).trans (AK.2 h8);refine Yi (fun _=>?_) (fun hf=>absurd h7 hf);refine Yi (fun h9=>?_) (fun h9=>?_)
   ·have h9:Fl n.rq.path (F5 roots dec m).1=true:=(HX _ _).trans h9;refine Yi (Nz rfl) ?_;refine Yi (Nz rfl) ?_;refine Yi (Nz rfl) ?_;have Yw:Dn 5 [(Ba n)]∧([(Ba n)]:List (List AV)).length*72≤140737488355328∧([(Ba n)]:List (List AV)).length≤9223372036854775807:=⟨⟨rfl,trivial⟩,(by simp only[Au,AD];omega),(by simp only[Au,AD];omega)⟩;refine Yi Yw ?_;refine Yi (Nz rfl) ?_;refine Yi ⟨rfl,rfl⟩ ?_
    -- [('(Dg dec n.rq.path)=true',False),('(0:Int)<(((F5 roots dec m).2.map Ba).length:Int)',True),('Fl (F5 roots dec m).1 n.rq.path=true',False),('Fl n.rq.path (F5 roots dec m).1=true',True)]
    exact⟨rfl,Tx (hF.trans (ie h2 h7 h8 h9)) rfl rfl⟩
   have h9:Fl n.rq.path (F5 roots dec m).1=false:=(HX _ _).trans (AK.2 h9);refine Yi (Nz rfl) ?_;refine Yi (Nz rfl) ?_;have mY:Dn 5 [(Ba n)]∧((F5 roots dec m).2.map Ba).length=((F5 roots dec m).2.map Ba).length∧(((F5 roots dec m).2.map Ba).length+([(Ba n)]:List (List AV)).length)*72≤140737488355328∧((F5 roots dec m).2.map Ba).length+([(Ba n)]:List (List AV)).length≤9223372036854775807:=⟨⟨rfl,trivial⟩,rfl,(by simp only[Lm,Au,AD];omega),(by simp only[Lm,Au,AD];omega)⟩;refine Yi mY ?_;refine Yi (Nz rfl) ?_;refine Yi ⟨(OP _ n).symm,rfl⟩ ?_
   -- [('(Dg dec n.rq.path)=true',False),('(0:Int)<(((F5 roots dec m).2.map Ba).length:Int)',True),('Fl (F5 roots dec m).1 n.rq.path=true',False),('Fl n.rq.path (F5 roots dec m).1=true',False)]
   exact⟨rfl,Tx (hF.trans (ig h2 h8 h9)) (XY _ n) (OP _ n)⟩
  have h7:¬((0:Int)<(((F5 roots dec m).2.map Ba).length:Int)):=h7;have n7:¬0<(F5 roots dec m).2.length:=by have q:=h7;rw[Lm]at q;omega
  refine Yi (fun hf=>absurd hf h7) (fun _=>?_);refine Yi (Nz rfl) ?_;refine Yi (Nz rfl) ?_;have sw:Dn 5 [(Ba n)]∧((F5 roots dec m).2.map Ba).length=((F5 roots dec m).2.map Ba).length∧(((F5 roots dec m).2.map Ba).length+([(Ba n)]:List (List AV)).length)*72≤140737488355328∧((F5 roots dec m).2.map Ba).length+([(Ba n)]:List (List AV)).length≤9223372036854775807:=⟨⟨rfl,trivial⟩,rfl,(by simp only[Lm,Au,AD];omega),(by simp only[Lm,Au,AD];omega)⟩;refine Yi sw ?_;refine Yi (Nz rfl) ?_;refine Yi ⟨(OP _ n).symm,rfl⟩ ?_
  -- [('(Dg dec n.rq.path)=true',False),('(0:Int)<(((F5 roots dec m).2.map Ba).length:Int)',False)]
  exact⟨rfl,Tx (hF.trans (lj h2 h7)) (XY _ n) (OP _ n)⟩
 refine Yi (by kernel_rfl) ?_;exact Xi _ (Yi (.refl _) ⟨show AV.tup [vs (F5 roots dec (Ds roots dec).length).1,sl Ba (F5 roots dec (Ds roots dec).length).2]=_ by rw[lg (Ak _)],rfl⟩)
end Go.Eng
namespace Go.Eng
open Go.Proofs
theorem cE{α:Type}(pr:α→Bool)(l:List α):(∃(k:Nat) (n:α),H3 pr l 0=(k:Nat)∧l[k]?=some n∧l.find? pr=some n)∨(H3 pr l 0=-1∧l.find? pr=none):=by
 have key:∀(l:List α) (b:Nat),(∃(k:Nat) (n:α),H3 pr l (b:Nat)=((b+k:Nat):Int)∧l[k]?=some n∧l.find? pr=some n)∨(H3 pr l (b:Nat)=-1∧l.find? pr=none):=by
  intro l
  induction l with
  |nil=>intro b;exact .inr Zr
  |cons y l ih =>
   intro b;cases h:pr y with
   |true=>exact .inl ⟨0,y,by unfold H3;rw[Aw h];rfl,rfl,by rw[Fx,h]⟩
   |false =>
    have e:H3 pr (y::l) (b:Nat)=H3 pr l ((b+1:Nat):Int):=by
     conv=>lhs;unfold H3
     rw[Ai (by rw[h];decide)];rw[show((b+1:Nat):Int)=(b:Int)+1 by omega]
    have e2:(y::l).find? pr=l.find? pr:=by rw[Fx,h]
    rcases ih (b+1)with ⟨k,n,h1,h2,h3⟩ | ⟨h1,h2⟩
    ·exact .inl ⟨k+1,n,by rw[e,h1];congr 1;omega,by simpa using h2,by rw[e2];exact h3⟩
    ·exact .inr ⟨by rw[e];exact h1,by rw[e2];exact h2⟩
 have:=key l 0
 simpa using this
section
variable {rec:List Cd→SS→List (List Sk)→JZ}{x:List Rl}{p:ByteArray}{N:List Nd}{n0:Nd}{dec:List Cd}{st:List (List Sk)}{cs:List Cd}{i:Nat}{S:SS}{rs:List Nat}{sk:List Sk}
theorem eZ(h:¬i<cs.length):D3 rec x p N n0 dec st (cs.drop i) S rs sk=⟨(D4 x p n0 rs S).1,false,(D4 x p n0 rs S).2,dec,st⟩:=by
 rw[Hi (by omega)];rfl
theorem jX(h:i<cs.length)(hf:S.full=true):D3 rec x p N n0 dec st (cs.drop i) S rs sk=⟨0,false,S,dec,st⟩:=by
 rw[Bv h,Gg,Aw hf]
theorem qd(h:i<cs.length)(hf:S.full=false){n:Nd}(hn:N.find? (fun n=>!has n.rq.set cs[i].place)=some n):D3 rec x p N n0 dec st (cs.drop i) S rs sk=D3 rec x p N n0 dec st (cs.drop (i+1)) (Bl S n).2 (rs++[(Bl S n).1]) sk:=by
 rw[Bv h,Gg,Ai (by rw[hf];decide),hn]
theorem VR(h:i<cs.length)(hf:S.full=false)(hn:N.find? (fun n=>!has n.rq.set cs[i].place)=none){k:Nat}(he:Oo S.drv (AM (dec++[cs[i]]))=some k):D3 rec x p N n0 dec st (cs.drop i) S rs sk=JH rec x p N n0 dec st cs[i] (cs.drop (i+1)) rs sk k S:=by
 rw[Bv h,Gg,Ai (by rw[hf];decide),hn];dsimp only;rw[he]
theorem W4(h:i<cs.length)(hf:S.full=false)(hn:N.find? (fun n=>!has n.rq.set cs[i].place)=none)(he:Oo S.drv (AM (dec++[cs[i]]))=none){n:Nd}(hc:Eb dec cs[i]=some n) :
  D3 rec x p N n0 dec st (cs.drop i) S rs sk=JH rec x p N n0 dec st cs[i] (cs.drop (i+1)) rs sk (Bl S n).1 (Bl S n).2:=by
 rw[Bv h,Gg,Ai (by rw[hf];decide),hn];dsimp only;rw[he];dsimp only;rw[hc]
theorem VS(h:i<cs.length)(hf:S.full=false)(hn:N.find? (fun n=>!has n.rq.set cs[i].place)=none)(he:Oo S.drv (AM (dec++[cs[i]]))=none)(hc:Eb dec cs[i]=none){o:JZ}(ho:o=rec (dec++[cs[i]]) S (st++[sk])) :
  D3 rec x p N n0 dec st (cs.drop i) S rs sk=if o.found=true then⟨0,true,o.ss,o.dec,o.stack⟩else if o.ss.full=true then⟨0,false,o.ss,dec,st⟩else JH rec x p N n0 dec st cs[i] (cs.drop (i+1)) rs sk o.res o.ss:=by
 rw[ho,Bv h,Gg,Ai (by rw[hf];decide),hn];dsimp only;rw[he];dsimp only;rw[hc]
theorem ac{c:Cd}{l:List Cd}{k:Nat}(h:Db (DR S k) p=false):JH rec x p N n0 dec st c l rs sk k S=⟨k,false,S,dec,st⟩:=by unfold JH;rw[Aw h]
theorem VJ{c:Cd}{l:List Cd}{k:Nat}(h:Db (DR S k) p=true):JH rec x p N n0 dec st c l rs sk k S=D3 rec x p N n0 dec st l S (rs++[k]) (sk++[⟨p,c.place,(k:Nat)⟩]):=by unfold JH;rw[Ai (by rw[h];decide)]
end
theorem Xc{x:List Rl}{dec:List Cd}(h:EA x dec):dec.length≤x.length:=by
 have h1:=Ij (m:=x.map (·.path)) h.nodup fun p hp=>by
  obtain⟨c,hc,rfl⟩:=Al.1 hp;exact Al.2 ⟨c.rel,(h.cand c hc).1,rfl⟩
 rw[Lm,Lm]at h1;exact h1
theorem UJ(x:List Rl)(p:ByteArray):(Cq x p).length≤x.length:=by
 unfold Cq;rw[Lm];exact BF _ _
end Go.Eng
