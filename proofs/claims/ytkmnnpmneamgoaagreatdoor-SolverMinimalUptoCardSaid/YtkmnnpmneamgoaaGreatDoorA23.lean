/- Lemmas for the claims of this seat, without a condition: part 23 (S5, S8a, S9, S10, S8b). -/
import Derived.Test.YtkmnnpmneamgoaaGreatDoorA22
import Derived.Test.YtkmnnpmneamgoaaGreatDoorA16
namespace Go.Eng
open Go.Proofs
theorem deriveGo_inU {x:List Rl} {roots:List Rq} {l0:List Nf} : ∀ {l:List Nf} {d d' : List (List Tm)},(∀ i ∈ l,i ∈ l0)→(∀ t ∈ d,InU (pathsU x roots l0) t)→deriveGo x roots l d=some d'→∀ t ∈ d',InU (pathsU x roots l0) t
 | [],d,d',_,hd,h=>by cases h; exact hd
 | i :: l,d,d',hl,hd,h=>by
  unfold deriveGo at h;cases hi:inferP x roots d i with
  | none=>rw [hi] at h; cases h
  | some t =>
   rw [hi] at h;refine deriveGo_inU (fun j hj=>hl j (List.mem_cons_of_mem _ hj)) (fun u hu=>?_) h;rcases List.mem_append.1 hu with hu | hu
   ·exact hd u hu
   ·rw [List.mem_singleton.1 hu]; exact inferP_in (hl i (List.mem_cons_self ..)) hd hi
section
variable {x:List Rl} {roots:List Rq} {s:SS}
theorem DerOk.few (hx:checkIx x=0) (hr:checkRqs roots=0) (h:DerOk x roots s):∀ t ∈ s.drv,FewI t:=fun t ht =>
 (deriveGo_inU (l0:=s.infs) (fun _ h=>h) (fun _ h=>by cases h) h.der t ht).fewI (pathsU_few hx hr h.len)
theorem addI_nodup {i:Nf} {l:List Tm} (h:s.infs.Nodup):(addI s i l).2.infs.Nodup:=by
 cases hk:posN i 0 s.infs with
 | some k=>rw [addI_old hk]; exact h
 | none =>
  by_cases hf:65536≤s.infs.length
  ·rw [addI_full hk hf]; exact h
  ·rw [addI_new hk hf];show (s.infs++[i]).Nodup;rw [List.nodup_append];refine ⟨h,by simp,fun a ha b hb e=>?_⟩;rw [List.mem_singleton.1 hb] at e;exact posN_none hk (e▸ha)
theorem SsOk.add (h:SsOk x roots s) {i:Nf} {l:List Tm} (hi:inferP x roots s.drv i=some l):SsOk x roots (addI s i l).2∧(addI s i l).1<(addI s i l).2.drv.length∧s.drv.length≤(addI s i l).2.drv.length :=
 ⟨⟨(addI_der h.der hi).1,addI_nodup h.nodup⟩,(addI_der h.der hi).2.1,(addI_grow s i l).len⟩
theorem SsOk.dl (h:SsOk x roots s):s.infs.length≤65536∧s.drv.length=s.infs.length∧s.drv.length≤65536:=by
 have h1:=h.der.dlen;have h2:=h.der.len;exact ⟨h2,h1,by omega⟩
theorem none_inf (hx:checkIx x=0) (p:ByteArray):∀ d,inferP x roots d ⟨2,p,0,0,0,0⟩=some (noneT p (availP x p)):=fun d=>by
 obtain ⟨u,u0,u1,hu⟩:=unavail hx p;have hV:ValidS []:=fun _ h=>by cases h
 have ou:Opt [] p (optK [] p (vrK u)):=.ver hV (verK_valid ⟨u0,u1⟩);have h1:violated [(⟨p,false,compl (availP x p)⟩ : Tm)] (optK [] p (vrK u))=true:=by
  rw [violated_iff];intro t ht;rw [List.mem_singleton.1 ht];show holdsS _ (findSl (optK [] p (vrK u)) p)=true;rw [optK_find rfl];show (validB (vrK u)&&has (compl (availP x p)) (place (vrK u)))=true;rw [verK_valid ⟨u0,u1⟩,verK_place,has_compl,hu];unfold inPl;simp [u0,u1]
 have h2:violated [(⟨p,false,compl (availP x p)⟩ : Tm)] []=false:=rfl;have hne:noneT p (availP x p)≠[]:=by
  have c1:=violated_canonT (l:=[(⟨p,false,compl (availP x p)⟩ : Tm)]) ou.val;have c2:=violated_canonT (l:=[(⟨p,false,compl (availP x p)⟩ : Tm)]) hV;rw [h1] at c1;rw [h2] at c2;unfold noneT ofT;cases hc:canonT [(⟨p,false,compl (availP x p)⟩ : Tm)] with
  | none=>rw [hc] at c1; cases c1
  | some c =>
   rw [hc] at c2;intro e;have e:c=[]:=e;rw [e] at c2; cases c2
 unfold inferP;rw [if_neg (show ¬ ((2:Int)=0) by decide),if_neg (show ¬ ((2:Int)=1) by decide),if_pos rfl,if_pos ⟨rfl,rfl,rfl,rfl⟩];unfold ne0;rw [if_neg (by rw [List.isEmpty_iff]; exact hne)]
theorem atD_get {k:Nat} (h:k<s.drv.length):s.drv[k]?=some (atD s k):=by
 unfold atD; rw [List.getD_eq_getElem?_getD,Ge h]; rfl
theorem learn_stop {p:ByteArray} {L:List Nat} {j k:Nat} (hj:j<L.length) (h:s.full=true∨concB (atD s k) p=false):learnGo p (L.drop j) k s=(k,s):=by
 rw [List.drop_eq_getElem_cons hj];unfold learnGo;rw [if_pos h]
theorem learn_same {p:ByteArray} {L:List Nat} {j k:Nat} (hj:j<L.length) (h1:¬ (s.full=true∨concB (atD s k) p=false)) (h:L[j]=k):learnGo p (L.drop j) k s=learnGo p (L.drop (j+1)) k s:=by
 rw [List.drop_eq_getElem_cons hj]
 conv=>lhs; unfold learnGo
 rw [if_neg h1,if_pos h]
theorem learn_err {p:ByteArray} {L:List Nat} {j k:Nat} (hj:j<L.length) (h1:¬ (s.full=true∨concB (atD s k) p=false)) (h2:¬ L[j]=k) (h:(resolveT (atD s k) (atD s L[j]) p).2≠0):learnGo p (L.drop j) k s=learnGo p (L.drop (j+1)) k s:=by
 rw [List.drop_eq_getElem_cons hj]
 conv=>lhs; unfold learnGo
 rw [if_neg h1,if_neg h2,if_pos h]
theorem learn_add {p:ByteArray} {L:List Nat} {j k:Nat} (hj:j<L.length) (h1:¬ (s.full=true∨concB (atD s k) p=false)) (h2:¬ L[j]=k) (h:(resolveT (atD s k) (atD s L[j]) p).2=0) :
  learnGo p (L.drop j) k s=learnGo p (L.drop (j+1)) (addI s ⟨3,p,0,0,(k:Nat),(L[j]:Nat)⟩ (resolveT (atD s k) (atD s L[j]) p).1).1 (addI s ⟨3,p,0,0,(k:Nat),(L[j]:Nat)⟩ (resolveT (atD s k) (atD s L[j]) p).1).2:=by
 rw [List.drop_eq_getElem_cons hj]
 conv=>lhs; unfold learnGo
 rw [if_neg h1,if_neg h2,if_neg (fun h3=>h3 h)]
end
theorem fewI_few0 {t:List Tm} (h:FewI t):Few t:=by have:=h.1; unfold Few; omega
set_option maxHeartbeats 4000000 in
theorem s91 (x:List Rl) (roots:List Rq) (C A:List (Value × AV)) (s:SS) (dec:List Cd) (st:List (List Sk)) (p:ByteArray) (n:Nd) (rs:List Nat) (V:AV) (hx:checkIx x=0) (hr:checkRqs roots=0) (hs:SsOk x roots s) (hinf:∀ d,inferP x roots d (infN n)=some (incN n)) (hrs:∀ r ∈ rs,r<s.drv.length) (hrl:rs.length≤1073741823) (hnq:Few n.rq.set) (hnp:InI64 (n.place+1))
  (hV1:∀ a,(Value.string p,a) ∈ A→a=V) (hV2:(∀ a,(Value.string p,a) ∉ A)→V=.v (.slice none 0 0)) (hV3:∀ h,PC 137 [vs p,str h V] (sl encTm (noneT p (availP x p)))):ACall Tryz.prog 91 [.ref 1000 0,vs p,.agg (encNd n),sl encIn rs] (heapOf (srH roots C A s dec st) hfree) fun r h'=>AddQ roots C A dec st (learnS x p n rs s) r h':=by
 have hw:=hs.dl;obtain ⟨hs1,hk1,hg1⟩:=hs.add (hinf s.drv)
 change SsOk x roots (infS s n).2 at hs1
 change (infS s n).1<(infS s n).2.drv.length at hk1
 change s.drv.length≤(infS s n).2.drv.length at hg1
 have hw1:=hs1.dl;obtain ⟨hs2,hk2,hg2⟩:=hs1.add (none_inf hx p (infS s n).2.drv)
 change SsOk x roots (noneS x p (infS s n).2).2 at hs2
 change (noneS x p (infS s n).2).1<(noneS x p (infS s n).2).2.drv.length at hk2
 change (infS s n).2.drv.length≤(noneS x p (infS s n).2).2.drv.length at hg2
 obtain ⟨L,hL⟩ : ∃ L,L=(noneS x p (infS s n).2).1 :: rs:=⟨_,rfl⟩;have hLr:∀ r ∈ L,r<(noneS x p (infS s n).2).2.drv.length:=fun r hr'=>by
  rw [hL] at hr';rcases List.mem_cons.1 hr' with rfl | h
  ·exact hk2
  ·have:=hrs r h; omega
 have hLl:L.length=rs.length+1:=by rw [hL]; rfl
 have hk1:(infS s n).1<(noneS x p (infS s n).2).2.drv.length:=by omega
 refine acall_sub (cxe ⟨[6],[],[],[],[],[],[],[],[],[],[2,3,7,8,10,12]⟩) [(1000,1000),(1001,1001),(1002,1002),(1003,1003),(1004,1004)] rfl tab_ok hm rfl Tryz.func91 (by kernel_rfl) rfl (Nz rfl) (by kernel_rfl) rfl ?_;refine Yi (Nz rfl) ?_;refine Xi (.gen ID5 0) (Yi rfl (ACall.imp (s88 roots C A s dec st n hw.1 hw.2.1 hs.nodup hnq hnp) ?_));intro v1 g1 q1;have q1a:=q1.1;have q1b:=q1.2;subst q1a;subst q1b;refine Xi ⟨[(0,.ref 1000 0),(1,vs p),(3,sl encIn rs),(9,vi (((infS s n).1:Nat):Int))],[(1000,.cells [sl encRq roots,.cmap shS C,.cmap shS A,.slice (.id 1001 6) ((infS s n).2.infs.map encNf),.slice (.id 1002 1) ((infS s n).2.drv.map encInc),.mref 1003,vb (infS s n).2.full,sl encCd dec,sl encSl (keysC dec),.msl 1004 st.length]),(1001,.tok 6 (infS s n).2.infs.length),(1002,.tok 1 (infS s n).2.drv.length),(1003,.map shN (knL 0 (infS s n).2.infs)),(1004,.arr 1 (st.map encSks))],hfree⟩ (Yi ⟨Z4,Z5,Fh,ext_dec (by kernel_rfl)⟩ ?_)
 refine found_eq V (.v (.slice none 0 0)) hV1 hV2 (fun h=>h) ?_;refine Xi .pure (Xi _ (Yi (hV3 _) ?_));refine Xi (.gen ID5 0) (Yi rfl (ACall.imp (s132 roots C A (infS s n).2 dec st ⟨2,p,0,0,0,0⟩ (noneT p (availP x p)) hw1.1 hw1.2.1 hs1.nodup) ?_));intro v2 g2 q2;have q2a:=q2.1;have q2b:=q2.2;subst q2a;subst q2b;refine Xi ⟨[(0,.ref 1000 0),(1,vs p),(3,sl encIn rs),(9,vi (((infS s n).1:Nat):Int)),(10,vi (((noneS x p (infS s n).2).1:Nat):Int))],[(1000,.cells [sl encRq roots,.cmap shS C,.cmap shS A,.slice (.id 1001 6) ((noneS x p (infS s n).2).2.infs.map encNf),.slice (.id 1002 1) ((noneS x p (infS s n).2).2.drv.map encInc),.mref 1003,vb (noneS x p (infS s n).2).2.full,sl encCd dec,sl encSl (keysC dec),.msl 1004 st.length]),(1001,.tok 6 (noneS x p (infS s n).2).2.infs.length),(1002,.tok 1 (noneS x p (infS s n).2).2.drv.length),(1003,.map shN (knL 0 (noneS x p (infS s n).2).2.infs)),(1004,.arr 1 (st.map encSks))],hfree⟩ (Yi ⟨Z5,Z5,Fh,ext_dec (by kernel_rfl)⟩ ?_)
 have b3:AllLen 1 (rs.map encIn)∧([[vi (((noneS x p (infS s n).2).1:Nat):Int)]]:List (List AV)).length=1∧(([[vi (((noneS x p (infS s n).2).1:Nat):Int)]]:List (List AV)).length+(rs.map encIn).length)*8≤140737488355328∧([[vi (((noneS x p (infS s n).2).1:Nat):Int)]]:List (List AV)).length+(rs.map encIn).length≤9223372036854775807:=⟨(allLen_map (enc:=encIn) (n:=1) (fun _=>rfl) rs),(by first | (simp; done) | (rw [Lm]; assumption)),(by simp only [Lm,List.length_cons,List.length_nil]; omega),(by simp only [Lm,List.length_cons,List.length_nil]; omega)⟩
 refine Yi b3 ?_;refine Xi {q:Nat × Nat × SS // q.1≤L.length∧learnGo p (L.drop q.1) q.2.1 q.2.2=learnGo p L (infS s n).1 (noneS x p (infS s n).2).2∧SsOk x roots q.2.2∧q.2.1<q.2.2.drv.length∧∀ r ∈ L,r<q.2.2.drv.length} (Xi (fun q=>⟨[(0,.ref 1000 0),(1,vs p),(9,vi q.1.2.1),(33,.slice (.id 31 1) (L.map encIn)),(34,vi (L.map encIn).length),(35,vi q.1.1)],[(31,.tok 1 (L.map encIn).length),(1000,.cells (srM roots C A q.1.2.2 dec 1004 st.length)),(1001,.tok 6 q.1.2.2.infs.length),(1002,.tok 1 q.1.2.2.drv.length),(1003,.map shN (knL 0 q.1.2.2.infs)),(1004,.arr 1 (st.map encSks))],hfree⟩) (Xi (fun q=>L.length - q.1.1) (Yi (Xi ⟨(0,(infS s n).1,(noneS x p (infS s n).2).2),Nat.zero_le _,by rw [List.drop_zero],hs2,hk1,hLr⟩ ?_) ?_)))
 ·exact ⟨⟨Zr,Zr,Zr,⟨(show AV.slice (.id 31 1) ([[vi (((noneS x p (infS s n).2).1:Nat):Int)]]++rs.map encIn)=.slice (.id 31 1) (L.map encIn) by rw [hL]; rfl),rfl⟩,⟨(show vi (([[vi (((noneS x p (infS s n).2).1:Nat):Int)]]++rs.map encIn:List (List AV)).length:Int)=vi ((L.map encIn).length:Int) by rw [hL]; rfl),rfl⟩,Zr,Tv⟩,⟨⟨(show HO.tok 1 (([[vi (((noneS x p (infS s n).2).1:Nat):Int)]]:List (List AV)).length+(rs.map encIn).length)=.tok 1 (L.map encIn).length by rw [hL]; simp [Nat.add_comm]),rfl⟩,Zr,Zr,Zr,Zr,Zr,Tv⟩,Fh,ext_dec (by kernel_rfl)⟩
 intro ⟨⟨j,k,S⟩,j1,j2,j3,j4,j5⟩;have j1:j≤L.length:=j1;have j2:learnGo p (L.drop j) k S=learnGo p L (infS s n).1 (noneS x p (infS s n).2).2:=j2;have j3:SsOk x roots S:=j3;have j4:k<S.drv.length:=j4;have j5:∀ r ∈ L,r<S.drv.length:=j5;have hw3:=j3.dl;have hfw:=j3.der.few hx hr;have gk:S.drv[k]?=some (atD S k):=atD_get j4;refine Yi (fun h4=>?_) (fun h4=>?_)
 ·have h4:(j:Int)<((L.map encIn).length:Int):=h4;have n4:j<L.length:=by have q:=h4; rw [Lm] at q; omega
  have g4:L[j]?=some L[j]:=Ge n4;refine Xi (encIn L[j]) (Yi (Yi (Nn j) (map_at g4)) (Yi rfl ?_));refine Yi (fun h5=>?_) (fun h5=>?_)
  ·have h5:S.full=true:=h5;refine Xi ⟨[(9,vi k)],[(1000,.cells (srM roots C A S dec 1004 st.length)),(1001,.tok 6 S.infs.length),(1002,.tok 1 S.drv.length),(1003,.map shN (knL 0 S.infs)),(1004,.arr 1 (st.map encSks))],hfree⟩ (Yi ⟨Z1,Z5,Fh,ext_dec (by kernel_rfl)⟩ ?_)
   have eR:learnGo p L (infS s n).1 (noneS x p (infS s n).2).2=(k,S):=by rw [← j2]; exact learn_stop n4 (.inl h5)
   have eL:learnS x p n rs s=(k,S):=by unfold learnS; rw [← hL]; exact eR
   exact Xi _ (Yi (.refl _) (Yi (show vi (k:Int)=vi (((learnS x p n rs s).1:Nat):Int) by rw [eL]) (show heapOf (srH roots C A S dec st) hfree=heapOf (srH roots C A (learnS x p n rs s).2 dec st) hfree by rw [eL])))
  have h5:S.full=false:=h5;refine Xi (encInc (atD S k)) (Yi (Yi (Nn k) (map_at gk)) (Yi rfl ?_));refine Or.elim (Bt (concB (atD S k) p)) (fun h7=>?_) (fun h7=>?_)
  ·have h7:(concB (atD S k) p)=true:=h7;have hc8:=(s90 (atD S k) p (fewI_few0 (hfw _ (List.mem_of_getElem? (atD_get j4)))));rw [show (concB (atD S k) p)=true from h7] at hc8;refine Xi .pure (Xi _ (Yi hc8 ?_));refine Xi ⟨[(0,.ref 1000 0),(1,vs p),(9,vi k),(12,vi (L[j]:Nat)),(33,.slice (.id 31 1) (L.map encIn)),(34,vi (L.map encIn).length),(35,vi j)],[(31,.tok 1 (L.map encIn).length),(1000,.cells (srM roots C A S dec 1004 st.length)),(1001,.tok 6 S.infs.length),(1002,.tok 1 S.drv.length),(1003,.map shN (knL 0 S.infs)),(1004,.arr 1 (st.map encSks))],hfree⟩ (Yi ⟨Z7,Z6,Fh,ext_dec (by kernel_rfl)⟩ ?_)
   refine Yi (fun h9=>?_) (fun h9=>?_)
   ·have h9:((L[j]:Nat):Int)=(k:Int):=h9;refine Xi ⟨[(0,.ref 1000 0),(1,vs p),(9,vi k),(33,.slice (.id 31 1) (L.map encIn)),(34,vi (L.map encIn).length),(35,vi j)],[(31,.tok 1 (L.map encIn).length),(1000,.cells (srM roots C A S dec 1004 st.length)),(1001,.tok 6 S.infs.length),(1002,.tok 1 S.drv.length),(1003,.map shN (knL 0 S.infs)),(1004,.arr 1 (st.map encSks))],hfree⟩ (Yi ⟨Z6,Z6,Fh,ext_dec (by kernel_rfl)⟩ ?_)
    refine Yi (Ii j (by omega)) ?_;refine Xi ⟨(j+1,k,S),Nat.succ_le_of_lt n4,by rw [← (learn_same (s:=S) (p:=p) (L:=L) (j:=j) (k:=k) n4 (by rw [h5,h7]; simp) (by have q:=h9; omega))]; exact j2,j3,j4,j5⟩ ?_;exact ⟨Dl L.length j (by omega),Z6,Z6,Fh,ext_dec (by kernel_rfl)⟩
   have h9:¬ (((L[j]:Nat):Int)=(k:Int)):=h9;refine Xi (encInc (atD S k)) (Yi (Yi (Nn k) (map_at gk)) (Yi rfl ?_));refine Xi (encInc (atD S L[j])) (Yi (Yi (show (0:Int)≤(L[j]:Nat) by omega) (map_at (atD_get (j5 _ (List.getElem_mem n4))))) (Yi rfl ?_));have fk:=hfw _ (List.mem_of_getElem? (atD_get j4));have fr:=hfw _ (List.mem_of_getElem? (atD_get (j5 _ (List.getElem_mem n4))));refine Xi _ (Yi (c196 (atD S k) (atD S L[j]) p fk.1 fr.1 fk.2 fr.2) ?_);refine Yi (by kernel_rfl) ?_;refine Xi ⟨[(0,.ref 1000 0),(1,vs p),(9,vi k),(12,vi (L[j]:Nat)),(13,sl encTm (resolveT (atD S k) (atD S L[j]) p).1),(14,vi (resolveT (atD S k) (atD S L[j]) p).2),(33,.slice (.id 31 1) (L.map encIn)),(34,vi (L.map encIn).length),(35,vi j)],[(31,.tok 1 (L.map encIn).length),(1000,.cells (srM roots C A S dec 1004 st.length)),(1001,.tok 6 S.infs.length),(1002,.tok 1 S.drv.length),(1003,.map shN (knL 0 S.infs)),(1004,.arr 1 (st.map encSks))],hfree⟩ (Yi ⟨Z9,Z6,Fh,ext_dec (by kernel_rfl)⟩ ?_)
   refine Yi (fun h11=>?_) (fun h11=>?_)
   ·have h11:((resolveT (atD S k) (atD S L[j]) p).2:Int)≠(0:Int):=h11;refine Xi ⟨[(0,.ref 1000 0),(1,vs p),(9,vi k),(33,.slice (.id 31 1) (L.map encIn)),(34,vi (L.map encIn).length),(35,vi j)],[(31,.tok 1 (L.map encIn).length),(1000,.cells (srM roots C A S dec 1004 st.length)),(1001,.tok 6 S.infs.length),(1002,.tok 1 S.drv.length),(1003,.map shN (knL 0 S.infs)),(1004,.arr 1 (st.map encSks))],hfree⟩ (Yi ⟨Z6,Z6,Fh,ext_dec (by kernel_rfl)⟩ ?_)
    refine Yi (Ii j (by omega)) ?_;refine Xi ⟨(j+1,k,S),Nat.succ_le_of_lt n4,by rw [← (learn_err (s:=S) (p:=p) (L:=L) (j:=j) (k:=k) n4 (by rw [h5,h7]; simp) (by have q:=h9; omega) h11)]; exact j2,j3,j4,j5⟩ ?_;exact ⟨Dl L.length j (by omega),Z6,Z6,Fh,ext_dec (by kernel_rfl)⟩
   have h11:((resolveT (atD S k) (atD S L[j]) p).2:Int)=(0:Int):=Classical.byContradiction h11;refine Xi (.gen ID5 0) (Yi rfl (ACall.imp (s132 roots C A S dec st ⟨3,p,0,0,(k:Nat),(L[j]:Nat)⟩ (resolveT (atD S k) (atD S L[j]) p).1 hw3.1 hw3.2.1 j3.nodup) ?_));intro v13 g13 q13;have q13a:=q13.1;have q13b:=q13.2;subst q13a;subst q13b;refine Xi ⟨[(0,.ref 1000 0),(1,vs p),(9,vi (((addI S ⟨3,p,0,0,(k:Nat),(L[j]:Nat)⟩ (resolveT (atD S k) (atD S L[j]) p).1).1:Nat):Int)),(33,.slice (.id 31 1) (L.map encIn)),(34,vi (L.map encIn).length),(35,vi j)],[(31,.tok 1 (L.map encIn).length),(1000,.cells [sl encRq roots,.cmap shS C,.cmap shS A,.slice (.id 1001 6) ((addI S ⟨3,p,0,0,(k:Nat),(L[j]:Nat)⟩ (resolveT (atD S k) (atD S L[j]) p).1).2.infs.map encNf),.slice (.id 1002 1) ((addI S ⟨3,p,0,0,(k:Nat),(L[j]:Nat)⟩ (resolveT (atD S k) (atD S L[j]) p).1).2.drv.map encInc),.mref 1003,vb (addI S ⟨3,p,0,0,(k:Nat),(L[j]:Nat)⟩ (resolveT (atD S k) (atD S L[j]) p).1).2.full,sl encCd dec,sl encSl (keysC dec),.msl 1004 st.length]),(1001,.tok 6 (addI S ⟨3,p,0,0,(k:Nat),(L[j]:Nat)⟩ (resolveT (atD S k) (atD S L[j]) p).1).2.infs.length),(1002,.tok 1 (addI S ⟨3,p,0,0,(k:Nat),(L[j]:Nat)⟩ (resolveT (atD S k) (atD S L[j]) p).1).2.drv.length),(1003,.map shN (knL 0 (addI S ⟨3,p,0,0,(k:Nat),(L[j]:Nat)⟩ (resolveT (atD S k) (atD S L[j]) p).1).2.infs)),(1004,.arr 1 (st.map encSks))],hfree⟩ (Yi ⟨Z6,Z6,Fh,ext_dec (by kernel_rfl)⟩ ?_)
   refine Yi (Ii j (by omega)) ?_;obtain ⟨a1,a2,a3⟩:=j3.add (infer_res (x:=x) (roots:=roots) (p:=p) j4 (j5 _ (List.getElem_mem n4)) h11);refine Xi ⟨(j+1,(addI S ⟨3,p,0,0,(k:Nat),(L[j]:Nat)⟩ (resolveT (atD S k) (atD S L[j]) p).1).1,(addI S ⟨3,p,0,0,(k:Nat),(L[j]:Nat)⟩ (resolveT (atD S k) (atD S L[j]) p).1).2),Nat.succ_le_of_lt n4,by rw [← (learn_add (s:=S) (p:=p) (L:=L) (j:=j) (k:=k) n4 (by rw [h5,h7]; simp) (by have q:=h9; omega) h11)]; exact j2,a1,a2,fun r hr=>Nat.lt_of_lt_of_le (j5 r hr) a3⟩ ?_;exact ⟨Dl L.length j (by omega),Z6,Z6,Fh,ext_dec (by kernel_rfl)⟩
  have h7:(concB (atD S k) p)=false:=h7;have hc15:=(s90 (atD S k) p (fewI_few0 (hfw _ (List.mem_of_getElem? (atD_get j4)))));rw [show (concB (atD S k) p)=false from h7] at hc15;refine Xi .pure (Xi _ (Yi hc15 ?_));refine Xi ⟨[(9,vi k)],[(1000,.cells (srM roots C A S dec 1004 st.length)),(1001,.tok 6 S.infs.length),(1002,.tok 1 S.drv.length),(1003,.map shN (knL 0 S.infs)),(1004,.arr 1 (st.map encSks))],hfree⟩ (Yi ⟨Z1,Z5,Fh,ext_dec (by kernel_rfl)⟩ ?_)
  have eR:learnGo p L (infS s n).1 (noneS x p (infS s n).2).2=(k,S):=by rw [← j2]; exact learn_stop n4 (.inr h7)
  have eL:learnS x p n rs s=(k,S):=by unfold learnS; rw [← hL]; exact eR
  exact Xi _ (Yi (.refl _) (Yi (show vi (k:Int)=vi (((learnS x p n rs s).1:Nat):Int) by rw [eL]) (show heapOf (srH roots C A S dec st) hfree=heapOf (srH roots C A (learnS x p n rs s).2 dec st) hfree by rw [eL])))
 have h4:¬ ((j:Int)<((L.map encIn).length:Int)):=h4;have n4:¬ j<L.length:=by have q:=h4; rw [Lm] at q; omega
 have hj:¬ j<L.length:=by have q:=h4; rw [Lm] at q; omega
 have eR:learnGo p L (infS s n).1 (noneS x p (infS s n).2).2=(k,S):=by rw [← j2,List.drop_of_length_le (by omega)]; rfl
 have eL:learnS x p n rs s=(k,S):=by unfold learnS; rw [← hL]; exact eR
 exact Xi _ (Yi (.refl _) (Yi (show vi (k:Int)=vi (((learnS x p n rs s).1:Nat):Int) by rw [eL]) (show heapOf (srH roots C A S dec st) hfree=heapOf (srH roots C A (learnS x p n rs s).2 dec st) hfree by rw [eL])))
end Go.Eng

namespace Go.Eng
open Go.Proofs
abbrev IDS:Ren:=[(1000,1000),(1001,1001),(1002,1002),(1003,1003),(500,1004)]
abbrev srE (roots:List Rq) (C A:List (Value × AV)) (s:SS) (dec:List Cd) (st:List (List Sk)):List (Nat × HO) :=
 [(1000,.cells (srM roots C A s dec 2000 st.length)),(1001,.tok 6 s.infs.length),(1002,.tok 1 s.drv.length),(1003,.map shN (knL 0 s.infs)),(1004,.dead),(2000,.arr 1 (st.map encSks))]
abbrev SolQ (roots:List Rq) (C A:List (Value × AV)) (o:SOut) (r:AV) (h' : Nat→HO):Prop:=r=.tup [vi (o.res:Nat),vb o.found]∧h'=heapOf (srE roots C A o.ss o.dec o.stack) hfree
def H64 (roots:List Rq) (C A:List (Value × AV)):Prop:=∀ (s:SS) (dec:List Cd) (st:List (List Sk)),dec.length≤1000→(∀ c ∈ dec,c.rel.reqs.length≤1073741824) →
 ACall Tryz.prog 64 [.ref 1000 0] (heapOf (srH roots C A s dec st) hfree) fun r h'=>r=.tup [vs (nextN roots dec).1,sl encNd (nextN roots dec).2]∧h'=heapOf (srH roots C A s dec st) hfree
theorem sol_q {roots:List Rq} {C A:List (Value × AV)} {o:SOut} {k:Nat} {b:Bool} {s:SS} {dec:List Cd} {st:List (List Sk)} (e:o=⟨k,b,s,dec,st⟩) :
  AV.tup [vi (k:Nat),vb b]=.tup [vi (o.res:Nat),vb o.found]∧heapOf (srE roots C A s dec st) hfree=heapOf (srE roots C A o.ss o.dec o.stack) hfree:=by rw [e]; exact Zr
end Go.Eng

namespace Go.Eng
open Go.Proofs
abbrev ID10:Ren:=[(1000,1000),(1001,1001),(1002,1002),(1003,1003),(1004,1004),(1005,1005),(1006,1006),(1007,1007),(1008,1008),(1009,1009)]
def nxF (roots:List Rq) (dec:List Cd) (m:Nat):ByteArray × List Nd:=((needsN roots dec).take m).foldl (nxStep dec) (mt,[])
theorem nxF_succ {roots:List Rq} {dec:List Cd} {m:Nat} {n:Nd} (h:(needsN roots dec)[m]?=some n):nxF roots dec (m+1)=nxStep dec (nxF roots dec m) n:=by
 unfold nxF; rw [List.take_add_one,h,List.foldl_append]; rfl
theorem nxF_all {roots:List Rq} {dec:List Cd} {m:Nat} (h:(needsN roots dec).length≤m):nxF roots dec m=nextN roots dec:=by
 unfold nxF nextN; rw [List.take_of_length_le h]
def offN (roots:List Rq) (dec:List Cd) (j:Nat):Nat:=roots.length+((dec.take j).map fun c=>c.rel.reqs.length).sum
theorem relN_len (c:Cd):(relN c).length=c.rel.reqs.length:=numG_len _ _ _
theorem offN_zero (roots:List Rq) (dec:List Cd):offN roots dec 0=roots.length:=by unfold offN; simp
theorem offN_succ {roots:List Rq} {dec:List Cd} {j:Nat} (h:j<dec.length):offN roots dec (j+1)=offN roots dec j+dec[j].rel.reqs.length:=by
 unfold offN;rw [List.take_succ_eq_append_getElem h,List.map_append,List.sum_append];simp [Nat.add_assoc]
theorem offN_all (roots:List Rq) (dec:List Cd):offN roots dec dec.length=(needsN roots dec).length:=by
 unfold offN needsN rootN;rw [List.take_length,List.length_append,numG_len,List.length_flatten,List.map_map]
 congr 2
 exact List.map_congr_left fun c _=>(relN_len c).symm
theorem need_root {roots:List Rq} {dec:List Cd} {i:Nat} (h:i<roots.length):(needsN roots dec)[i]?=some ⟨roots[i],mt,0,(i:Nat)⟩:=by
 unfold needsN rootN;rw [List.getElem?_append_left (by rw [numG_len]; exact h),numG_get,Ge h,Option.map_some,Nat.zero_add]
theorem flat_get {α:Type} : ∀ {l:List (List α)} {j k:Nat} (hj:j<l.length),k<l[j].length→l.flatten[((l.take j).map List.length).sum+k]?=l[j][k]?
 | y :: l,0,k,_,hk=>by
  rw [List.flatten_cons,List.take_zero,List.map_nil,List.sum_nil,Nat.zero_add,List.getElem?_append_left (show k<y.length from hk)]; rfl
 | y :: l,j+1,k,hj,hk=>by
  rw [List.flatten_cons,List.take_succ_cons,List.map_cons,List.sum_cons,List.getElem?_append_right (by omega)]
  have:=flat_get (l:=l) (j:=j) (k:=k) (by simpa using hj) hk
  rw [show y.length+((l.take j).map List.length).sum+k - y.length=((l.take j).map List.length).sum+k by omega,this]
  rfl
theorem need_dec {roots:List Rq} {dec:List Cd} {j k:Nat} (hj:j<dec.length) (hk:k<dec[j].rel.reqs.length):(needsN roots dec)[offN roots dec j+k]?=some ⟨dec[j].rel.reqs[k],dec[j].rel.path,dec[j].place,(k:Nat)⟩:=by
 unfold needsN rootN offN;rw [List.getElem?_append_right (by rw [numG_len]; omega),numG_len];have h:=flat_get (l:=dec.map relN) (j:=j) (k:=k) (by simpa using hj) (by rw [List.getElem_map,relN_len]; exact hk);rw [← List.map_take,List.map_map,show (List.length ∘ relN)=fun c=>c.rel.reqs.length from funext relN_len] at h;rw [show roots.length+((dec.take j).map fun c=>c.rel.reqs.length).sum+k - roots.length=((dec.take j).map fun c=>c.rel.reqs.length).sum+k by omega,h,List.getElem_map];unfold relN;rw [numG_get,Ge hk,Option.map_some,Nat.zero_add]
abbrev nxH (roots:List Rq) (C A:List (Value × AV)) (s:SS) (dec:List Cd) (st:List (List Sk)) (m:Nat):List (Nat × HO) :=
  [(1000,.cells (srC roots C A s dec st.length)),(1001,.tok 6 s.infs.length),(1002,.tok 1 s.drv.length),(1003,.map shN (knL 0 s.infs)),(1004,.arr 1 (st.map encSks)),
   (1005,.cells [.ref 1000 0]),(1006,.cells [vs (nxF roots dec m).1]),(1007,.cells [.slice (.ver 1008 5 m) ((nxF roots dec m).2.map encNd)]),(1008,.var 5 m ((nxF roots dec m).2.map encNd).length),(1009,.cells [.ref 1000 0])]
noncomputable abbrev cxn (pl:Pol) (l:Nat) (Y:Gh→World→Prop):Cx:=⟨Tryz.prog,tab,pl,true,0,fun l' σ' g w=>l'=l→σ'=ID10→Y g w⟩
theorem YCall.pre {P:Program} {Y Y' : Gh→World→Prop} {l:Nat} {args:List AV} {h0:Nat→HO} {Q:AV→(Nat→HO)→Prop} (h:YCall P Y l args h0 Q) (hp:∀ g w,Y' g w→Y g w):YCall P Y' l args h0 Q :=
 fun g w vals q1 q2 q3 q4=>h g w vals q1 q2 q3 (hp g w q4)

theorem s117 (roots:List Rq) (C A:List (Value × AV)) (s:SS) (dec:List Cd) (st:List (List Sk)):ACall Tryz.prog 117 [.ref 1000 0] (heapOf (srH roots C A s dec st) hfree) fun r h'=>r=.clo 170 [.ref 2000 0]∧h'=heapOf (srH roots C A s dec st++[(2000,.cells [.ref 1000 0])]) hfree:=by
 refine acall_sub (cxe ⟨[],[],[],[],[],[],[],[],[],[],[]⟩) [(1000,1000),(1001,1001),(1002,1002),(1003,1003),(1004,1004),(1,2000)] rfl tab_ok hm rfl Tryz.func117 (by kernel_rfl) rfl (Nz rfl) (by kernel_rfl) rfl ?_;exact Xi _ (Yi (.refl _) Zr)
set_option maxHeartbeats 4000000 in
theorem s170 {Y:Gh→World→Prop} (l:Nat) (roots:List Rq) (C A:List (Value × AV)) (s:SS) (dec:List Cd) (st:List (List Sk)) (hr:roots.length≤1073741824) (hd:dec.length≤1073741824) (hdr:∀ c ∈ dec,c.rel.reqs.length≤1073741824)
  (hy:∀ m n,(needsN roots dec)[m]?=some n→YCall Tryz.prog Y l [.agg (encNd n)] (heapOf (nxH roots C A s dec st m) hfree) fun r h'=>r=vb true∧h'=heapOf (nxH roots C A s dec st (m+1)) hfree) :
  ICall Tryz.prog Y ID10 170 [.v (.func (.yield l) #[] #[]),.ref 1005 0] (heapOf (nxH roots C A s dec st 0) hfree) fun _ h'=>h'=heapOf (nxH roots C A s dec st (needsN roots dec).length) hfree:=by
 have hr:roots.length≤1073741824:=hr;refine icall_of (l:=l) (cxn ⟨[],[],[],[],[],[],[],[],[],[],[3,4,11,12]⟩ l Y) ID10 rfl tab_ok hm rfl Tryz.func170 (by kernel_rfl) rfl (Nz rfl) (by kernel_rfl) rfl rfl ?_;refine Xi {i:Nat // i≤roots.length} (Xi (fun q=>⟨[(0,.v (.func (.yield l) #[] #[])),(1,.ref 1005 0),(12,sl encRq roots),(13,vi (roots.map encRq).length),(14,vi q.1)],[(1000,.cells (srM roots C A s dec 1004 st.length)),(1001,.tok 6 s.infs.length),(1002,.tok 1 s.drv.length),(1003,.map shN (knL 0 s.infs)),(1004,.arr 1 (st.map encSks)),(1005,.cells [.ref 1000 0]),(1006,.cells [vs (nxF roots dec q.1).1]),(1007,.cells [.slice (.ver 1008 5 q.1) ((nxF roots dec q.1).2.map encNd)]),(1008,.var 5 q.1 ((nxF roots dec q.1).2.map encNd).length),(1009,.cells [.ref 1000 0])],hfree⟩) (Xi (fun q=>roots.length - q.1) (Yi (Xi ⟨0,Nat.zero_le _⟩ ?_) ?_)))
 ·exact ⟨Z5,Z10,Fh,ext_dec (by kernel_rfl)⟩
 intro ⟨i,i1⟩;have i1:i≤roots.length:=i1;refine Yi (fun h1=>?_) (fun h1=>?_)
 ·have h1:(i:Int)<((roots.map encRq).length:Int):=h1;have n1:i<roots.length:=by have q:=h1; rw [Lm] at q; omega
  have g1:roots[i]?=some roots[i]:=Ge n1;refine Xi (encRq roots[i]) (Yi (Yi (Nn i) (map_at g1)) (Yi rfl ?_));refine Yi (Nz rfl) ?_;refine Yi (Nz rfl) ?_;refine Xi ⟨[(0,.v (.func (.yield l) #[] #[])),(1,.ref 1005 0),(3,vi i),(4,.ref 4 0),(12,sl encRq roots),(13,vi (roots.map encRq).length),(14,vi i)],[(4,.cells (encRq roots[i])),(1000,.cells (srM roots C A s dec 1004 st.length)),(1001,.tok 6 s.infs.length),(1002,.tok 1 s.drv.length),(1003,.map shN (knL 0 s.infs)),(1004,.arr 1 (st.map encSks)),(1005,.cells [.ref 1000 0]),(1006,.cells [vs (nxF roots dec i).1]),(1007,.cells [.slice (.ver 1008 5 i) ((nxF roots dec i).2.map encNd)]),(1008,.var 5 i ((nxF roots dec i).2.map encNd).length),(1009,.cells [.ref 1000 0])],hfree⟩ (Yi ⟨Z7,Z11,Fh,ext_dec (by kernel_rfl)⟩ ?_)
  refine Yi (Nz rfl) ?_;refine Xi (.gen ID10 0) (Yi rfl (YCall.imp (YCall.pre (hy i ⟨roots[i],mt,0,(i:Nat)⟩ (need_root n1)) (fun g w q=>q rfl rfl)) ?_));intro v2 g2 q2;have q2a:=q2.1;have q2b:=q2.2;subst q2a;subst q2b;refine Xi ⟨[(0,.v (.func (.yield l) #[] #[])),(1,.ref 1005 0),(12,sl encRq roots),(13,vi (roots.map encRq).length),(14,vi i)],[(1000,.cells (srM roots C A s dec 1004 st.length)),(1001,.tok 6 s.infs.length),(1002,.tok 1 s.drv.length),(1003,.map shN (knL 0 s.infs)),(1004,.arr 1 (st.map encSks)),(1005,.cells [.ref 1000 0]),(1006,.cells [vs (nxF roots dec (i+1)).1]),(1007,.cells [.slice (.ver 1008 5 (i+1)) ((nxF roots dec (i+1)).2.map encNd)]),(1008,.var 5 (i+1) ((nxF roots dec (i+1)).2.map encNd).length),(1009,.cells [.ref 1000 0])],hfree⟩ (Yi ⟨Z5,Z10,Fh,ext_dec (by kernel_rfl)⟩ ?_)
  refine Yi (Ii i (by omega)) ?_;refine Xi ⟨i+1,by omega⟩ ?_;exact ⟨Dl roots.length i (by omega),Z5,Z10,Fh,ext_dec (by kernel_rfl)⟩
 have h1:¬ ((i:Int)<((roots.map encRq).length:Int)):=h1;have n1:¬ i<roots.length:=by have q:=h1; rw [Lm] at q; omega
 have hE:i=offN roots dec 0:=by rw [offN_zero]; omega
 refine Xi {j:Nat // j≤dec.length} (Xi (fun q=>⟨[(0,.v (.func (.yield l) #[] #[])),(29,sl encCd dec),(30,vi (dec.map encCd).length),(31,vi q.1)],[(1000,.cells (srM roots C A s dec 1004 st.length)),(1001,.tok 6 s.infs.length),(1002,.tok 1 s.drv.length),(1003,.map shN (knL 0 s.infs)),(1004,.arr 1 (st.map encSks)),(1005,.cells [.ref 1000 0]),(1006,.cells [vs (nxF roots dec (offN roots dec q.1)).1]),(1007,.cells [.slice (.ver 1008 5 (offN roots dec q.1)) ((nxF roots dec (offN roots dec q.1)).2.map encNd)]),(1008,.var 5 (offN roots dec q.1) ((nxF roots dec (offN roots dec q.1)).2.map encNd).length),(1009,.cells [.ref 1000 0])],hfree⟩) (Xi (fun q=>dec.length - q.1) (Yi (Xi ⟨0,Nat.zero_le _⟩ ?_) ?_)))
 ·exact ⟨Z4,⟨Zr,Zr,Zr,Zr,Zr,Zr,⟨(show .cells [vs (nxF roots dec i).1]=(.cells [vs (nxF roots dec (offN roots dec 0)).1]:HO) by rw [hE]),rfl⟩,⟨(show .cells [.slice (.ver 1008 5 i) ((nxF roots dec i).2.map encNd)]=(.cells [.slice (.ver 1008 5 (offN roots dec 0)) ((nxF roots dec (offN roots dec 0)).2.map encNd)]:HO) by rw [hE]),rfl⟩,⟨(show .var 5 i ((nxF roots dec i).2.map encNd).length=(.var 5 (offN roots dec 0) ((nxF roots dec (offN roots dec 0)).2.map encNd).length:HO) by rw [hE]),rfl⟩,Zr,Tv⟩,Fh,ext_dec (by kernel_rfl)⟩
 intro ⟨j,j1⟩;have j1:j≤dec.length:=j1;refine Yi (fun h4=>?_) (fun h4=>?_)
 ·have h4:(j:Int)<((dec.map encCd).length:Int):=h4;have n4:j<dec.length:=by have q:=h4; rw [Lm] at q; omega
  have g4:dec[j]?=some dec[j]:=Ge n4;have hdj:=hdr dec[j] (List.getElem_mem n4);refine Xi (encCd dec[j]) (Yi (Yi (Nn j) (map_at g4)) (Yi rfl ?_));refine Yi (Nz rfl) ?_;refine Yi (Nz rfl) ?_;refine Xi {k:Nat // k≤dec[j].rel.reqs.length} (Xi (fun q=>⟨[(0,.v (.func (.yield l) #[] #[])),(6,.ref 6 0),(29,sl encCd dec),(30,vi (dec.map encCd).length),(31,vi j),(37,sl encRq dec[j].rel.reqs),(38,vi (dec[j].rel.reqs.map encRq).length),(39,vi q.1)],[(6,.cells (encCd dec[j])),(1000,.cells (srM roots C A s dec 1004 st.length)),(1001,.tok 6 s.infs.length),(1002,.tok 1 s.drv.length),(1003,.map shN (knL 0 s.infs)),(1004,.arr 1 (st.map encSks)),(1005,.cells [.ref 1000 0]),(1006,.cells [vs (nxF roots dec (offN roots dec j+q.1)).1]),(1007,.cells [.slice (.ver 1008 5 (offN roots dec j+q.1)) ((nxF roots dec (offN roots dec j+q.1)).2.map encNd)]),(1008,.var 5 (offN roots dec j+q.1) ((nxF roots dec (offN roots dec j+q.1)).2.map encNd).length),(1009,.cells [.ref 1000 0])],hfree⟩) (Xi (fun q=>dec[j].rel.reqs.length - q.1) (Yi (Xi ⟨0,Nat.zero_le _⟩ ?_) ?_)))
  ·exact ⟨Z8,Z11,Fh,ext_dec (by kernel_rfl)⟩
  intro ⟨k,k1⟩;have k1:k≤dec[j].rel.reqs.length:=k1;refine Yi (fun h5=>?_) (fun h5=>?_)
  ·have h5:(k:Int)<((dec[j].rel.reqs.map encRq).length:Int):=h5;have n5:k<dec[j].rel.reqs.length:=by have q:=h5; rw [Lm] at q; omega
   have g5:dec[j].rel.reqs[k]?=some dec[j].rel.reqs[k]:=Ge n5;refine Xi (encRq dec[j].rel.reqs[k]) (Yi (Yi (Nn k) (map_at g5)) (Yi rfl ?_));refine Yi (Nz rfl) ?_;refine Yi (Nz rfl) ?_;refine Xi ⟨[(0,.v (.func (.yield l) #[] #[])),(6,.ref 6 0),(7,vi k),(8,.ref 8 0),(29,sl encCd dec),(30,vi (dec.map encCd).length),(31,vi j),(37,sl encRq dec[j].rel.reqs),(38,vi (dec[j].rel.reqs.map encRq).length),(39,vi k)],[(6,.cells (encCd dec[j])),(8,.cells (encRq dec[j].rel.reqs[k])),(1000,.cells (srM roots C A s dec 1004 st.length)),(1001,.tok 6 s.infs.length),(1002,.tok 1 s.drv.length),(1003,.map shN (knL 0 s.infs)),(1004,.arr 1 (st.map encSks)),(1005,.cells [.ref 1000 0]),(1006,.cells [vs (nxF roots dec (offN roots dec j+k)).1]),(1007,.cells [.slice (.ver 1008 5 (offN roots dec j+k)) ((nxF roots dec (offN roots dec j+k)).2.map encNd)]),(1008,.var 5 (offN roots dec j+k) ((nxF roots dec (offN roots dec j+k)).2.map encNd).length),(1009,.cells [.ref 1000 0])],hfree⟩ (Yi ⟨Z10,Z12,Fh,ext_dec (by kernel_rfl)⟩ ?_)
   refine Yi (Nz rfl) ?_;refine Xi (.gen ID10 0) (Yi rfl (YCall.imp (YCall.pre (hy (offN roots dec j+k) ⟨dec[j].rel.reqs[k],dec[j].rel.path,dec[j].place,(k:Nat)⟩ (need_dec n4 n5)) (fun g w q=>q rfl rfl)) ?_));intro v6 g6 q6;have q6a:=q6.1;have q6b:=q6.2;subst q6a;subst q6b;refine Xi ⟨[(0,.v (.func (.yield l) #[] #[])),(6,.ref 6 0),(29,sl encCd dec),(30,vi (dec.map encCd).length),(31,vi j),(37,sl encRq dec[j].rel.reqs),(38,vi (dec[j].rel.reqs.map encRq).length),(39,vi k)],[(6,.cells (encCd dec[j])),(1000,.cells (srM roots C A s dec 1004 st.length)),(1001,.tok 6 s.infs.length),(1002,.tok 1 s.drv.length),(1003,.map shN (knL 0 s.infs)),(1004,.arr 1 (st.map encSks)),(1005,.cells [.ref 1000 0]),(1006,.cells [vs (nxF roots dec (offN roots dec j+(k+1))).1]),(1007,.cells [.slice (.ver 1008 5 (offN roots dec j+(k+1))) ((nxF roots dec (offN roots dec j+(k+1))).2.map encNd)]),(1008,.var 5 (offN roots dec j+(k+1)) ((nxF roots dec (offN roots dec j+(k+1))).2.map encNd).length),(1009,.cells [.ref 1000 0])],hfree⟩ (Yi ⟨Z8,Z11,Fh,ext_dec (by kernel_rfl)⟩ ?_)
   refine Yi (Ii k (by omega)) ?_;refine Xi ⟨k+1,by omega⟩ ?_;exact ⟨by show dec[j].rel.reqs.length - (k+1)<dec[j].rel.reqs.length - k; omega,Z8,Z11,Fh,ext_dec (by kernel_rfl)⟩
  have h5:¬ ((k:Int)<((dec[j].rel.reqs.map encRq).length:Int)):=h5;have n5:¬ k<dec[j].rel.reqs.length:=by have q:=h5; rw [Lm] at q; omega
  refine Yi (Ii j (by omega)) ?_;have hE:offN roots dec j+k=offN roots dec (j+1):=by rw [offN_succ n4]; omega
  refine Xi ⟨j+1,by omega⟩ ?_;exact ⟨Dl dec.length j (by omega),Z4,⟨Zr,Zr,Zr,Zr,Zr,Zr,⟨(show .cells [vs (nxF roots dec (offN roots dec j+k)).1]=(.cells [vs (nxF roots dec (offN roots dec (j+1))).1]:HO) by rw [hE]),rfl⟩,⟨(show .cells [.slice (.ver 1008 5 (offN roots dec j+k)) ((nxF roots dec (offN roots dec j+k)).2.map encNd)]=(.cells [.slice (.ver 1008 5 (offN roots dec (j+1))) ((nxF roots dec (offN roots dec (j+1))).2.map encNd)]:HO) by rw [hE]),rfl⟩,⟨(show .var 5 (offN roots dec j+k) ((nxF roots dec (offN roots dec j+k)).2.map encNd).length=(.var 5 (offN roots dec (j+1)) ((nxF roots dec (offN roots dec (j+1))).2.map encNd).length:HO) by rw [hE]),rfl⟩,Zr,Tv⟩,Fh,ext_dec (by kernel_rfl)⟩
 have h4:¬ ((j:Int)<((dec.map encCd).length:Int)):=h4;have n4:¬ j<dec.length:=by have q:=h4; rw [Lm] at q; omega
 exact congrArg (fun m=>heapOf (nxH roots C A s dec st m) hfree) (show offN roots dec j=(needsN roots dec).length by rw [← offN_all]; congr 1; omega)
end Go.Eng

namespace Go.Eng
open Go.Proofs
theorem niK_mk {h:Nat→HO} {o k r sz:Nat} {cs:List AV} {K:(Nat→HO)→Prop} (c1:h o=.cells cs) (c2:nthA cs k=.v (.slice none 0 0)) (c3:h r=.free) (hk:K (hput (hput h r (.var sz 0 0)) o (.cells (overA cs k (.slice (.ver r sz 0) []))))):niK h o k r sz K:=by
 unfold niK;rw [c1];show match nthA cs k with
  | .v (.slice none 0 0)=>match h r with
   | .free=>K (hput (hput h r (.var sz 0 0)) o (.cells (overA cs k (.slice (.ver r sz 0) []))))
   | _=>False
  | _=>False
 rw [c2,c3];exact hk
theorem rfv_mk {o k r0 sz:Nat} {cx2:Cx} {P:Program} {N:Nat} {fn:Func} {σ:Ren} {Q:AV→(Nat→HO)→Prop} {b rest:Code} {st:St} (cs:List AV) (c1:st.h o=.cells cs) (c2:nthA cs k=.v (.slice none 0 0)) (c3:st.h r0=.free) (σF σr:Ren) (H0 Hn:List (Nat × HO)) (gf:Nat) (caps:List AV)
  {bid s:Nat} {ps:Array Tmp} {asg body:Code} (hb:b=.block bid (.rangeFunc (.tmp s) ps asg body)) (k1:(renOk σF&&newFree (hput (hput st.h r0 (.var sz 0 0)) o (.cells (overA cs k (.slice (.ver r0 sz 0) [])))) 0 0&&newApart σF 0 0)=true) (k2:renH σF (hput (hput st.h r0 (.var sz 0 0)) o (.cells (overA cs k (.slice (.ver r0 sz 0) []))))=heapOf H0 hfree) (k3:(renInj σr&&extOk σr H0)=true) (k4:extOk σr Hn=true)
  (k5:ren (rfwd σF) (hput (hput st.h r0 (.var sz 0 0)) o (.cells (overA cs k (.slice (.ver r0 sz 0) [])))) (st.t s)=.clo gf caps)
  (k6:∀ (l D:Nat) (f' : FuncId) (tm:Array Value),tm.size=N→ICall P (fun g w=>w.heap[l]?=some (.loop (recL f' tm ps asg body D .ready))∧∀ i,Rep g w (used (heapOf H0 hfree)) (ren (rfwd σF) (hput (hput st.h r0 (.var sz 0 0)) o (.cells (overA cs k (.slice (.ver r0 sz 0) [])))) (st.t i)) (tm.getD i undef)) σr gf
   (.v (.func (.yield l) #[] #[]) :: caps) (heapOf H0 hfree) fun _ h'=>h'=heapOf Hn hfree)
  (k7:codeOk N rest=true) (k8:awp cx2 rest (endG cx2 fn.results.toList σr fun r h'=>Q (ren (rfwd σ) (backH σF 0 0 (hput (hput st.h r0 (.var sz 0 0)) o (.cells (overA cs k (.slice (.ver r0 sz 0) [])))) h') (ren (backId σF 0 0) h' r)) (renH σ (backH σF 0 0 (hput (hput st.h r0 (.var sz 0 0)) o (.cells (overA cs k (.slice (.ver r0 sz 0) [])))) h')))
   ⟨fun i=>ren (rfwd σF) (hput (hput st.h r0 (.var sz 0 0)) o (.cells (overA cs k (.slice (.ver r0 sz 0) [])))) (st.t i),heapOf Hn hfree⟩):RfV o k r0 sz cx2 P N fn σ Q b rest st :=
 niK_mk c1 c2 c3 ⟨σF,σr,H0,Hn,bid,s,ps,asg,body,gf,caps,hb,k1,k2,k3,k4,k5,k6,k7,k8⟩
section
variable {roots:List Rq} {C A:List (Value × AV)} {s:SS} {dec:List Cd} {st:List (List Sk)} {n:Nd}
theorem nx_end {m:Nat} {p:ByteArray} {o:List Nd} (e:nxF roots dec (m+1)=(p,o)) {es:List (List AV)} {k:Nat} (h1:es=o.map encNd) (h2:k=es.length) :
  heapOf [(1000,.cells (srC roots C A s dec st.length)),(1001,.tok 6 s.infs.length),(1002,.tok 1 s.drv.length),(1003,.map shN (knL 0 s.infs)),(1004,.arr 1 (st.map encSks)),
   (1005,.cells [.ref 1000 0]),(1006,.cells [vs p]),(1007,.cells [.slice (.ver 1008 5 (m+1)) es]),(1008,.var 5 (m+1) k),(1009,.cells [.ref 1000 0])] hfree=heapOf (nxH roots C A s dec st (m+1)) hfree:=by
 subst h1; subst h2
 rw [show nxH roots C A s dec st (m+1)=[(1000,.cells (srC roots C A s dec st.length)),(1001,.tok 6 s.infs.length),(1002,.tok 1 s.drv.length),(1003,.map shN (knL 0 s.infs)),(1004,.arr 1 (st.map encSks)),
   (1005,.cells [.ref 1000 0]),(1006,.cells [vs (nxF roots dec (m+1)).1]),(1007,.cells [.slice (.ver 1008 5 (m+1)) ((nxF roots dec (m+1)).2.map encNd)]),(1008,.var 5 (m+1) ((nxF roots dec (m+1)).2.map encNd).length),(1009,.cells [.ref 1000 0])] from rfl,e]
theorem nxs_done {a:ByteArray × List Nd} (h:doneC dec n.rq.path=true):nxStep dec a n=(a.1,a.2):=by unfold nxStep; rw [if_pos (.inl h)]
theorem ne_len {o:List Nd} (h:(0:Int)<((o.map encNd).length:Int)):o≠[]:=fun e=>by subst e; simp at h
theorem nil_len {o:List Nd} (h:¬ (0:Int)<((o.map encNd).length:Int)):o=[]:=by
 cases o with
 | nil=>rfl
 | cons y l=>exact absurd (by simp) h
theorem nxs_big {a:ByteArray × List Nd} (h:(0:Int)<((a.2.map encNd).length:Int)) (hb:blt a.1 n.rq.path=true):nxStep dec a n=(a.1,a.2):=by unfold nxStep; rw [if_pos (.inr ⟨ne_len h,hb⟩)]
theorem nxs_less {a:ByteArray × List Nd} (hd:doneC dec n.rq.path=false) (h:(0:Int)<((a.2.map encNd).length:Int)) (hb:blt a.1 n.rq.path=false) (hs:blt n.rq.path a.1=true):nxStep dec a n=(n.rq.path,[n]):=by
 unfold nxStep; rw [if_neg (by rw [hd,hb]; simp),if_pos ⟨ne_len h,hs⟩]
theorem nxs_same {a:ByteArray × List Nd} (hd:doneC dec n.rq.path=false) (hb:blt a.1 n.rq.path=false) (hs:blt n.rq.path a.1=false):nxStep dec a n=(n.rq.path,a.2++[n]):=by
 unfold nxStep; rw [if_neg (by rw [hd,hb]; simp),if_neg (by rw [hs]; simp)]
theorem nxs_nil {a:ByteArray × List Nd} (hd:doneC dec n.rq.path=false) (h:¬ (0:Int)<((a.2.map encNd).length:Int)):nxStep dec a n=(n.rq.path,a.2++[n]):=by
 have:=nil_len h
 unfold nxStep; rw [if_neg (by rw [hd,this]; simp),if_neg (by rw [this]; simp)]
theorem nxs_len (a:ByteArray × List Nd) (n:Nd):(nxStep dec a n).2.length≤a.2.length+1:=by
 unfold nxStep;split
 ·omega
 ·split
  ·simp
  ·simp
theorem nxF_len:∀ (m:Nat),(nxF roots dec m).2.length≤m
 | 0=>Nat.le_refl _
 | m+1=>by
  have ih:=nxF_len m;cases h:(needsN roots dec)[m]? with
  | none =>
   have e:nxF roots dec (m+1)=nxF roots dec m:=by unfold nxF; rw [List.take_add_one,h]; simp
   rw [e]; omega
  | some n=>rw [nxF_succ h]; exact Nat.le_trans (nxs_len _ _) (Nat.succ_le_succ ih)
theorem used_map:∀ {l l' : List (Nat × HO)},l.map Prod.fst=l'.map Prod.fst→(∀ p ∈ l',p.2≠.free)→∀ i,used (heapOf l hfree) i→used (heapOf l' hfree) i
 | [],[],_,_,_,h=>h
 | (a,o) :: l,(a',o') :: l',e,h,i,hu=>by
  rw [List.map_cons,List.map_cons] at e
  injection e with e1 e2
  have e1:a=a':=e1;subst e1;unfold used at *
  by_cases q:i=a
  ·subst q;simp only [heapOf,Nat.beq_refl,cond_true];exact h _ (List.mem_cons_self ..)
  ·simp only [heapOf,beq_ne q,cond_false] at hu ⊢;exact used_map e2 (fun p hp=>h p (List.mem_cons_of_mem _ hp)) i hu
theorem nxH_used (m:Nat):∀ i,used (heapOf (nxH roots C A s dec st 0) hfree) i→used (heapOf (nxH roots C A s dec st m) hfree) i:=used_map rfl (by
 repeat (first | exact List.forall_mem_nil _ | refine List.forall_mem_cons.2 ⟨by simp,?_⟩))
theorem sum_len:∀ {l:List Cd},(∀ c ∈ l,c.rel.reqs.length≤1073741824)→((l.map fun c=>c.rel.reqs.length)).sum≤l.length*1073741824
 | [],_=>by simp
 | c :: l,h=>by
  have h1:=h c (List.mem_cons_self ..);have h2:=sum_len fun c hc=>h c (List.mem_cons_of_mem _ hc);rw [List.map_cons,List.sum_cons,List.length_cons]; omega
theorem needs_len (hr:roots.length≤1073741824) (hd:dec.length≤1000) (h:∀ c ∈ dec,c.rel.reqs.length≤1073741824):(needsN roots dec).length≤1074815565824:=by
 rw [← offN_all];unfold offN;rw [List.take_length]
 have:=sum_len h
 have:=Nat.mul_le_mul_right 1073741824 hd
 omega
end
theorem map_app1 (l:List Nd) (n:Nd):l.map encNd++[encNd n]=(l++[n]).map encNd:=by rw [List.map_append]; rfl
theorem len_app1 (l:List Nd) (n:Nd):(l.map encNd).length+([encNd n]:List (List AV)).length=(l.map encNd++[encNd n]).length:=List.length_append.symm
attribute [local irreducible] RfV niK nxF needsN nxStep
set_option maxHeartbeats 4000000 in
theorem s64 (roots:List Rq) (C A:List (Value × AV)) (s:SS) (dec:List Cd) (st:List (List Sk)) (hr:roots.length≤1073741824) (hd:dec.length≤1000) (hdr:∀ c ∈ dec,c.rel.reqs.length≤1073741824) :
  ACall Tryz.prog 64 [.ref 1000 0] (heapOf (srH roots C A s dec st) hfree) fun r h'=>r=.tup [vs (nextN roots dec).1,sl encNd (nextN roots dec).2]∧h'=heapOf (srH roots C A s dec st) hfree:=by
 refine acall_rfv 5 0 9 5 (cxe ⟨[],[],[],[],[],[],[],[],[],[],[]⟩) (cxe pl0) ID5 rfl tab_ok rfl tab_ok hm rfl rfl Tryz.func64 (by kernel_rfl) rfl (Nz rfl) (by kernel_rfl) rfl 3 ?_;refine Yi (Nz rfl) ?_;refine Xi (.gen ID5 1) (Yi rfl (ACall.imp (s117 roots C A s dec st) ?_));intro v1 g1 q1;have q1a:=q1.1;have q1b:=q1.2;subst q1a;subst q1b;refine rfv_mk [.v (.slice none 0 0)] (by kernel_rfl) (by kernel_rfl) (by kernel_rfl) [(1000,1000),(1001,1001),(1002,1002),(1003,1003),(1004,1004),(10800,1005),(4,1006),(5,1007),(9,1008),(1,1009)] ID10 (nxH roots C A s dec st 0) (nxH roots C A s dec st (needsN roots dec).length) 170 [.ref 1005 0] rfl (by kernel_rfl) (by kernel_rfl) (by kernel_rfl) (by kernel_rfl) (by kernel_rfl) (fun l9 D9 f9 tm9 htm=>s170 l9 roots C A s dec st hr (Nat.le_trans hd (by decide)) hdr fun m n hn=>ycallv_of (σ:=ID10) 1007 0 1008 (cxe ⟨[],[(43,5)],[],[],[],[],[],[],[],[(500005,60001007)],[5]⟩) rfl tab_ok hm rfl rfl rfl htm (by kernel_rfl) (by kernel_rfl) (by kernel_rfl) (nxH_used m) ?_) (by kernel_rfl) ?_
 ·have hml:m<(needsN roots dec).length:=(List.getElem?_eq_some_iff.1 hn).1;have hol:=nxF_len (roots:=roots) (dec:=dec) m;have hnl:=needs_len hr hd hdr;have hF:=nxF_succ hn;refine Yi (Nz rfl) ?_;refine Yi ⟨rfl,rfl⟩ ?_;refine Xi ⟨[(1,.ref 1009 0),(4,.ref 1006 0),(5,.ref 1007 0),(6,.ref 6 0)],[(6,.cells (encNd n)),(60,.tok 5 ((nxF roots dec m).2.map encNd).length),(1000,.cells (srM roots C A s dec 1004 st.length)),(1001,.tok 6 s.infs.length),(1002,.tok 1 s.drv.length),(1003,.map shN (knL 0 s.infs)),(1004,.arr 1 (st.map encSks)),(1005,.cells [.ref 1000 0]),(1006,.cells [vs (nxF roots dec m).1]),(1007,.cells [.slice (.id 60 5) ((nxF roots dec m).2.map encNd)]),(1008,.vox m),(1009,.cells [.ref 1000 0])],hfree⟩ (Yi ⟨Z4,Z12,Fh,ext_dec (by kernel_rfl)⟩ ?_)
  refine Or.elim (Bt (doneC dec n.rq.path)) (fun h2=>?_) (fun h2=>?_)
  ·have h2:(doneC dec n.rq.path)=true:=h2;have hc3:=(s118 roots C A s dec st n.rq.path (Nat.le_trans hd (by decide)));rw [show (doneC dec n.rq.path)=true from h2] at hc3;refine Xi (.gen ID5 0) (Yi rfl (ACall.imp hc3 ?_));intro v4 g4 q4;have q4a:=q4.1;have q4b:=q4.2;subst q4a;subst q4b;refine Yi ⟨rfl,rfl⟩ ?_
   -- [('(doneC dec n.rq.path)=true',True)]
   exact ⟨rfl,nx_end (hF.trans (nxs_done h2)) rfl rfl⟩
  have h2:(doneC dec n.rq.path)=false:=h2;have hc5:=(s118 roots C A s dec st n.rq.path (Nat.le_trans hd (by decide)));rw [show (doneC dec n.rq.path)=false from h2] at hc5;refine Xi (.gen ID5 0) (Yi rfl (ACall.imp hc5 ?_));intro v6 g6 q6;have q6a:=q6.1;have q6b:=q6.2;subst q6a;subst q6b;refine Yi (fun h7=>?_) (fun h7=>?_)
  ·have h7:(0:Int)<(((nxF roots dec m).2.map encNd).length:Int):=h7;have n7:0<(nxF roots dec m).2.length:=by have q:=h7; rw [Lm] at q; omega
   refine Yi (fun h8=>?_) (fun h8=>?_)
   ·have h8:blt (nxF roots dec m).1 n.rq.path=true:=(blt_eq _ _).trans h8;refine Yi ⟨rfl,rfl⟩ ?_
    -- [('(doneC dec n.rq.path)=true',False),('(0:Int)<(((nxF roots dec m).2.map encNd).length:Int)',True),('blt (nxF roots dec m).1 n.rq.path=true',True)]
    exact ⟨rfl,nx_end (hF.trans (nxs_big h7 h8)) rfl rfl⟩
   have h8:blt (nxF roots dec m).1 n.rq.path=false:=(blt_eq _ _).trans (Bool.eq_false_iff.2 h8);refine Yi (fun _=>?_) (fun hf=>absurd h7 hf);refine Yi (fun h9=>?_) (fun h9=>?_)
   ·have h9:blt n.rq.path (nxF roots dec m).1=true:=(blt_eq _ _).trans h9;refine Yi (Nz rfl) ?_;refine Yi (Nz rfl) ?_;refine Yi (Nz rfl) ?_;have b10:AllLen 5 [(encNd n)]∧([(encNd n)]:List (List AV)).length*72≤140737488355328∧([(encNd n)]:List (List AV)).length≤9223372036854775807:=⟨⟨rfl,trivial⟩,(by simp only [List.length_cons,List.length_nil]; omega),(by simp only [List.length_cons,List.length_nil]; omega)⟩;refine Yi b10 ?_;refine Yi (Nz rfl) ?_;refine Yi ⟨rfl,rfl⟩ ?_
    -- [('(doneC dec n.rq.path)=true',False),('(0:Int)<(((nxF roots dec m).2.map encNd).length:Int)',True),('blt (nxF roots dec m).1 n.rq.path=true',False),('blt n.rq.path (nxF roots dec m).1=true',True)]
    exact ⟨rfl,nx_end (hF.trans (nxs_less h2 h7 h8 h9)) rfl rfl⟩
   have h9:blt n.rq.path (nxF roots dec m).1=false:=(blt_eq _ _).trans (Bool.eq_false_iff.2 h9);refine Yi (Nz rfl) ?_;refine Yi (Nz rfl) ?_;have b11:AllLen 5 [(encNd n)]∧((nxF roots dec m).2.map encNd).length=((nxF roots dec m).2.map encNd).length∧(((nxF roots dec m).2.map encNd).length+([(encNd n)]:List (List AV)).length)*72≤140737488355328∧((nxF roots dec m).2.map encNd).length+([(encNd n)]:List (List AV)).length≤9223372036854775807:=⟨⟨rfl,trivial⟩,rfl,(by simp only [Lm,List.length_cons,List.length_nil]; omega),(by simp only [Lm,List.length_cons,List.length_nil]; omega)⟩;refine Yi b11 ?_;refine Yi (Nz rfl) ?_;refine Yi ⟨(len_app1 _ n).symm,rfl⟩ ?_
   -- [('(doneC dec n.rq.path)=true',False),('(0:Int)<(((nxF roots dec m).2.map encNd).length:Int)',True),('blt (nxF roots dec m).1 n.rq.path=true',False),('blt n.rq.path (nxF roots dec m).1=true',False)]
   exact ⟨rfl,nx_end (hF.trans (nxs_same h2 h8 h9)) (map_app1 _ n) (len_app1 _ n)⟩
  have h7:¬ ((0:Int)<(((nxF roots dec m).2.map encNd).length:Int)):=h7;have n7:¬ 0<(nxF roots dec m).2.length:=by have q:=h7; rw [Lm] at q; omega
  refine Yi (fun hf=>absurd hf h7) (fun _=>?_);refine Yi (Nz rfl) ?_;refine Yi (Nz rfl) ?_;have b12:AllLen 5 [(encNd n)]∧((nxF roots dec m).2.map encNd).length=((nxF roots dec m).2.map encNd).length∧(((nxF roots dec m).2.map encNd).length+([(encNd n)]:List (List AV)).length)*72≤140737488355328∧((nxF roots dec m).2.map encNd).length+([(encNd n)]:List (List AV)).length≤9223372036854775807:=⟨⟨rfl,trivial⟩,rfl,(by simp only [Lm,List.length_cons,List.length_nil]; omega),(by simp only [Lm,List.length_cons,List.length_nil]; omega)⟩;refine Yi b12 ?_;refine Yi (Nz rfl) ?_;refine Yi ⟨(len_app1 _ n).symm,rfl⟩ ?_
  -- [('(doneC dec n.rq.path)=true',False),('(0:Int)<(((nxF roots dec m).2.map encNd).length:Int)',False)]
  exact ⟨rfl,nx_end (hF.trans (nxs_nil h2 h7)) (map_app1 _ n) (len_app1 _ n)⟩
 refine Yi (by kernel_rfl) ?_;exact Xi _ (Yi (.refl _) ⟨show AV.tup [vs (nxF roots dec (needsN roots dec).length).1,sl encNd (nxF roots dec (needsN roots dec).length).2]=_ by rw [nxF_all (Nat.le_refl _)],rfl⟩)
end Go.Eng

namespace Go.Eng
open Go.Proofs
theorem idx_cases {α:Type} (pr:α→Bool) (l:List α):(∃ (k:Nat) (n:α),idx pr l 0=(k:Nat)∧l[k]?=some n∧l.find? pr=some n)∨(idx pr l 0=-1∧l.find? pr=none):=by
 have key:∀ (l:List α) (b:Nat),(∃ (k:Nat) (n:α),idx pr l (b:Nat)=((b+k:Nat):Int)∧l[k]?=some n∧l.find? pr=some n)∨(idx pr l (b:Nat)=-1∧l.find? pr=none):=by
  intro l
  induction l with
  | nil=>intro b; exact .inr Zr
  | cons y l ih =>
   intro b;cases h:pr y with
   | true=>exact .inl ⟨0,y,by unfold idx; rw [if_pos h]; rfl,rfl,by rw [List.find?_cons,h]⟩
   | false =>
    have e:idx pr (y :: l) (b:Nat)=idx pr l ((b+1:Nat):Int):=by
     conv=>lhs; unfold idx
     rw [if_neg (by rw [h]; decide)];rw [show ((b+1:Nat):Int)=(b:Int)+1 by omega]
    have e2:(y :: l).find? pr=l.find? pr:=by rw [List.find?_cons,h]
    rcases ih (b+1) with ⟨k,n,h1,h2,h3⟩ | ⟨h1,h2⟩
    ·exact .inl ⟨k+1,n,by rw [e,h1]; congr 1; omega,by simpa using h2,by rw [e2]; exact h3⟩
    ·exact .inr ⟨by rw [e]; exact h1,by rw [e2]; exact h2⟩
 have:=key l 0
 simpa using this
section
variable {rec:List Cd→SS→List (List Sk)→SOut} {x:List Rl} {p:ByteArray} {N:List Nd} {n0:Nd} {dec:List Cd} {st:List (List Sk)} {cs:List Cd} {i:Nat} {S:SS} {rs:List Nat} {sk:List Sk}
theorem cd_end (h:¬ i<cs.length):candGo rec x p N n0 dec st (cs.drop i) S rs sk=⟨(learnS x p n0 rs S).1,false,(learnS x p n0 rs S).2,dec,st⟩:=by
 rw [List.drop_of_length_le (by omega)]; rfl
theorem cd_full (h:i<cs.length) (hf:S.full=true):candGo rec x p N n0 dec st (cs.drop i) S rs sk=⟨0,false,S,dec,st⟩:=by
 rw [List.drop_eq_getElem_cons h,candGo_cons,if_pos hf]
theorem cd_ex (h:i<cs.length) (hf:S.full=false) {n:Nd} (hn:N.find? (fun n=>!has n.rq.set cs[i].place)=some n):candGo rec x p N n0 dec st (cs.drop i) S rs sk=candGo rec x p N n0 dec st (cs.drop (i+1)) (infS S n).2 (rs++[(infS S n).1]) sk:=by
 rw [List.drop_eq_getElem_cons h,candGo_cons,if_neg (by rw [hf]; decide),hn]
theorem cd_ent (h:i<cs.length) (hf:S.full=false) (hn:N.find? (fun n=>!has n.rq.set cs[i].place)=none) {k:Nat} (he:entN S.drv (keysC (dec++[cs[i]]))=some k):candGo rec x p N n0 dec st (cs.drop i) S rs sk=aftGo rec x p N n0 dec st cs[i] (cs.drop (i+1)) rs sk k S:=by
 rw [List.drop_eq_getElem_cons h,candGo_cons,if_neg (by rw [hf]; decide),hn];dsimp only;rw [he]
theorem cd_clash (h:i<cs.length) (hf:S.full=false) (hn:N.find? (fun n=>!has n.rq.set cs[i].place)=none) (he:entN S.drv (keysC (dec++[cs[i]]))=none) {n:Nd} (hc:clashN dec cs[i]=some n) :
  candGo rec x p N n0 dec st (cs.drop i) S rs sk=aftGo rec x p N n0 dec st cs[i] (cs.drop (i+1)) rs sk (infS S n).1 (infS S n).2:=by
 rw [List.drop_eq_getElem_cons h,candGo_cons,if_neg (by rw [hf]; decide),hn];dsimp only;rw [he];dsimp only;rw [hc]
theorem cd_rec (h:i<cs.length) (hf:S.full=false) (hn:N.find? (fun n=>!has n.rq.set cs[i].place)=none) (he:entN S.drv (keysC (dec++[cs[i]]))=none) (hc:clashN dec cs[i]=none) {o:SOut} (ho:o=rec (dec++[cs[i]]) S (st++[sk])) :
  candGo rec x p N n0 dec st (cs.drop i) S rs sk=if o.found=true then ⟨0,true,o.ss,o.dec,o.stack⟩ else if o.ss.full=true then ⟨0,false,o.ss,dec,st⟩ else aftGo rec x p N n0 dec st cs[i] (cs.drop (i+1)) rs sk o.res o.ss:=by
 rw [ho,List.drop_eq_getElem_cons h,candGo_cons,if_neg (by rw [hf]; decide),hn];dsimp only;rw [he];dsimp only;rw [hc]
theorem af_no {c:Cd} {l:List Cd} {k:Nat} (h:concB (atD S k) p=false):aftGo rec x p N n0 dec st c l rs sk k S=⟨k,false,S,dec,st⟩:=by unfold aftGo; rw [if_pos h]
theorem af_yes {c:Cd} {l:List Cd} {k:Nat} (h:concB (atD S k) p=true):aftGo rec x p N n0 dec st c l rs sk k S=candGo rec x p N n0 dec st l S (rs++[k]) (sk++[⟨p,c.place,(k:Nat)⟩]):=by unfold aftGo; rw [if_neg (by rw [h]; decide)]
end
theorem decC_len {x:List Rl} {dec:List Cd} (h:DecOk x dec):dec.length≤x.length:=by
 have h1:=nodup_sub_len (m:=x.map (·.path)) h.nodup fun p hp=>by
  obtain ⟨c,hc,rfl⟩:=List.mem_map.1 hp;exact List.mem_map.2 ⟨c.rel,(h.cand c hc).1,rfl⟩
 rw [Lm,Lm] at h1;exact h1
theorem cands_len (x:List Rl) (p:ByteArray):(candsP x p).length≤x.length:=by
 unfold candsP; rw [Lm]; exact List.length_filter_le _ _
end Go.Eng
