/- Lemmas for the claims of this seat, without a condition: part 27 (S19, S20, S21, S22, S23, S24). -/
import Derived.Test.YtkmnnpmneamgoaaGreatDoorA26
namespace Go.Eng
open Go.Proofs
abbrev plSv:Pol:=⟨[2],[],[],[],[],[],[],[(50,(9,3,95,3))],[(44,0)],[(100016,1009)],[3,4,5,6,7,8,9,10,11,14,15,16]⟩
abbrev an0:An:=⟨false,[],[],[]⟩
def solveA (x:List Rl) (roots:List Rq):An:=if validS x roots=true∧(solveX x roots).ss.full=false then ansX x roots else an0
def solveE (x:List Rl) (roots:List Rq):Int:=if validS x roots=true then if (solveX x roots).ss.full=true then 7 else 0 else 1
abbrev solveV (x:List Rl) (roots:List Rq):AV:=.tup [.agg (encAn (solveA x roots)),vi (solveE x roots)]
theorem Sub.an0 {v:AV} : Sub (.tup [.agg [vb false,.v (.slice none 0 0),.v (.slice none 0 0),.v (.slice none 0 0)],v]) (.tup [.agg (encAn an0),v]) :=
 Sub.tup ⟨Sub.agg ⟨.refl _,.nil,.nil,.nil,trivial⟩,.refl _,trivial⟩
theorem sol_call {x:List Rl} {roots:List Rq} (hx:∀ r ∈ x,FewR r) (hr:∀ q ∈ roots,FewQ q) (h0:checkIx x=0) (h1:checkRqs roots=0) {L:List ByteArray} (hl:L.Perm (pathsIx (yR x) [])) {o:SOut} (ho:solveX x roots=o) :
  ACall Tryz.prog 45 [.ref 1000 0] (heapOf (srH roots (mC x) (L.map (kA x)) ss0 [] []) hfree) (SolQ roots (mC x) (L.map (kA x)) o):=by
 rw [← ho];exact s45c (env_of hx hr h0 h1 hl) (x.length+1) (.nil x) (SatOk.nil roots) ⟨⟨rfl,Nat.zero_le _⟩,List.nodup_nil⟩ rfl (Nat.lt_succ_of_le (List.length_filter_le _ _)) rfl
theorem valid_of {x:List Rl} {roots:List Rq} (h:validS x roots=true):checkIx x=0∧checkRqs roots=0:=by
 unfold validS at h;rw [Bool.and_eq_true,decide_eq_true_eq,decide_eq_true_eq] at h;exact h
set_option maxHeartbeats 4000000 in
theorem s21_bad (x:List Rl) (ifs:List (List AV)) (roots:List Rq) (hx:∀ r ∈ x,FewR r) (hr:∀ q ∈ roots,FewQ q) (hv:validS x roots=false):PC 21 [ixV x ifs,sl encRq roots] (.tup [.agg (encAn an0),vi 1]):=by
 have hc28:=s28 x ifs roots hx hr;rw [hv] at hc28;refine Ps plSv Tryz.func21 rfl (Nz rfl) ?_;refine Yi ?_ ?_
 ·exact Nz rfl
 refine Xi .pure (Xi _ (Yi hc28 ?_));refine Yi ?_ ?_
 ·exact Nz rfl
 refine Yi ?_ ?_
 ·exact Nz rfl
 exact Sub.an0
set_option maxHeartbeats 4000000 in
theorem s21_full (x:List Rl) (ifs:List (List AV)) (roots:List Rq) (hx:∀ r ∈ x,FewR r) (hr:∀ q ∈ roots,FewQ q) (hv:validS x roots=true) (h0:checkIx x=0) (h1:checkRqs roots=0) (k:Nat) (infs:List Nf) (drv:List (List Tm)) (dec:List Cd) (st:List (List Sk)) (ho:solveX x roots=⟨k,false,⟨infs,drv,true⟩,dec,st⟩):PC 21 [ixV x ifs,sl encRq roots] (.tup [.agg (encAn an0),vi 7]):=by
 have hc28:=s28 x ifs roots hx hr;rw [hv] at hc28;refine Ps plSv Tryz.func21 rfl (Nz rfl) ?_;refine Yi ?_ ?_
 ·exact Nz rfl
 refine Xi .pure (Xi _ (Yi hc28 ?_));refine Xi ⟨[(1,sl encRq roots),(2,.ref 2 0),(4,.ref 4 0)],[(2,.ro (Ic x ifs)),(4,.cells [vb false,.v (.slice none 0 0),.v (.slice none 0 0),.v (.slice none 0 0)])],hfree⟩ (Yi ⟨Z3,Z2,Fh,Tv⟩ ?_)
 refine Yi ?_ ?_
 ·exact Nz rfl
 refine Xi (.gen [] 5) (Yi rfl ((s29 x ifs roots hx h0).imp ?_));intro v g q;refine Exists.elim q (fun L q=>?_);have q1:=q.2.1;have q2:=q.2.2;have qp:=q.1;subst q1;subst q2;refine Xi ⟨[(4,.ref 4 0),(6,.ref 11900 0)],[(4,.cells [vb false,.v (.slice none 0 0),.v (.slice none 0 0),.v (.slice none 0 0)]),(11900,.cells [sl encRq roots,.cmap shS (mC x),.cmap shS (L.map (kA x)),.slice (.id 11901 6) [],.slice (.id 11902 1) [],.mref 11903,vb false,.slice .none [],.slice .none [],.msl 11904 0]),(11901,.tok 6 0),(11902,.tok 1 0),(11903,.map shN []),(11904,.arr 1 [])],hfree⟩ (Yi ⟨Z2,Z6,Fh,Tv⟩ ?_)
 refine Xi (.gen [(11900,1000),(11901,1001),(11902,1002),(11903,1003),(11904,1004)] 1) (Yi rfl ((sol_call hx hr h0 h1 qp ho).imp ?_));intro v g q;have q1:=q.1;have q2:=q.2;subst q1;subst q2;refine Xi ⟨[(4,.ref 4 0),(6,.ref 11900 0),(7,vi (k:Nat)),(8,vb false)],[(4,.cells [vb false,.v (.slice none 0 0),.v (.slice none 0 0),.v (.slice none 0 0)]),(11900,.cells [sl encRq roots,.cmap shS (mC x),.cmap shS (L.map (kA x)),.slice (.id 11901 6) (infs.map encNf),.slice (.id 11902 1) (drv.map encInc),.mref 11903,vb true,sl encCd dec,sl encSl (keysC dec),.msl 12200 st.length]),(11901,.tok 6 infs.length),(11902,.tok 1 drv.length),(11903,.map shN (knL 0 infs)),(12200,.arr 1 (st.map encSks))],hfree⟩ (Yi ⟨Z4,Z6,Fh,Tv⟩ ?_)
 refine Yi (fun _=>?_) (fun h=>by cases h);refine Xi ⟨[(4,.ref 4 0)],[(4,.cells [vb false,.v (.slice none 0 0),.v (.slice none 0 0),.v (.slice none 0 0)])],hfree⟩ (Yi ⟨Z1,Z1,Fh,Tv⟩ ?_)
 refine Yi ?_ ?_
 ·exact Nz rfl
 refine Yi ?_ ?_
 ·exact Nz rfl
 exact Sub.an0
set_option maxHeartbeats 4000000 in
theorem s21_no (x:List Rl) (ifs:List (List AV)) (roots:List Rq) (hx:∀ r ∈ x,FewR r) (hr:∀ q ∈ roots,FewQ q) (hv:validS x roots=true) (h0:checkIx x=0) (h1:checkRqs roots=0) (k:Nat) (infs:List Nf) (drv:List (List Tm)) (dec:List Cd) (st:List (List Sk)) (ho:solveX x roots=⟨k,false,⟨infs,drv,false⟩,dec,st⟩) (hk:k<infs.length) (hl:infs.length≤65536):PC 21 [ixV x ifs,sl encRq roots] (.tup [.agg (encAn ⟨false,[],infs.take (k+1),[]⟩),vi 0]):=by
 have hc28:=s28 x ifs roots hx hr;rw [hv] at hc28;refine Ps plSv Tryz.func21 rfl (Nz rfl) ?_;refine Yi ?_ ?_
 ·exact Nz rfl
 refine Xi .pure (Xi _ (Yi hc28 ?_));refine Xi ⟨[(1,sl encRq roots),(2,.ref 2 0),(4,.ref 4 0)],[(2,.ro (Ic x ifs)),(4,.cells [vb false,.v (.slice none 0 0),.v (.slice none 0 0),.v (.slice none 0 0)])],hfree⟩ (Yi ⟨Z3,Z2,Fh,Tv⟩ ?_)
 refine Yi ?_ ?_
 ·exact Nz rfl
 refine Xi (.gen [] 5) (Yi rfl ((s29 x ifs roots hx h0).imp ?_));intro v g q;refine Exists.elim q (fun L q=>?_);have q1:=q.2.1;have q2:=q.2.2;have qp:=q.1;subst q1;subst q2;refine Xi ⟨[(4,.ref 4 0),(6,.ref 11900 0)],[(4,.cells [vb false,.v (.slice none 0 0),.v (.slice none 0 0),.v (.slice none 0 0)]),(11900,.cells [sl encRq roots,.cmap shS (mC x),.cmap shS (L.map (kA x)),.slice (.id 11901 6) [],.slice (.id 11902 1) [],.mref 11903,vb false,.slice .none [],.slice .none [],.msl 11904 0]),(11901,.tok 6 0),(11902,.tok 1 0),(11903,.map shN []),(11904,.arr 1 [])],hfree⟩ (Yi ⟨Z2,Z6,Fh,Tv⟩ ?_)
 refine Xi (.gen [(11900,1000),(11901,1001),(11902,1002),(11903,1003),(11904,1004)] 1) (Yi rfl ((sol_call hx hr h0 h1 qp ho).imp ?_));intro v g q;have q1:=q.1;have q2:=q.2;subst q1;subst q2;refine Xi ⟨[(4,.ref 4 0),(6,.ref 11900 0),(7,vi (k:Nat)),(8,vb false)],[(4,.cells [vb false,.v (.slice none 0 0),.v (.slice none 0 0),.v (.slice none 0 0)]),(11900,.cells [sl encRq roots,.cmap shS (mC x),.cmap shS (L.map (kA x)),.slice (.id 11901 6) (infs.map encNf),.slice (.id 11902 1) (drv.map encInc),.mref 11903,vb false,sl encCd dec,sl encSl (keysC dec),.msl 12200 st.length]),(11901,.tok 6 infs.length),(11902,.tok 1 drv.length),(11903,.map shN (knL 0 infs)),(12200,.arr 1 (st.map encSks))],hfree⟩ (Yi ⟨Z4,Z6,Fh,Tv⟩ ?_)
 refine Yi (fun h=>by cases h) (fun _=>?_);refine Xi ⟨[(4,.ref 4 0),(6,.ref 11900 0),(7,vi (k:Nat)),(8,vb false)],[(4,.cells [vb false,.v (.slice none 0 0),.v (.slice none 0 0),.v (.slice none 0 0)]),(11900,.cells [sl encRq roots,.cmap shS (mC x),.cmap shS (L.map (kA x)),.slice (.id 11901 6) (infs.map encNf),.slice (.id 11902 1) (drv.map encInc),.mref 11903,vb false,sl encCd dec,sl encSl (keysC dec),.msl 12200 st.length]),(11901,.tok 6 infs.length),(11902,.tok 1 drv.length),(11903,.map shN (knL 0 infs)),(12200,.arr 1 (st.map encSks))],hfree⟩ (Yi ⟨Z4,Z6,Fh,Tv⟩ ?_)
 refine Xi ⟨[(4,.ref 4 0),(6,.ref 11900 0),(7,vi (k:Nat))],[(4,.cells [vb false,.v (.slice none 0 0),.v (.slice none 0 0),.v (.slice none 0 0)]),(11900,.cells [sl encRq roots,.cmap shS (mC x),.cmap shS (L.map (kA x)),.slice (.id 11901 6) (infs.map encNf),.slice (.id 11902 1) (drv.map encInc),.mref 11903,vb false,sl encCd dec,sl encSl (keysC dec),.msl 12200 st.length]),(11901,.tok 6 infs.length),(11902,.tok 1 drv.length),(11903,.map shN (knL 0 infs)),(12200,.arr 1 (st.map encSks))],hfree⟩ (Yi ⟨Z3,Z6,Fh,Tv⟩ ?_)
 refine Yi (Ii k (by omega)) ?_;have el:(infs.map encNf).length=infs.length:=Lm ..;refine Yi ⟨Int.le_refl _,by show (0:Int)≤(k:Int)+1; omega,by show (k:Int)+1≤((infs.map encNf).length:Int); rw [el]; omega⟩ ?_;refine Yi (fun cs hcs=>by obtain ⟨i,_,rfl⟩:=List.mem_map.1 hcs; rfl) ?_;refine Yi ?_ ?_
 ·exact Nz rfl
 refine Yi ?_ ?_
 ·exact Nz rfl
 have et:((infs.map encNf).take ((k:Int)+1).toNat).drop (0:Int).toNat=(infs.take (k+1)).map encNf:=by
  rw [show ((k:Int)+1).toNat=k+1 by omega]; simp
 exact Sub.tup ⟨Sub.agg ⟨.refl _,.nil,.of_eq (show AV.slice .none (((infs.map encNf).take ((k:Int)+1).toNat).drop (0:Int).toNat)=_ by rw [et]),.nil,trivial⟩,.refl _,trivial⟩
theorem insP_perm (y:Sl):∀ l:List Sl,(insP y l).Perm (y :: l)
 | []=>.refl _
 | z :: l=>by
  unfold insP;split
  ·exact .refl _
  ·exact ((insP_perm y l).cons z).trans (List.Perm.swap y z l)
theorem sortP_perm:∀ l:List Sl,(sortP l).Perm l
 | []=>.refl _
 | y :: l=>(insP_perm y _).trans ((sortP_perm l).cons y)
theorem flat_len {b:Nat} : ∀ {st:List (List Sk)},(∀ s ∈ st,s.length≤b)→st.flatten.length≤b*st.length
 | [],_=>by simp
 | s :: st,h=>by
  rw [List.flatten_cons,List.length_append,List.length_cons,Nat.mul_succ]
  have:=h s (List.mem_cons_self ..)
  have:=flat_len (st:=st) fun t ht=>h t (List.mem_cons_of_mem _ ht)
  omega
theorem skf_take {st:List (List Sk)} (h:st.length≤256) (hs:∀ s ∈ st,s.length≤256) (i:Nat):((st.take i).flatten).length≤65536:=by
 have h1:=flat_len (b:=256) (st:=st.take i) fun s hs'=>hs s (List.mem_of_mem_take hs')
 have:(st.take i).length≤256:=by rw [List.length_take]; omega
 omega
set_option maxHeartbeats 4000000 in
theorem s21_yes (x:List Rl) (ifs:List (List AV)) (roots:List Rq) (hx:∀ r ∈ x,FewR r) (hr:∀ q ∈ roots,FewQ q) (hv:validS x roots=true) (h0:checkIx x=0) (h1:checkRqs roots=0) (k:Nat) (infs:List Nf) (drv:List (List Tm)) (dec:List Cd) (st:List (List Sk)) (ho:solveX x roots=⟨k,true,⟨infs,drv,false⟩,dec,st⟩) (hd:dec.length≤256) (hn:((keysC dec).map (·.path)).Nodup) (hst:st.length≤256) (hsk:∀ s ∈ st,s.length≤256):PC 21 [ixV x ifs,sl encRq roots] (.tup [.agg (encAn ⟨true,sortP (keysC dec),infs,st.flatten⟩),vi 0]):=by
 have hc28:=s28 x ifs roots hx hr;rw [hv] at hc28;refine Ps plSv Tryz.func21 rfl (Nz rfl) ?_;refine Yi ?_ ?_
 ·exact Nz rfl
 refine Xi .pure (Xi _ (Yi hc28 ?_));refine Xi ⟨[(1,sl encRq roots),(2,.ref 2 0),(4,.ref 4 0)],[(2,.ro (Ic x ifs)),(4,.cells [vb false,.v (.slice none 0 0),.v (.slice none 0 0),.v (.slice none 0 0)])],hfree⟩ (Yi ⟨Z3,Z2,Fh,Tv⟩ ?_)
 refine Yi ?_ ?_
 ·exact Nz rfl
 refine Xi (.gen [] 5) (Yi rfl ((s29 x ifs roots hx h0).imp ?_));intro v g q;refine Exists.elim q (fun L q=>?_);have q1:=q.2.1;have q2:=q.2.2;have qp:=q.1;subst q1;subst q2;refine Xi ⟨[(4,.ref 4 0),(6,.ref 11900 0)],[(4,.cells [vb false,.v (.slice none 0 0),.v (.slice none 0 0),.v (.slice none 0 0)]),(11900,.cells [sl encRq roots,.cmap shS (mC x),.cmap shS (L.map (kA x)),.slice (.id 11901 6) [],.slice (.id 11902 1) [],.mref 11903,vb false,.slice .none [],.slice .none [],.msl 11904 0]),(11901,.tok 6 0),(11902,.tok 1 0),(11903,.map shN []),(11904,.arr 1 [])],hfree⟩ (Yi ⟨Z2,Z6,Fh,Tv⟩ ?_)
 refine Xi (.gen [(11900,1000),(11901,1001),(11902,1002),(11903,1003),(11904,1004)] 1) (Yi rfl ((sol_call hx hr h0 h1 qp ho).imp ?_));intro v g q;have q1:=q.1;have q2:=q.2;subst q1;subst q2;refine Xi ⟨[(4,.ref 4 0),(6,.ref 11900 0),(7,vi (k:Nat)),(8,vb true)],[(4,.cells [vb false,.v (.slice none 0 0),.v (.slice none 0 0),.v (.slice none 0 0)]),(11900,.cells [sl encRq roots,.cmap shS (mC x),.cmap shS (L.map (kA x)),.slice (.id 11901 6) (infs.map encNf),.slice (.id 11902 1) (drv.map encInc),.mref 11903,vb false,sl encCd dec,sl encSl (keysC dec),.msl 12200 st.length]),(11901,.tok 6 infs.length),(11902,.tok 1 drv.length),(11903,.map shN (knL 0 infs)),(12200,.arr 1 (st.map encSks))],hfree⟩ (Yi ⟨Z4,Z6,Fh,Tv⟩ ?_)
 refine Yi (fun h=>by cases h) (fun _=>?_);refine Xi ⟨[(4,.ref 4 0),(6,.ref 11900 0),(8,vb true)],[(4,.cells [vb false,.v (.slice none 0 0),.v (.slice none 0 0),.v (.slice none 0 0)]),(11900,.cells [sl encRq roots,.cmap shS (mC x),.cmap shS (L.map (kA x)),.slice (.id 11901 6) (infs.map encNf),.slice (.id 11902 1) (drv.map encInc),.mref 11903,vb false,sl encCd dec,sl encSl (keysC dec),.msl 12200 st.length]),(11901,.tok 6 infs.length),(11902,.tok 1 drv.length),(11903,.map shN (knL 0 infs)),(12200,.arr 1 (st.map encSks))],hfree⟩ (Yi ⟨Z3,Z6,Fh,Tv⟩ ?_)
 refine Xi ⟨[(4,.ref 4 0),(6,.ref 11900 0)],[(4,.cells [vb false,.v (.slice none 0 0),.v (.slice none 0 0),.v (.slice none 0 0)]),(11900,.cells [sl encRq roots,.cmap shS (mC x),.cmap shS (L.map (kA x)),.slice (.id 11901 6) (infs.map encNf),.slice (.id 11902 1) (drv.map encInc),.mref 11903,vb false,sl encCd dec,sl encSl (keysC dec),.msl 12200 st.length]),(11901,.tok 6 infs.length),(11902,.tok 1 drv.length),(11903,.map shN (knL 0 infs)),(12200,.arr 1 (st.map encSks))],hfree⟩ (Yi ⟨Z2,Z6,Fh,Tv⟩ ?_)
 have hkl:(keysC dec).length≤256:=by rw [Lm]; exact hd
 have hkf:Few (keysC dec):=Nat.le_trans hkl (by decide);refine Xi (keysC dec).length (Xi 4 (Xi ((keysC dec).map encSl) (Yi rfl (Yi (s46a (keysC dec) hkf) ?_))));refine Yi ?_ ?_
 ·exact Nz rfl
 refine Yi (by kernel_rfl) ?_;refine Xi ⟨[(4,.ref 4 0),(6,.ref 11900 0),(9,.ref 9 0)],[(4,.cells [vb false,.v (.slice none 0 0),.v (.slice none 0 0),.v (.slice none 0 0)]),(9,.cells [vb true,.msl 14400 (keysC dec).length,.slice (.id 11901 6) (infs.map encNf),.v (.slice none 0 0)]),(11900,.cells [sl encRq roots,.cmap shS (mC x),.cmap shS (L.map (kA x)),.slice (.id 11901 6) (infs.map encNf),.slice (.id 11902 1) (drv.map encInc),.mref 11903,vb false,sl encCd dec,sl encSl (keysC dec),.msl 12200 st.length]),(11901,.tok 6 infs.length),(11902,.tok 1 drv.length),(11903,.map shN (knL 0 infs)),(12200,.arr 1 (st.map encSks)),(14400,.arr 4 ((keysC dec).map encSl))],hfree⟩ (Yi ⟨Z3,Z8,Fh,Tv⟩ ?_)
 refine Xi (.gen [(14400,1000)] 0) (Yi rfl ((s47 48 Tryz.closure48 (enters_of Tryz.func48 (by kernel_rfl) rfl) (keysC dec) hkf hn).imp ?_));intro v g q;have q1:=q.1;have q2:=q.2;subst q1;subst q2;refine Xi ⟨[(4,.ref 4 0),(6,.ref 11900 0),(9,.ref 9 0)],[(4,.cells [vb false,.v (.slice none 0 0),.v (.slice none 0 0),.v (.slice none 0 0)]),(9,.cells [vb true,.msl 14400 (keysC dec).length,.slice (.id 11901 6) (infs.map encNf),.slice (.id 95 3) []]),(95,.tok 3 0),(11900,.cells [sl encRq roots,.cmap shS (mC x),.cmap shS (L.map (kA x)),.slice (.id 11901 6) (infs.map encNf),.slice (.id 11902 1) (drv.map encInc),.mref 11903,vb false,sl encCd dec,sl encSl (keysC dec),.msl 12200 st.length]),(11901,.tok 6 infs.length),(11902,.tok 1 drv.length),(11903,.map shN (knL 0 infs)),(12200,.arr 1 (st.map encSks)),(14400,.arr 4 ((sortP (keysC dec)).map encSl))],hfree⟩ (Yi ⟨Z3,Z9,Fh,Tv⟩ ?_)
 refine Xi {i:Nat // i≤st.length} (Xi (fun i=>⟨[(4,.ref 4 0),(6,.ref 11900 0),(9,.ref 9 0),(56,.msl 12200 st.length),(57,vi (st.length:Nat)),(58,vi i.1)],[(4,.cells [vb false,.v (.slice none 0 0),.v (.slice none 0 0),.v (.slice none 0 0)]),(9,.cells [vb true,.msl 14400 (keysC dec).length,.slice (.id 11901 6) (infs.map encNf),.slice (.id 95 3) ((st.take i.1).flatten.map encSk)]),(95,.tok 3 ((st.take i.1).flatten.map encSk).length),(11900,.cells [sl encRq roots,.cmap shS (mC x),.cmap shS (L.map (kA x)),.slice (.id 11901 6) (infs.map encNf),.slice (.id 11902 1) (drv.map encInc),.mref 11903,vb false,sl encCd dec,sl encSl (keysC dec),.msl 12200 st.length]),(11901,.tok 6 infs.length),(11902,.tok 1 drv.length),(11903,.map shN (knL 0 infs)),(12200,.arr 1 (st.map encSks)),(14400,.arr 4 ((sortP (keysC dec)).map encSl))],hfree⟩) (Xi (fun i=>st.length - i.1) (Yi (Xi ⟨0,Nat.zero_le _⟩ ?_) ?_)))
 ·exact ⟨Z6,Z9,Fh,Tv⟩
 intro ⟨i,i1⟩;have i1:i≤st.length:=i1;refine Yi ?_ ?_
 ·intro h;have h:(i:Int)<(st.length:Nat):=h;have h:i<st.length:=by omega
  have hg:st[i]?=some st[i]:=Ge h;have htake:st.take (i+1)=st.take i++[st[i]]:=by rw [List.take_add_one,hg]; rfl
  refine Yi (Yi (Nn i) (by show (i:Int)<(st.length:Nat); omega)) ?_;refine Yi (by rw [Lm]) (Xi (encSks st[i]) (Yi (by show (st.map encSks)[((i:Nat):Int).toNat]?=_; rw [Int.toNat_natCast,List.getElem?_map,hg]; rfl) ?_));refine Xi ⟨[(4,.ref 4 0),(6,.ref 11900 0),(9,.ref 9 0),(11,sl encSk st[i]),(56,.msl 12200 st.length),(57,vi (st.length:Nat)),(58,vi i)],[(4,.cells [vb false,.v (.slice none 0 0),.v (.slice none 0 0),.v (.slice none 0 0)]),(9,.cells [vb true,.msl 14400 (keysC dec).length,.slice (.id 11901 6) (infs.map encNf),.slice (.id 95 3) ((st.take i).flatten.map encSk)]),(95,.tok 3 ((st.take i).flatten.map encSk).length),(11900,.cells [sl encRq roots,.cmap shS (mC x),.cmap shS (L.map (kA x)),.slice (.id 11901 6) (infs.map encNf),.slice (.id 11902 1) (drv.map encInc),.mref 11903,vb false,sl encCd dec,sl encSl (keysC dec),.msl 12200 st.length]),(11901,.tok 6 infs.length),(11902,.tok 1 drv.length),(11903,.map shN (knL 0 infs)),(12200,.arr 1 (st.map encSks)),(14400,.arr 4 ((sortP (keysC dec)).map encSl))],hfree⟩ (Yi ⟨Z7,Z9,Fh,Tv⟩ ?_)
  have hfl:((st.take i).flatten).length≤65536∧st[i].length≤256:=⟨skf_take hst hsk i,hsk _ (List.getElem_mem _)⟩;have bulk:AllLen 3 (st[i].map encSk)∧((st.take i).flatten.map encSk).length=((st.take i).flatten.map encSk).length∧(((st.take i).flatten.map encSk).length+(st[i].map encSk).length)*32≤140737488355328∧((st.take i).flatten.map encSk).length+(st[i].map encSk).length≤9223372036854775807:=by
   refine ⟨allLen_map (enc:=encSk) (n:=3) (fun _=>rfl) _,rfl,?_,?_⟩ <;> simp only [Lm] <;> omega
  refine Yi bulk ?_;refine Yi ?_ ?_
  ·exact Nz rfl
  have ef:((st.take i).flatten.map encSk)++st[i].map encSk=((st.take (i+1)).flatten.map encSk):=by rw [htake,List.flatten_append,List.map_append]; simp
  have en:((st.take i).flatten.map encSk).length+(st[i].map encSk).length=((st.take (i+1)).flatten.map encSk).length:=by rw [← ef,List.length_append]
  refine Xi ⟨[(4,.ref 4 0),(6,.ref 11900 0),(9,.ref 9 0),(56,.msl 12200 st.length),(57,vi (st.length:Nat)),(58,vi i)],[(4,.cells [vb false,.v (.slice none 0 0),.v (.slice none 0 0),.v (.slice none 0 0)]),(9,.cells [vb true,.msl 14400 (keysC dec).length,.slice (.id 11901 6) (infs.map encNf),.slice (.id 95 3) ((st.take (i+1)).flatten.map encSk)]),(95,.tok 3 ((st.take (i+1)).flatten.map encSk).length),(11900,.cells [sl encRq roots,.cmap shS (mC x),.cmap shS (L.map (kA x)),.slice (.id 11901 6) (infs.map encNf),.slice (.id 11902 1) (drv.map encInc),.mref 11903,vb false,sl encCd dec,sl encSl (keysC dec),.msl 12200 st.length]),(11901,.tok 6 infs.length),(11902,.tok 1 drv.length),(11903,.map shN (knL 0 infs)),(12200,.arr 1 (st.map encSks)),(14400,.arr 4 ((sortP (keysC dec)).map encSl))],hfree⟩ (Yi ⟨Z6,⟨Zr,⟨congrArg (fun z=>HO.cells [vb true,.msl 14400 (keysC dec).length,.slice (.id 11901 6) (infs.map encNf),.slice (.id 95 3) z]) ef,rfl⟩,⟨congrArg (HO.tok 3) en,rfl⟩,Zr,Zr,Zr,Zr,Zr,Zr,Tv⟩,Fh,Tv⟩ ?_)
  refine Yi (Ii i (by omega)) ?_;refine Xi ⟨i+1,by omega⟩ ?_;exact ⟨Dl st.length i (by omega),Z6,Z9,Fh,Tv⟩
 ·intro h;have h:¬ (i:Int)<(st.length:Nat):=h;have et:st.take i=st:=List.take_of_length_le (by omega);have hsl:(keysC dec).length=((sortP (keysC dec)).map encSl).length:=(sortP_perm (keysC dec)).length_eq.symm.trans (Lm ..).symm;refine Yi hsl ?_;refine Xi ⟨[(4,.ref 4 0),(9,.ref 9 0)],[(4,.cells [vb false,.v (.slice none 0 0),.v (.slice none 0 0),.v (.slice none 0 0)]),(9,.cells [vb true,.slice (.id 14400 4) ((sortP (keysC dec)).map encSl),.slice (.id 11901 6) (infs.map encNf),.slice (.id 95 3) (st.flatten.map encSk)]),(95,.tok 3 (st.flatten.map encSk).length),(11901,.tok 6 infs.length),(14400,.tok 4 ((sortP (keysC dec)).map encSl).length)],hfree⟩ (Yi ⟨Z2,⟨Zr,⟨congrArg (fun z:List (List Sk)=>HO.cells [vb true,.slice (.id 14400 4) ((sortP (keysC dec)).map encSl),.slice (.id 11901 6) (infs.map encNf),.slice (.id 95 3) (z.flatten.map encSk)]) et,rfl⟩,⟨congrArg (fun z:List (List Sk)=>HO.tok 3 (z.flatten.map encSk).length) et,rfl⟩,Zr,Zr,Tv⟩,Fh,Tv⟩ ?_)
  refine Yi ?_ ?_
  ·exact Nz rfl
  refine Yi ?_ ?_
  ·exact Nz rfl
  refine Yi ?_ ?_
  ·exact Nz rfl
  exact .refl _
end Go.Eng

namespace Go.Eng
open Go.Proofs
theorem skRel_len {s:SS} {b:List Cd} {p:ByteArray} {needs:List Nd} : ∀ {cs:List Cd} {sk:List Sk},skRel s b p needs cs sk→sk.length≤cs.length
 | [],sk,h=>by
  have h:sk=[]:=h;rw [h]; exact Nat.le_refl _
 | c :: cs,sk,h=>by
  have h:if (needs.all fun n=>has n.rq.set c.place)=true then _ else _:=h
  by_cases hc:(needs.all fun n=>has n.rq.set c.place)=true
  ·rw [if_pos hc] at h;obtain ⟨k,rest,rfl,_,h3⟩:=h
   have:=skRel_len h3
   simp only [List.length_cons]; omega
  ·rw [if_neg hc] at h
   have:=skRel_len h
   simp only [List.length_cons]; omega
theorem chain_len {x:List Rl} {roots:List Rq} {s:SS} : ∀ {t:List Cd} {sl:List (List Sk)} {b:List Cd},Chain x roots s b t sl→sl.length=t.length∧∀ k ∈ sl,k.length≤x.length
 | [],[],_,_=>⟨rfl,fun _ h=>by cases h⟩
 | [],_ :: _,_,h=>h.elim
 | _ :: _,[],_,h=>h.elim
 | c :: t,sk :: sl,b,⟨⟨p,needs,pre,post,hs⟩,h⟩=>by
  obtain ⟨h1,h2⟩:=chain_len h;refine ⟨by simp [h1],fun k hk=>?_⟩;rcases List.mem_cons.1 hk with rfl | hk
  ·have e1:=skRel_len hs.skips;have e2:=cands_len x p;rw [hs.cands,List.length_append] at e2;omega
  ·exact h2 k hk
theorem s21 (x:List Rl) (ifs:List (List AV)) (roots:List Rq) (hx:∀ r ∈ x,FewR r) (hr:∀ q ∈ roots,FewQ q):PC 21 [ixV x ifs,sl encRq roots] (solveV x roots):=by
 unfold solveV solveA solveE;cases hv:validS x roots with
 | false=>simpa using s21_bad x ifs roots hx hr hv
 | true =>
  obtain ⟨h0,h1⟩:=valid_of hv;have hR:=solveX_ok h0 h1;have hxl:=(ix_few h0).1;have hA:ansX x roots=if (solveX x roots).found=true then ⟨true,sortP (keysC (solveX x roots).dec),(solveX x roots).ss.infs,(solveX x roots).stack.flatten⟩ else ⟨false,[],(solveX x roots).ss.infs.take ((solveX x roots).res+1),[]⟩:=rfl
  rw [hA];generalize ho:solveX x roots=o at hR ⊢;obtain ⟨k,b,⟨infs,drv,full⟩,dec,st⟩:=o;have hl:infs.length≤65536:=hR.der.len;have hdl:drv.length=infs.length:=hR.der.dlen;cases b with
  | false =>
   cases full with
   | true=>simpa using s21_full x ifs roots hx hr hv h0 h1 k infs drv dec st ho
   | false =>
    have hk:k<drv.length:=((hR.no rfl).2.2 rfl).1;simpa using s21_no x ifs roots hx hr hv h0 h1 k infs drv dec st ho (by omega) hl
  | true =>
   obtain ⟨hf,t,sl,e1,e2,hC,_⟩:=hR.yes rfl;have hf:full=false:=hf;subst hf;have e1:dec=[]++t:=e1;have e2:st=[]++sl:=e2;rw [List.nil_append] at e1 e2;subst e1; subst e2;have hD:DecOk x ([]++dec):=(Chain.ok (.nil x) (.nil roots) hC).1;rw [List.nil_append] at hD;have hdx:=decC_len hD;obtain ⟨c1,c2⟩:=chain_len hC;have hn:((keysC dec).map (·.path)).Nodup:=by rw [keysC_path]; exact hD.nodup
   simpa using s21_yes x ifs roots hx hr hv h0 h1 k infs drv dec st ho (by omega) hn (by omega) (fun s hs=>Nat.le_trans (c2 s hs) hxl)
def selE (x:List Rl) (roots:List Rq):Int:=if solveE x roots≠0 then solveE x roots else if (solveA x roots).found=true then 0 else 17
def selA (x:List Rl) (roots:List Rq):List Sl:=if selE x roots=0 then (solveA x roots).sel else []
abbrev pl16:Pol:=⟨[2],[],[],[],[],[],[],[],[],[],[]⟩
set_option maxHeartbeats 4000000 in
theorem s16_of (x:List Rl) (ifs:List (List AV)) (roots:List Rq) (a:An) (e:Int) (h:PC 21 [ixV x ifs,sl encRq roots] (.tup [.agg (encAn a),vi e])) :
  PC 16 [ixV x ifs,sl encRq roots] (.tup [if e≠0 then sl encSl [] else if a.found=true then sl encSl a.sel else sl encSl [],vi (if e≠0 then e else if a.found=true then 0 else 17)]):=by
 refine Ps pl16 Tryz.func16 rfl (Nz rfl) ?_;refine Yi ?_ ?_
 ·exact Nz rfl
 refine Xi .pure (Xi _ (Yi h ?_));refine Yi ?_ ?_
 ·exact Nz rfl
 refine Yi (fun he=>?_) (fun he=>?_)
 ·have he:¬ e=0:=he;have e1:AV.tup [sl encSl [],vi e]=.tup [if e≠0 then sl encSl [] else if a.found=true then sl encSl a.sel else sl encSl [],vi (if e≠0 then e else if a.found=true then 0 else 17)]:=by rw [if_pos he,if_pos he]
  exact (show Sub (.tup [.v (.slice none 0 0),vi e]) (.tup [sl encSl ([]:List Sl),vi e]) from Sub.tup ⟨.nil,.refl _,trivial⟩).trans (.of_eq e1)
 ·have he:e=0:=Classical.not_not.1 he;have hne:¬ e≠0:=fun h=>h he;refine Yi (fun hb=>?_) (fun hb=>?_)
  ·have hb:a.found=true:=hb;have e1:AV.tup [sl encSl a.sel,vi 0]=.tup [if e≠0 then sl encSl [] else if a.found=true then sl encSl a.sel else sl encSl [],vi (if e≠0 then e else if a.found=true then 0 else 17)]:=by rw [if_neg hne,if_neg hne,if_pos hb,if_pos hb]
   exact .of_eq e1
  ·have hb:a.found=false:=hb;have hb:¬ a.found=true:=by rw [hb]; decide
   have e1:AV.tup [sl encSl [],vi 17]=.tup [if e≠0 then sl encSl [] else if a.found=true then sl encSl a.sel else sl encSl [],vi (if e≠0 then e else if a.found=true then 0 else 17)]:=by rw [if_neg hne,if_neg hne,if_neg hb,if_neg hb]
   exact (show Sub (.tup [.v (.slice none 0 0),vi 17]) (.tup [sl encSl ([]:List Sl),vi 17]) from Sub.tup ⟨.nil,.refl _,trivial⟩).trans (.of_eq e1)
theorem s16 (x:List Rl) (ifs:List (List AV)) (roots:List Rq) (hx:∀ r ∈ x,FewR r) (hr:∀ q ∈ roots,FewQ q):PC 16 [ixV x ifs,sl encRq roots] (.tup [sl encSl (selA x roots),vi (selE x roots)]):=by
 have h:=s16_of x ifs roots _ _ (s21 x ifs roots hx hr);have e1:(if solveE x roots≠0 then sl encSl [] else if (solveA x roots).found=true then sl encSl (solveA x roots).sel else sl encSl [])=sl encSl (selA x roots):=by
  unfold selA selE
  by_cases h1:solveE x roots=0
  ·by_cases h2:(solveA x roots).found=true
   ·simp [h1,h2]
   ·simp [h1,h2]
  ·simp [h1]
 have e2:(if solveE x roots≠0 then solveE x roots else if (solveA x roots).found=true then 0 else 17)=selE x roots:=rfl;rw [e1,e2] at h;exact h
end Go.Eng

namespace Go.Eng
open Go.Proofs
abbrev ID9:Ren:=[(1000,1000),(1001,1001),(1002,1002),(1003,1003),(1004,1004),(1005,1005),(1006,1006),(1007,1007),(1008,1008)]
abbrev encLs (l:List Sl):List AV:=[sl encSl l]
abbrev caps63 (yl:Nat):List AV:=[.ref 1005 0,.cptr [.v (.func (.yield yl) #[] #[])],.ref 1006 0]
abbrev vH (roots:List Rq) (C A:List (Value × AV)) (yl:Nat) (dec:List Cd) (out:List (List Sl)):List (Nat × HO) :=
 [(1000,.cells (srC roots C A ss0 dec 0)),(1001,.tok 6 0),(1002,.tok 1 0),(1003,.map shN []),(1004,.arr 1 []),(1005,.cells [.ref 1000 0]),(1006,.cells [.clo 63 (caps63 yl)]),(1007,.cells [.slice (.id 1008 1) (out.map encLs)]),(1008,.tok 1 out.length)]
noncomputable abbrev cxv (pl:Pol) (l:Nat) (Y:Gh→World→Prop):Cx:=⟨Tryz.prog,tab,pl,true,0,fun l' σ' g w=>l'=l→σ'=ID9→Y g w⟩
abbrev StY (H:List (Nat × HO)) (Y:Gh→World→Prop):Prop:=∀ g w h' g' w',Inv w g (heapOf H hfree) (heapOf H hfree) g w→Inv w g (heapOf H hfree) h' g' w'→Le (heapOf H hfree) g w h' g' w'→Y g w→Y (ghFwd ID9 g') w'
abbrev lfS (l:List (List Cd)):List (List Sl):=l.map fun d=>sortP (keysC d)
abbrev lvC (x:List Rl) (roots:List Rq) (n:Nat) (dec:List Cd) (N:List Nd) (c:Cd):List (List Cd):=if okC dec N c then leaves x roots n (dec++[c]) else []
structure LvV (x:List Rl) (roots:List Rq) (C A:List (Value × AV)) (Y:Gh→World→Prop) (yl M n:Nat) (dec:List Cd) (p:ByteArray) (n0:Nd) (l:List Nd) (cs:List Cd):Prop where
 hdl:dec.length≤256
 hcl:cs.length≤256
 hnl:Few (n0 :: l)
 hnq:∀ n ∈ n0 :: l,Few n.rq.set
 hcr:∀ (i:Nat) (h:i<cs.length),cs[i].rel.reqs.length≤1073741824
 hcs_:∀ (i:Nat) (h:i<cs.length),∀ q ∈ cs[i].rel.reqs,Few q.set
 hkey:∀ (i:Nat) (h:i<cs.length),(keysC dec).map encSl++[[vs p,vi cs[i].rel.ver.a,vi cs[i].rel.ver.b,vi cs[i].rel.ver.c]]=(keysC (dec++[cs[i]])).map encSl
 ih:∀ (i:Nat) (h:i<cs.length),okC dec (n0 :: l) cs[i]=true→∀ (out:List (List Sl)),out.length+(leaves x roots n (dec++[cs[i]])).length≤M →
  ACallY Tryz.prog Y 63 (caps63 yl) (heapOf (vH roots C A yl (dec++[cs[i]]) out) hfree) fun r h'=>r=vb true∧h'=heapOf (vH roots C A yl (dec++[cs[i]]) (out++lfS (leaves x roots n (dec++[cs[i]])))) hfree
def upTo (f:Cd→List (List Cd)) (cs:List Cd) (i:Nat):List (List Cd):=((cs.take i).map f).flatten
theorem upTo_zero (f:Cd→List (List Cd)) (cs:List Cd):upTo f cs 0=[]:=rfl
theorem upTo_succ {f:Cd→List (List Cd)} {cs:List Cd} {i:Nat} (h:i<cs.length):upTo f cs (i+1)=upTo f cs i++f cs[i]:=by
 unfold upTo;rw [List.take_succ_eq_append_getElem h,List.map_append,List.flatten_append]; simp
theorem upTo_len (f:Cd→List (List Cd)) (cs:List Cd) (i:Nat):(upTo f cs i).length≤(upTo f cs cs.length).length:=by
 unfold upTo;rw [List.take_length]
 have:cs=cs.take i++cs.drop i:=(List.take_append_drop i cs).symm
 conv=>rhs; rw [this,List.map_append,List.flatten_append,List.length_append]
 omega
theorem upTo_no {f:Cd→List (List Cd)} {cs:List Cd} {i:Nat} (h:i<cs.length) (hf:f cs[i]=[]):upTo f cs (i+1)=upTo f cs i:=by rw [upTo_succ h,hf,List.append_nil]
theorem s67 (n:Nd) (c:Cd) (hq:Few n.rq.set):PC 67 [.agg (encNd n),.cptr (encCd c)] (vb (!has n.rq.set c.place)):=by
 refine Ps ⟨[2],[],[],[],[],[],[],[],[],[],[]⟩ Tryz.func67 rfl (Nz rfl) ?_;refine Or.elim (Bt (has n.rq.set c.place)) (fun h1=>?_) (fun h1=>?_)
 ·have h1:(has n.rq.set c.place)=true:=h1;have hc2:=(c87 n.rq.set c.place hq);rw [show (has n.rq.set c.place)=true from h1] at hc2;refine Xi .pure (Xi _ (Yi hc2 ?_));exact .of_eq (show vb false=vb (!has n.rq.set c.place) by rw [h1]; rfl)
 have h1:(has n.rq.set c.place)=false:=h1;have hc4:=(c87 n.rq.set c.place hq);rw [show (has n.rq.set c.place)=false from h1] at hc4;refine Xi .pure (Xi _ (Yi hc4 ?_));exact .of_eq (show vb true=vb (!has n.rq.set c.place) by rw [h1]; rfl)
end Go.Eng

namespace Go.Eng
open Go.Proofs
theorem ok_of {dec:List Cd} {N:List Nd} {c:Cd} (h1:(N.any fun n=>!has n.rq.set c.place)=false) (h2:clashN dec c=none):okC dec N c=true :=
 okC_iff.2 ⟨fun n hn=>by have:=List.any_eq_false.1 h1 n hn; simpa using this,h2⟩
theorem lv_miss {x:List Rl} {roots:List Rq} {n:Nat} {dec:List Cd} {N:List Nd} {c:Cd} (h:(N.any fun n=>!has n.rq.set c.place)=true):lvC x roots n dec N c=[]:=by
 unfold lvC;rw [if_neg];intro hc;obtain ⟨m,h1,h2⟩:=List.any_eq_true.1 h
 have:=(okC_iff.1 hc).1 m h1
 rw [this] at h2; cases h2
theorem lv_clash {x:List Rl} {roots:List Rq} {n:Nat} {dec:List Cd} {N:List Nd} {c:Cd} {m:Nd} (h:clashN dec c=some m):lvC x roots n dec N c=[]:=by
 unfold lvC;rw [if_neg];intro hc
 have:=(okC_iff.1 hc).2
 rw [this] at h; cases h
set_option maxHeartbeats 16000000 in
theorem s63a (x:List Rl) (roots:List Rq) (C A:List (Value × AV)) (Y:Gh→World→Prop) (yl M n:Nat) (dec:List Cd) (out:List (List Sl)) (p:ByteArray) (n0:Nd) (l:List Nd) (cs:List Cd) (hL:LvV x roots C A Y yl M n dec p n0 l cs) (hst:StY (vH roots C A yl dec out) Y)
  (hc64:ACall Tryz.prog 64 [.ref 1000 0] (heapOf (srH roots C A ss0 dec []) hfree) fun r h'=>r=.tup [vs p,sl encNd (n0 :: l)]∧h'=heapOf (srH roots C A ss0 dec []) hfree)
  (hC1:∀ a,(Value.string p,a) ∈ C→a=sl encCd cs) (hC2:¬ ∀ a,(Value.string p,a) ∉ C) (hlvs:leaves x roots (n+1) dec=upTo (lvC x roots n dec (n0 :: l)) cs cs.length) (hM:out.length+(upTo (lvC x roots n dec (n0 :: l)) cs cs.length).length≤M) :
  ACallY Tryz.prog Y 63 (caps63 yl) (heapOf (vH roots C A yl dec out) hfree) fun r h'=>r=vb true∧h'=heapOf (vH roots C A yl dec (out++lfS (leaves x roots (n+1) dec))) hfree:=by
 obtain ⟨hdl,hcl,hnl,hnq,hcr,hcs_,hkey,ih⟩:=hL;have hdl:dec.length≤256:=hdl;have hcl:cs.length≤256:=hcl;refine acally_of (l:=yl) (cxv ⟨[8],[],[],[],[],[],[],[],[(63,3),(71,3)],[],[1,2,4,6,8,9,10,11,12,13,14,15,16,17]⟩ yl Y) ID9 ID9 rfl tab_ok hm rfl Tryz.func63 (by kernel_rfl) rfl (Nz rfl) (by kernel_rfl) rfl rfl hst ?_;refine Xi ⟨[(0,.ref 1005 0),(1,.cptr [.v (.func (.yield yl) #[] #[])]),(2,.ref 1006 0)],[(1000,.cells (srC roots C A ss0 dec 0)),(1001,.tok 6 0),(1002,.tok 1 0),(1003,.map shN []),(1004,.arr 1 []),(1005,.cells [.ref 1000 0]),(1006,.cells [.clo 63 [.ref 1005 0,.cptr [.v (.func (.yield yl) #[] #[])],.ref 1006 0]]),(1007,.cells [.slice (.id 1008 1) (out.map encLs)]),(1008,.tok 1 out.length)],hfree⟩ (Yi ⟨Z3,Z9,Fh,ext_dec (by kernel_rfl)⟩ ?_)
 refine Xi (.gen ID5 0) (Yi rfl (ACall.imp hc64 ?_));intro v1 g1 q1;have q1a:=q1.1;have q1b:=q1.2;subst q1a;subst q1b;refine Xi ⟨[(0,.ref 1005 0),(1,.cptr [.v (.func (.yield yl) #[] #[])]),(2,.ref 1006 0),(4,vs p),(5,sl encNd (n0 :: l))],[(1000,.cells (srC roots C A ss0 dec 0)),(1001,.tok 6 0),(1002,.tok 1 0),(1003,.map shN []),(1004,.arr 1 []),(1005,.cells [.ref 1000 0]),(1006,.cells [.clo 63 [.ref 1005 0,.cptr [.v (.func (.yield yl) #[] #[])],.ref 1006 0]]),(1007,.cells [.slice (.id 1008 1) (out.map encLs)]),(1008,.tok 1 out.length)],hfree⟩ (Yi ⟨Z5,Z9,Fh,ext_dec (by kernel_rfl)⟩ ?_)
 refine Yi (fun h2=>?_) (fun h2=>?_)
 ·have h2:(((n0 :: l).map encNd).length:Int)=(0:Int):=h2;exact absurd h2 (by simp; omega)
 have h2:¬ ((((n0 :: l).map encNd).length:Int)=(0:Int)):=h2;refine Xi ⟨[(0,.ref 1005 0),(2,.ref 1006 0),(4,vs p),(5,sl encNd (n0 :: l))],[(1000,.cells (srC roots C A ss0 dec 0)),(1001,.tok 6 0),(1002,.tok 1 0),(1003,.map shN []),(1004,.arr 1 []),(1005,.cells [.ref 1000 0]),(1006,.cells [.clo 63 [.ref 1005 0,.cptr [.v (.func (.yield yl) #[] #[])],.ref 1006 0]]),(1007,.cells [.slice (.id 1008 1) (out.map encLs)]),(1008,.tok 1 out.length)],hfree⟩ (Yi ⟨Z4,Z9,Fh,ext_dec (by kernel_rfl)⟩ ?_)
 refine Yi (fun a ha=>?_) (fun hno=>?_)
 ·have ea:=hC1 a ha;subst ea;refine Xi {q:Nat × List (List Sl) // q.1≤cs.length∧q.2=out++lfS (upTo (lvC x roots n dec (n0 :: l)) cs q.1)} (Xi (fun q=>⟨[(0,.ref 1005 0),(2,.ref 1006 0),(4,vs p),(5,sl encNd (n0 :: l)),(37,sl encCd cs),(38,vi (cs.map encCd).length),(39,vi q.1.1)],[(1000,.cells (srC roots C A ss0 dec 0)),(1001,.tok 6 0),(1002,.tok 1 0),(1003,.map shN []),(1004,.arr 1 []),(1005,.cells [.ref 1000 0]),(1006,.cells [.clo 63 [.ref 1005 0,.cptr [.v (.func (.yield yl) #[] #[])],.ref 1006 0]]),(1007,.cells [.slice (.id 1008 1) (q.1.2.map encLs)]),(1008,.tok 1 q.1.2.length)],hfree⟩) (Xi (fun q=>cs.length - q.1.1) (Yi (Xi ⟨(0,out),Nat.zero_le _,by rw [upTo_zero]; simp⟩ ?_) ?_)))
  ·exact ⟨Z7,Z9,Fh,ext_dec (by kernel_rfl)⟩
  intro ⟨⟨i,o⟩,j1,j2⟩;have j1:i≤cs.length:=j1;have j2:o=out++lfS (upTo (lvC x roots n dec (n0 :: l)) cs i):=j2;refine Yi (fun h3=>?_) (fun h3=>?_)
  ·have h3:(i:Int)<((cs.map encCd).length:Int):=h3;have n3:i<cs.length:=by have q:=h3; rw [Lm] at q; omega
   have g3:cs[i]?=some cs[i]:=Ge n3;refine Xi ⟨[(0,.ref 1005 0),(2,.ref 1006 0),(4,vs p),(5,sl encNd (n0 :: l)),(37,sl encCd cs),(38,vi (cs.map encCd).length),(39,vi i)],[(1000,.cells (srC roots C A ss0 dec 0)),(1001,.tok 6 0),(1002,.tok 1 0),(1003,.map shN []),(1004,.arr 1 []),(1005,.cells [.ref 1000 0]),(1006,.cells [.clo 63 (caps63 yl)]),(1007,.cells [.slice (.id 1008 1) (o.map encLs)]),(1008,.tok 1 o.length)],hfree⟩ (Yi ⟨Z7,Z9,Fh,ext_dec (by kernel_rfl)⟩ ?_)
   refine Xi (encCd cs[i]) (Yi (Yi (Nn i) (map_at g3)) (Yi rfl ?_));refine Yi (Nz rfl) ?_;refine Yi (Nz rfl) ?_;refine Xi ⟨[(0,.ref 1005 0),(2,.ref 1006 0),(4,vs p),(5,sl encNd (n0 :: l)),(8,.ref 8 0),(37,sl encCd cs),(38,vi (cs.map encCd).length),(39,vi i)],[(8,.ro (encCd cs[i])),(1000,.cells (srC roots C A ss0 dec 0)),(1001,.tok 6 0),(1002,.tok 1 0),(1003,.map shN []),(1004,.arr 1 []),(1005,.cells [.ref 1000 0]),(1006,.cells [.clo 63 (caps63 yl)]),(1007,.cells [.slice (.id 1008 1) (o.map encLs)]),(1008,.tok 1 o.length)],hfree⟩ (Yi ⟨Z8,Z10,Fh,ext_dec (by kernel_rfl)⟩ ?_)
   have hc66:=s66 (fF:=67) (caps:=[.cptr (encCd cs[i])]) (fun c hc=>by obtain rfl:=List.mem_singleton.1 hc; intro h; rfl) (n0 :: l) (fun n=>!has n.rq.set cs[i].place) (fun n hn=>s67 n cs[i] (hnq n hn)) hnl;refine Or.elim (Bt ((n0 :: l).any fun n=>!has n.rq.set cs[i].place)) (fun h4=>?_) (fun h4=>?_)
   ·skip
    rw [h4] at hc66;refine Xi .pure (Xi _ (Yi hc66 ?_));refine Yi (Ii i (by omega)) ?_;have hno:lvC x roots n dec (n0 :: l) cs[i]=[]:=lv_miss h4;refine Xi ⟨(i+1,o),Nat.succ_le_of_lt n3,by rw [j2,upTo_no n3 hno]⟩ ?_;exact ⟨Dl cs.length i (by omega),Z7,Z9,Fh,ext_dec (by kernel_rfl)⟩
   skip
   rw [h4] at hc66;refine Xi .pure (Xi _ (Yi hc66 ?_));refine Xi ⟨[(0,.ref 1005 0),(2,.ref 1006 0),(4,vs p),(5,sl encNd (n0 :: l)),(8,.ref 8 0),(37,sl encCd cs),(38,vi (cs.map encCd).length),(39,vi i)],[(8,.ro (encCd cs[i])),(1000,.cells (srC roots C A ss0 dec 0)),(1001,.tok 6 0),(1002,.tok 1 0),(1003,.map shN []),(1004,.arr 1 []),(1005,.cells [.ref 1000 0]),(1006,.cells [.clo 63 (caps63 yl)]),(1007,.cells [.slice (.id 1008 1) (o.map encLs)]),(1008,.tok 1 o.length)],hfree⟩ (Yi ⟨Z8,Z10,Fh,ext_dec (by kernel_rfl)⟩ ?_)
   refine Yi (Nz rfl) ?_;have hc69:=s69 roots C A ss0 dec [] cs[i] (by omega) (hcr i n3) (hcs_ i n3);refine Or.elim (opt_or (clashN dec cs[i])) (fun h6=>?_) (fun h6=>?_)
   ·refine Exists.elim h6 (fun nc h6=>?_);have eW:clV (clashN dec cs[i])=.tup [.agg (encNd nc),vb true]:=by rw [h6]; rfl
    rw [eW] at hc69;refine Xi (.gen ID5 0) (Yi rfl (ACall.imp hc69 ?_));intro v7 g7 q7;have q7a:=q7.1;have q7b:=q7.2;subst q7a;subst q7b;refine Yi (Nz rfl) ?_;refine Xi ⟨[(0,.ref 1005 0),(2,.ref 1006 0),(4,vs p),(5,sl encNd (n0 :: l)),(8,.ref 8 0),(10,vb true),(37,sl encCd cs),(38,vi (cs.map encCd).length),(39,vi i)],[(8,.ro (encCd cs[i])),(1000,.cells (srC roots C A ss0 dec 0)),(1001,.tok 6 0),(1002,.tok 1 0),(1003,.map shN []),(1004,.arr 1 []),(1005,.cells [.ref 1000 0]),(1006,.cells [.clo 63 (caps63 yl)]),(1007,.cells [.slice (.id 1008 1) (o.map encLs)]),(1008,.tok 1 o.length)],hfree⟩ (Yi ⟨Z9,Z10,Fh,ext_dec (by kernel_rfl)⟩ ?_)
    refine Yi (Ii i (by omega)) ?_;have hno:lvC x roots n dec (n0 :: l) cs[i]=[]:=lv_clash h6;refine Xi ⟨(i+1,o),Nat.succ_le_of_lt n3,by rw [j2,upTo_no n3 hno]⟩ ?_;exact ⟨Dl cs.length i (by omega),Z7,Z9,Fh,ext_dec (by kernel_rfl)⟩
   skip
   have eW:clV (clashN dec cs[i])=.tup [.agg [vs ⟨#[]⟩,.v (.slice none 0 0),vs ⟨#[]⟩,vi 0,vi 0],vb false]:=by rw [h6]; rfl
   rw [eW] at hc69;refine Xi (.gen ID5 0) (Yi rfl (ACall.imp hc69 ?_));intro v9 g9 q9;have q9a:=q9.1;have q9b:=q9.2;subst q9a;subst q9b;refine Yi (Nz rfl) ?_;refine Xi ⟨[(0,.ref 1005 0),(2,.ref 1006 0),(4,vs p),(5,sl encNd (n0 :: l)),(8,.ref 8 0),(10,vb false),(37,sl encCd cs),(38,vi (cs.map encCd).length),(39,vi i)],[(8,.ro (encCd cs[i])),(1000,.cells (srC roots C A ss0 dec 0)),(1001,.tok 6 0),(1002,.tok 1 0),(1003,.map shN []),(1004,.arr 1 []),(1005,.cells [.ref 1000 0]),(1006,.cells [.clo 63 (caps63 yl)]),(1007,.cells [.slice (.id 1008 1) (o.map encLs)]),(1008,.tok 1 o.length)],hfree⟩ (Yi ⟨Z9,Z10,Fh,ext_dec (by kernel_rfl)⟩ ?_)
   refine Xi ⟨[(0,.ref 1005 0),(2,.ref 1006 0),(4,vs p),(5,sl encNd (n0 :: l)),(8,.ref 8 0),(37,sl encCd cs),(38,vi (cs.map encCd).length),(39,vi i)],[(8,.ro (encCd cs[i])),(1000,.cells (srC roots C A ss0 dec 0)),(1001,.tok 6 0),(1002,.tok 1 0),(1003,.map shN []),(1004,.arr 1 []),(1005,.cells [.ref 1000 0]),(1006,.cells [.clo 63 (caps63 yl)]),(1007,.cells [.slice (.id 1008 1) (o.map encLs)]),(1008,.tok 1 o.length)],hfree⟩ (Yi ⟨Z8,Z10,Fh,ext_dec (by kernel_rfl)⟩ ?_)
   refine Yi (by kernel_rfl) ?_;refine Xi ⟨[(0,.ref 1005 0),(2,.ref 1006 0),(4,vs p),(5,sl encNd (n0 :: l)),(8,.ref 8 0),(11,sl encCd dec),(12,sl encSl (keysC dec)),(37,sl encCd cs),(38,vi (cs.map encCd).length),(39,vi i)],[(8,.ro (encCd cs[i])),(1000,.cells (srC roots C A ss0 dec 0)),(1001,.tok 6 0),(1002,.tok 1 0),(1003,.map shN []),(1004,.arr 1 []),(1005,.cells [.ref 1000 0]),(1006,.cells [.clo 63 (caps63 yl)]),(1007,.cells [.slice (.id 1008 1) (o.map encLs)]),(1008,.tok 1 o.length)],hfree⟩ (Yi ⟨Z10,Z10,Fh,ext_dec (by kernel_rfl)⟩ ?_)
   refine Xi _ (Xi _ (Yi (by kernel_rfl) (Yi (s70t dec (by unfold Few; omega)) ?_)));refine Yi (Nz rfl) ?_;have b10:AllLen 10 [(encCd cs[i])]∧(dec.map encCd).length=(dec.map encCd).length∧((dec.map encCd).length+([(encCd cs[i])]:List (List AV)).length)*128≤140737488355328∧(dec.map encCd).length+([(encCd cs[i])]:List (List AV)).length≤9223372036854775807:=⟨⟨rfl,trivial⟩,rfl,(by simp only [Lm,List.length_cons,List.length_nil]; omega),(by simp only [Lm,List.length_cons,List.length_nil]; omega)⟩;refine Yi b10 ?_;refine Yi (Nz rfl) ?_;refine Yi (by kernel_rfl) ?_;refine Xi ⟨[(0,.ref 1005 0),(2,.ref 1006 0),(4,vs p),(5,sl encNd (n0 :: l)),(8,.ref 8 0),(11,sl encCd dec),(12,sl encSl (keysC dec)),(37,sl encCd cs),(38,vi (cs.map encCd).length),(39,vi i)],[(8,.ro (encCd cs[i])),(1000,.cells [sl encRq roots,.cmap shS C,.cmap shS A,.slice (.id 1001 6) (([]:List Nf).map encNf),.slice (.id 1002 1) (([]:List (List Tm)).map encInc),.mref 1003,vb ss0.full,.slice (.id 16300 10) ((dec.map encCd)++[(encCd cs[i])]),sl encSl (keysC dec),.msl 1004 0]),(1001,.tok 6 0),(1002,.tok 1 0),(1003,.map shN []),(1004,.arr 1 []),(1005,.cells [.ref 1000 0]),(1006,.cells [.clo 63 [.ref 1005 0,.cptr [.v (.func (.yield yl) #[] #[])],.ref 1006 0]]),(1007,.cells [.slice (.id 1008 1) (o.map encLs)]),(1008,.tok 1 o.length),(16300,.tok 10 ((dec.map encCd).length+([(encCd cs[i])]:List (List AV)).length))],hfree⟩ (Yi ⟨Z10,Z11,Fh,ext_dec (by kernel_rfl)⟩ ?_)
   refine Xi _ (Xi _ (Yi (by kernel_rfl) (Yi (c32t (keysC dec) (by unfold Few keysC; rw [Lm]; omega)) ?_)));refine Yi (Nz rfl) ?_;have b11:AllLen 4 [[vs p,vi cs[i].rel.ver.a,vi cs[i].rel.ver.b,vi cs[i].rel.ver.c]]∧((keysC dec).map encSl).length=((keysC dec).map encSl).length∧(((keysC dec).map encSl).length+([[vs p,vi cs[i].rel.ver.a,vi cs[i].rel.ver.b,vi cs[i].rel.ver.c]]:List (List AV)).length)*40≤140737488355328∧((keysC dec).map encSl).length+([[vs p,vi cs[i].rel.ver.a,vi cs[i].rel.ver.b,vi cs[i].rel.ver.c]]:List (List AV)).length≤9223372036854775807:=⟨⟨rfl,trivial⟩,rfl,(by simp only [Lm,List.length_cons,List.length_nil]; omega),(by simp only [Lm,List.length_cons,List.length_nil]; omega)⟩;refine Yi b11 ?_;refine Yi (Nz rfl) ?_;refine Yi (by kernel_rfl) ?_;refine Xi ⟨[(0,.ref 1005 0),(2,.ref 1006 0),(4,vs p),(5,sl encNd (n0 :: l)),(11,sl encCd dec),(12,sl encSl (keysC dec)),(37,sl encCd cs),(38,vi (cs.map encCd).length),(39,vi i)],[(1000,.cells [sl encRq roots,.cmap shS C,.cmap shS A,.slice (.id 1001 6) (([]:List Nf).map encNf),.slice (.id 1002 1) (([]:List (List Tm)).map encInc),.mref 1003,vb ss0.full,.slice (.id 16300 10) ((dec++[cs[i]]).map encCd),.slice (.id 17100 4) ((keysC (dec++[cs[i]])).map encSl),.msl 1004 0]),(1001,.tok 6 0),(1002,.tok 1 0),(1003,.map shN []),(1004,.arr 1 []),(1005,.cells [.ref 1000 0]),(1006,.cells [.clo 63 [.ref 1005 0,.cptr [.v (.func (.yield yl) #[] #[])],.ref 1006 0]]),(1007,.cells [.slice (.id 1008 1) (o.map encLs)]),(1008,.tok 1 o.length),(16300,.tok 10 ((dec++[cs[i]]).map encCd).length),(17100,.tok 4 ((keysC (dec++[cs[i]])).map encSl).length)],hfree⟩ (Yi ⟨Z9,⟨⟨(show (.cells [sl encRq roots,.cmap shS C,.cmap shS A,.slice (.id 1001 6) (([]:List Nf).map encNf),.slice (.id 1002 1) (([]:List (List Tm)).map encInc),.mref 1003,vb ss0.full,.slice (.id 16300 10) ((dec.map encCd)++[(encCd cs[i])]),.slice (.id 17100 4) (((keysC dec).map encSl)++[[vs p,vi cs[i].rel.ver.a,vi cs[i].rel.ver.b,vi cs[i].rel.ver.c]]),.msl 1004 0]:HO)=.cells [sl encRq roots,.cmap shS C,.cmap shS A,.slice (.id 1001 6) (([]:List Nf).map encNf),.slice (.id 1002 1) (([]:List (List Tm)).map encInc),.mref 1003,vb ss0.full,.slice (.id 16300 10) ((dec++[cs[i]]).map encCd),.slice (.id 17100 4) ((keysC (dec++[cs[i]])).map encSl),.msl 1004 0] by rw [hkey i n3]; simp),rfl⟩,Zr,Zr,Zr,Zr,Zr,Zr,Zr,Zr,⟨(show (.tok 10 ((dec.map encCd).length+([(encCd cs[i])]:List (List AV)).length):HO)=.tok 10 ((dec++[cs[i]]).map encCd).length by simp),rfl⟩,⟨(show (.tok 4 (((keysC dec).map encSl).length+([[vs p,vi cs[i].rel.ver.a,vi cs[i].rel.ver.b,vi cs[i].rel.ver.c]]:List (List AV)).length):HO)=.tok 4 ((keysC (dec++[cs[i]])).map encSl).length by rw [← hkey i n3,List.length_append]),rfl⟩,Tv⟩,Fh,ext_dec (by kernel_rfl)⟩ ?_)
   have hok:okC dec (n0 :: l) cs[i]=true:=ok_of h4 h6;have hlv:lvC x roots n dec (n0 :: l) cs[i]=(leaves x roots n (dec++[cs[i]])):=by unfold lvC; rw [if_pos hok]
   have hup:upTo (lvC x roots n dec (n0 :: l)) cs (i+1)=upTo (lvC x roots n dec (n0 :: l)) cs i++(leaves x roots n (dec++[cs[i]])):=by rw [upTo_succ n3,hlv]
   have hM2:o.length+(leaves x roots n (dec++[cs[i]])).length≤M:=by have q:=upTo_len (lvC x roots n dec (n0 :: l)) cs (i+1); rw [hup,List.length_append] at q; rw [j2]; simp only [List.length_append,Lm]; omega
   have hrc:=ih i n3 hok o hM2;refine Xi (.geny ID9 0) (Yi rfl (ACallY.imp (ACallY.pre hrc (fun g w q=>q yl rfl rfl)) ?_));intro v12 g12 q12;have q12a:=q12.1;have q12b:=q12.2;subst q12a;subst q12b;refine Xi ⟨[(0,.ref 1005 0),(2,.ref 1006 0),(4,vs p),(5,sl encNd (n0 :: l)),(11,sl encCd dec),(12,sl encSl (keysC dec)),(13,vb true),(37,sl encCd cs),(38,vi (cs.map encCd).length),(39,vi i)],[(1000,.cells [sl encRq roots,.cmap shS C,.cmap shS A,.slice (.id 1001 6) (([]:List Nf).map encNf),.slice (.id 1002 1) (([]:List (List Tm)).map encInc),.mref 1003,vb ss0.full,sl encCd (dec++[cs[i]]),sl encSl (keysC (dec++[cs[i]])),.msl 1004 0]),(1001,.tok 6 0),(1002,.tok 1 0),(1003,.map shN []),(1004,.arr 1 []),(1005,.cells [.ref 1000 0]),(1006,.cells [.clo 63 [.ref 1005 0,.cptr [.v (.func (.yield yl) #[] #[])],.ref 1006 0]]),(1007,.cells [.slice (.id 1008 1) ((o++lfS (leaves x roots n (dec++[cs[i]]))).map encLs)]),(1008,.tok 1 (o++lfS (leaves x roots n (dec++[cs[i]]))).length)],hfree⟩ (Yi ⟨Z10,Z9,Fh,ext_dec (by kernel_rfl)⟩ ?_)
   refine Yi (Nz rfl) ?_;refine Yi (Nz rfl) ?_;refine Yi (by kernel_rfl) ?_;refine Xi ⟨[(0,.ref 1005 0),(2,.ref 1006 0),(4,vs p),(5,sl encNd (n0 :: l)),(13,vb true),(37,sl encCd cs),(38,vi (cs.map encCd).length),(39,vi i)],[(1000,.cells (srC roots C A ss0 dec 0)),(1001,.tok 6 0),(1002,.tok 1 0),(1003,.map shN []),(1004,.arr 1 []),(1005,.cells [.ref 1000 0]),(1006,.cells [.clo 63 [.ref 1005 0,.cptr [.v (.func (.yield yl) #[] #[])],.ref 1006 0]]),(1007,.cells [.slice (.id 1008 1) ((o++lfS (leaves x roots n (dec++[cs[i]]))).map encLs)]),(1008,.tok 1 (o++lfS (leaves x roots n (dec++[cs[i]]))).length)],hfree⟩ (Yi ⟨Z8,Z9,Fh,ext_dec (by kernel_rfl)⟩ ?_)
   refine Yi (Ii i (by omega)) ?_;refine Xi ⟨(i+1,o++lfS (leaves x roots n (dec++[cs[i]]))),Nat.succ_le_of_lt n3,by rw [hup,j2]; simp⟩ ?_;exact ⟨Dl cs.length i (by omega),Z7,Z9,Fh,ext_dec (by kernel_rfl)⟩
  have h3:¬ ((i:Int)<((cs.map encCd).length:Int)):=h3;have n3:¬ i<cs.length:=by have q:=h3; rw [Lm] at q; omega
  have hj:i=cs.length:=by have q:=h3; rw [Lm] at q; omega
  have eo:o=out++lfS (leaves x roots (n+1) dec):=by rw [j2,hj,← hlvs]
  exact ⟨rfl,congrArg (fun z=>heapOf (vH roots C A yl dec z) hfree) eo⟩
 exact absurd hno hC2
end Go.Eng

namespace Go.Eng
open Go.Proofs
set_option maxHeartbeats 16000000 in
theorem s63b (x:List Rl) (roots:List Rq) (C A:List (Value × AV)) (Y:Gh→World→Prop) (yl M n:Nat) (dec:List Cd) (out:List (List Sl)) (p:ByteArray) (n0:Nd) (l:List Nd) (cs:List Cd) (hL:LvV x roots C A Y yl M n dec p n0 l cs) (hst:StY (vH roots C A yl dec out) Y)
  (hc64:ACall Tryz.prog 64 [.ref 1000 0] (heapOf (srH roots C A ss0 dec []) hfree) fun r h'=>r=.tup [vs p,sl encNd (n0 :: l)]∧h'=heapOf (srH roots C A ss0 dec []) hfree)
  (hcs0:cs=[]) (hC2:∀ a,(Value.string p,a) ∉ C) (hlvs:leaves x roots (n+1) dec=upTo (lvC x roots n dec (n0 :: l)) cs cs.length) (_hM:out.length+(upTo (lvC x roots n dec (n0 :: l)) cs cs.length).length≤M) :
  ACallY Tryz.prog Y 63 (caps63 yl) (heapOf (vH roots C A yl dec out) hfree) fun r h'=>r=vb true∧h'=heapOf (vH roots C A yl dec (out++lfS (leaves x roots (n+1) dec))) hfree:=by
 obtain ⟨hdl,hcl,hnl,hnq,hcr,hcs_,hkey,ih⟩:=hL;have hdl:dec.length≤256:=hdl;have hcl:cs.length≤256:=hcl;refine acally_of (l:=yl) (cxv ⟨[8],[],[],[],[],[],[],[],[],[],[1,2,4,6,8,9,10,11,12,13,14,15,16,17]⟩ yl Y) ID9 ID9 rfl tab_ok hm rfl Tryz.func63 (by kernel_rfl) rfl (Nz rfl) (by kernel_rfl) rfl rfl hst ?_;refine Xi ⟨[(0,.ref 1005 0),(1,.cptr [.v (.func (.yield yl) #[] #[])]),(2,.ref 1006 0)],[(1000,.cells (srC roots C A ss0 dec 0)),(1001,.tok 6 0),(1002,.tok 1 0),(1003,.map shN []),(1004,.arr 1 []),(1005,.cells [.ref 1000 0]),(1006,.cells [.clo 63 [.ref 1005 0,.cptr [.v (.func (.yield yl) #[] #[])],.ref 1006 0]]),(1007,.cells [.slice (.id 1008 1) (out.map encLs)]),(1008,.tok 1 out.length)],hfree⟩ (Yi ⟨Z3,Z9,Fh,ext_dec (by kernel_rfl)⟩ ?_)
 refine Xi (.gen ID5 0) (Yi rfl (ACall.imp hc64 ?_));intro v1 g1 q1;have q1a:=q1.1;have q1b:=q1.2;subst q1a;subst q1b;refine Xi ⟨[(0,.ref 1005 0),(1,.cptr [.v (.func (.yield yl) #[] #[])]),(2,.ref 1006 0),(4,vs p),(5,sl encNd (n0 :: l))],[(1000,.cells (srC roots C A ss0 dec 0)),(1001,.tok 6 0),(1002,.tok 1 0),(1003,.map shN []),(1004,.arr 1 []),(1005,.cells [.ref 1000 0]),(1006,.cells [.clo 63 [.ref 1005 0,.cptr [.v (.func (.yield yl) #[] #[])],.ref 1006 0]]),(1007,.cells [.slice (.id 1008 1) (out.map encLs)]),(1008,.tok 1 out.length)],hfree⟩ (Yi ⟨Z5,Z9,Fh,ext_dec (by kernel_rfl)⟩ ?_)
 refine Yi (fun h2=>?_) (fun h2=>?_)
 ·have h2:(((n0 :: l).map encNd).length:Int)=(0:Int):=h2;exact absurd h2 (by simp; omega)
 have h2:¬ ((((n0 :: l).map encNd).length:Int)=(0:Int)):=h2;refine Xi ⟨[(0,.ref 1005 0),(2,.ref 1006 0),(4,vs p),(5,sl encNd (n0 :: l))],[(1000,.cells (srC roots C A ss0 dec 0)),(1001,.tok 6 0),(1002,.tok 1 0),(1003,.map shN []),(1004,.arr 1 []),(1005,.cells [.ref 1000 0]),(1006,.cells [.clo 63 [.ref 1005 0,.cptr [.v (.func (.yield yl) #[] #[])],.ref 1006 0]]),(1007,.cells [.slice (.id 1008 1) (out.map encLs)]),(1008,.tok 1 out.length)],hfree⟩ (Yi ⟨Z4,Z9,Fh,ext_dec (by kernel_rfl)⟩ ?_)
 refine Yi (fun a ha=>?_) (fun hno=>?_)
 ·exact absurd ha (hC2 a)
 refine Xi {q:Nat × List (List Sl) // q.1≤cs.length∧q.2=out++lfS (upTo (lvC x roots n dec (n0 :: l)) cs q.1)} (Xi (fun q=>⟨[(0,.ref 1005 0),(2,.ref 1006 0),(4,vs p),(5,sl encNd (n0 :: l)),(37,.v (.slice none 0 0)),(38,vi 0),(39,vi q.1.1)],[(1000,.cells (srC roots C A ss0 dec 0)),(1001,.tok 6 0),(1002,.tok 1 0),(1003,.map shN []),(1004,.arr 1 []),(1005,.cells [.ref 1000 0]),(1006,.cells [.clo 63 [.ref 1005 0,.cptr [.v (.func (.yield yl) #[] #[])],.ref 1006 0]]),(1007,.cells [.slice (.id 1008 1) (q.1.2.map encLs)]),(1008,.tok 1 q.1.2.length)],hfree⟩) (Xi (fun q=>cs.length - q.1.1) (Yi (Xi ⟨(0,out),Nat.zero_le _,by rw [upTo_zero]; simp⟩ ?_) ?_)))
 ·exact ⟨Z7,Z9,Fh,ext_dec (by kernel_rfl)⟩
 intro ⟨⟨i,o⟩,j1,j2⟩;have j1:i≤cs.length:=j1;have j2:o=out++lfS (upTo (lvC x roots n dec (n0 :: l)) cs i):=j2;refine Yi (fun h3=>?_) (fun h3=>?_)
 ·have h3:(i:Int)<(0:Int):=h3;exact absurd h3 (by have q:=j1; rw [hcs0,List.length_nil] at q; omega)
 have h3:¬ ((i:Int)<(0:Int)):=h3;have hj:i=cs.length:=by have q:=j1; rw [hcs0,List.length_nil] at q; rw [hcs0,List.length_nil]; omega
 have eo:o=out++lfS (leaves x roots (n+1) dec):=by rw [j2,hj,← hlvs]
 exact ⟨rfl,congrArg (fun z=>heapOf (vH roots C A yl dec z) hfree) eo⟩
set_option maxHeartbeats 4000000 in
theorem s63n (x:List Rl) (roots:List Rq) (C A:List (Value × AV)) (Y:Gh→World→Prop) (yl n:Nat) (dec:List Cd) (out:List (List Sl)) (p:ByteArray) (N:List Nd) (hN:N=[]) (hdl:dec.length≤256) (hn:((keysC dec).map (·.path)).Nodup) (hst:StY (vH roots C A yl dec out) Y)
  (hc64:ACall Tryz.prog 64 [.ref 1000 0] (heapOf (srH roots C A ss0 dec []) hfree) fun r h'=>r=.tup [vs p,sl encNd N]∧h'=heapOf (srH roots C A ss0 dec []) hfree)
  (hlv:leaves x roots (n+1) dec=[dec])
  (hy:YCall Tryz.prog Y yl [sl encSl (sortP (keysC dec))] (heapOf (vH roots C A yl dec out) hfree) fun r h'=>r=vb true∧h'=heapOf (vH roots C A yl dec (out++[sortP (keysC dec)])) hfree) :
  ACallY Tryz.prog Y 63 (caps63 yl) (heapOf (vH roots C A yl dec out) hfree) fun r h'=>r=vb true∧h'=heapOf (vH roots C A yl dec (out++lfS (leaves x roots (n+1) dec))) hfree:=by
 have hkf:Few (keysC dec):=by unfold Few keysC; rw [Lm]; omega
 have hsl:(keysC dec).length=((sortP (keysC dec)).map encSl).length:=(sortP_perm (keysC dec)).length_eq.symm.trans (Lm ..).symm;refine acally_of (l:=yl) (cxv ⟨[],[],[],[],[],[],[],[],[],[(200005,6)],[1,2,3,4,5,6,10,11,13,14,15,17]⟩ yl Y) ID9 ID9 rfl tab_ok hm rfl Tryz.func63 (by kernel_rfl) rfl (Nz rfl) (by kernel_rfl) rfl rfl hst ?_;refine Xi ⟨[(0,.ref 1005 0),(1,.cptr [.v (.func (.yield yl) #[] #[])]),(2,.ref 1006 0)],[(1000,.cells (srC roots C A ss0 dec 0)),(1001,.tok 6 0),(1002,.tok 1 0),(1003,.map shN []),(1004,.arr 1 []),(1005,.cells [.ref 1000 0]),(1006,.cells [.clo 63 [.ref 1005 0,.cptr [.v (.func (.yield yl) #[] #[])],.ref 1006 0]]),(1007,.cells [.slice (.id 1008 1) (out.map encLs)]),(1008,.tok 1 out.length)],hfree⟩ (Yi ⟨Z3,Z9,Fh,ext_dec (by kernel_rfl)⟩ ?_)
 refine Xi (.gen ID5 0) (Yi rfl (ACall.imp hc64 ?_));intro v1 g1 q1;have q1a:=q1.1;have q1b:=q1.2;subst q1a;subst q1b;refine Xi ⟨[(0,.ref 1005 0),(1,.cptr [.v (.func (.yield yl) #[] #[])]),(2,.ref 1006 0),(4,vs p),(5,sl encNd N)],[(1000,.cells (srC roots C A ss0 dec 0)),(1001,.tok 6 0),(1002,.tok 1 0),(1003,.map shN []),(1004,.arr 1 []),(1005,.cells [.ref 1000 0]),(1006,.cells [.clo 63 [.ref 1005 0,.cptr [.v (.func (.yield yl) #[] #[])],.ref 1006 0]]),(1007,.cells [.slice (.id 1008 1) (out.map encLs)]),(1008,.tok 1 out.length)],hfree⟩ (Yi ⟨Z5,Z9,Fh,ext_dec (by kernel_rfl)⟩ ?_)
 refine Yi (fun h2=>?_) (fun h2=>?_)
 ·have h2:((N.map encNd).length:Int)=(0:Int):=h2;refine Xi ⟨[(0,.ref 1005 0),(1,.cptr [.v (.func (.yield yl) #[] #[])])],[(1000,.cells (srC roots C A ss0 dec 0)),(1001,.tok 6 0),(1002,.tok 1 0),(1003,.map shN []),(1004,.arr 1 []),(1005,.cells [.ref 1000 0]),(1006,.cells [.clo 63 [.ref 1005 0,.cptr [.v (.func (.yield yl) #[] #[])],.ref 1006 0]]),(1007,.cells [.slice (.id 1008 1) (out.map encLs)]),(1008,.tok 1 out.length)],hfree⟩ (Yi ⟨Z2,Z9,Fh,ext_dec (by kernel_rfl)⟩ ?_)
  refine Xi (.gen [] 1) (Yi rfl (ACall.imp (s46a (keysC dec) hkf) ?_));intro v3 g3 q3;have q3a:=q3.1;have q3b:=q3.2;subst q3a;subst q3b;refine Xi ⟨[(1,.cptr [.v (.func (.yield yl) #[] #[])]),(6,.msl 12600 (keysC dec).length)],[(1000,.cells (srC roots C A ss0 dec 0)),(1001,.tok 6 0),(1002,.tok 1 0),(1003,.map shN []),(1004,.arr 1 []),(1005,.cells [.ref 1000 0]),(1006,.cells [.clo 63 [.ref 1005 0,.cptr [.v (.func (.yield yl) #[] #[])],.ref 1006 0]]),(1007,.cells [.slice (.id 1008 1) (out.map encLs)]),(1008,.tok 1 out.length),(12600,.arr 4 ((keysC dec).map encSl))],hfree⟩ (Yi ⟨Z2,Z10,Fh,ext_dec (by kernel_rfl)⟩ ?_)
  refine Xi (.gen [(12600,1000)] 0) (Yi rfl (ACall.imp (s47 65 Tryz.closure65 (enters_of Tryz.func65 (by kernel_rfl) rfl) (keysC dec) hkf hn) ?_));intro v4 g4 q4;have q4a:=q4.1;have q4b:=q4.2;subst q4a;subst q4b;refine Yi (show (keysC dec).length=((sortP (keysC dec)).map encSl).length from hsl) ?_;refine Xi ⟨[(1,.cptr [.v (.func (.yield yl) #[] #[])]),(6,sl encSl (sortP (keysC dec)))],[(1000,.cells (srC roots C A ss0 dec 0)),(1001,.tok 6 0),(1002,.tok 1 0),(1003,.map shN []),(1004,.arr 1 []),(1005,.cells [.ref 1000 0]),(1006,.cells [.clo 63 [.ref 1005 0,.cptr [.v (.func (.yield yl) #[] #[])],.ref 1006 0]]),(1007,.cells [.slice (.id 1008 1) (out.map encLs)]),(1008,.tok 1 out.length)],hfree⟩ (Yi ⟨Z2,Z9,Fh,ext_dec (by kernel_rfl)⟩ ?_)
  refine Xi (.gen ID9 0) (Yi rfl (YCall.imp (YCall.pre hy (fun g w q=>q rfl rfl)) ?_));intro v5 g5 q5;have q5a:=q5.1;have q5b:=q5.2;subst q5a;subst q5b;exact ⟨rfl,congrArg (fun z=>heapOf (vH roots C A yl dec (out++lfS z)) hfree) hlv.symm⟩
 have h2:¬ (((N.map encNd).length:Int)=(0:Int)):=h2;exact absurd (by rw [hN]; rfl) h2
end Go.Eng

namespace Go.Eng
open Go.Proofs
theorem leaves_nil {x:List Rl} {roots:List Rq} {n:Nat} {dec:List Cd} (h:(nextN roots dec).2=[]):leaves x roots (n+1) dec=[dec]:=by unfold leaves; rw [h]
theorem leaves_cons {x:List Rl} {roots:List Rq} {n:Nat} {dec:List Cd} {n0:Nd} {l:List Nd} (h:(nextN roots dec).2=n0 :: l) :
  leaves x roots (n+1) dec=upTo (lvC x roots n dec (n0 :: l)) (candsP x (nextN roots dec).1) (candsP x (nextN roots dec).1).length:=by
 unfold leaves upTo;rw [h,List.take_length]
theorem s63 {x:List Rl} {roots:List Rq} {C A:List (Value × AV)} {Y:Gh→World→Prop} {yl M:Nat} (hE:Env x roots C A) (hst:∀ dec out,StY (vH roots C A yl dec out) Y)
  (hy:∀ dec out,dec.length≤256→out.length<M→YCall Tryz.prog Y yl [sl encSl (sortP (keysC dec))] (heapOf (vH roots C A yl dec out) hfree) fun r h'=>r=vb true∧h'=heapOf (vH roots C A yl dec (out++[sortP (keysC dec)])) hfree) :
  ∀ (n:Nat) {dec:List Cd} {out:List (List Sl)},DecOk x dec→freeN x dec<n→out.length+(leaves x roots n dec).length≤M →
  ACallY Tryz.prog Y 63 (caps63 yl) (heapOf (vH roots C A yl dec out) hfree) fun r h'=>r=vb true∧h'=heapOf (vH roots C A yl dec (out++lfS (leaves x roots n dec))) hfree
 | 0,_,_,_,h,_=>by omega
 | n+1,dec,out,hd,hn,hM=>by
  have hx:=hE.hx;have hr:=hE.hr;have hxl:=ix_few hx;have hdl:=decC_len hd;have hdl2:dec.length≤256:=by have:=hxl.1; omega
  have hrl:∀ c ∈ dec,c.rel.reqs.length≤16:=fun c hc=>hxl.2 _ (hd.cand c hc).1;have hc64:=s64 roots C A ss0 dec [] (Nat.le_trans (reqs_few hr) (by decide)) (by omega) fun c hc=>Nat.le_trans (hrl c hc) (by decide);obtain ⟨N,hN⟩ : ∃ N,N=(nextN roots dec).2:=⟨_,rfl⟩;obtain ⟨q,hq⟩ : ∃ q,q=(nextN roots dec).1:=⟨_,rfl⟩;rw [← hN,← hq] at hc64;have hNl:N.length≤10000:=by
   have h1:=nextN_len (roots:=roots) dec;have h2:(needsN roots dec).length=(reqsC roots dec).length:=by rw [← needsN_rq,Lm]
   have h3:=flat16 hrl;have h4:=reqs_few hr;rw [← hN] at h1;unfold reqsC at h2;rw [List.length_append] at h2;omega
  cases hNc:N with
  | nil =>
   rw [hNc] at hN hc64;have hlv:=leaves_nil (x:=x) (n:=n) hN.symm;rw [hlv,List.length_singleton] at hM;exact s63n x roots C A Y yl n dec out q [] rfl hdl2 (by rw [keysC_path]; exact hd.nodup) (hst dec out) hc64 hlv (hy dec out hdl2 (by omega))
  | cons n0 l =>
   rw [hNc] at hN hc64;have hNx:=nextN_some hN.symm;have hlv:=leaves_cons (x:=x) (n:=n) hN.symm;rw [← hq] at hNx hlv;have hnd:∀ nd ∈ n0 :: l,nd ∈ needsN roots dec:=fun nd h=>((hNx.mem nd).1 h).1;have few:∀ nd ∈ needsN roots dec,Few nd.rq.set:=fun nd h=>by
    rcases nd_cases h with ⟨k,r,h1,rfl⟩ | ⟨c,hc,k,r,h1,rfl⟩
    ·exact (hE.fr r (List.mem_of_getElem? h1)).1
    ·exact ((hE.fx _ (hd.cand c hc).1).2 r (List.mem_of_getElem? h1)).1
   have hsn:∀ c ∈ candsP x q,DecOk x (dec++[c])∧c.rel.path=q∧c.rel ∈ x:=fun c hc=>by
    obtain ⟨c1,c2⟩:=cand_ok hc;exact ⟨hd.snoc c2 (by rw [c1]; exact hNx.undone),c1,c2.1⟩
   have hget:∀ (i:Nat) (h:i<(candsP x q).length),(candsP x q)[i] ∈ candsP x q:=fun i h=>List.getElem_mem h
   have hL:LvV x roots C A Y yl M n dec q n0 l (candsP x q):={
    hdl:=hdl2
    hcl:=Nat.le_trans (cands_len x q) hxl.1
    hnl:=by rw [hNc] at hNl; unfold Few; omega
    hnq:=fun nd h=>few nd (hnd nd h)
    hcr:=fun i h=>by have:=hxl.2 _ (hsn _ (hget i h)).2.2; omega
    hcs_:=fun i h r hr'=>((hE.fx _ (hsn _ (hget i h)).2.2).2 r hr').1
    hkey:=fun i h=>by
     have b:=(hsn _ (hget i h)).2.1;unfold keysC;rw [List.map_append,List.map_append];show _=_++[[vs (candsP x q)[i].rel.path,vi (candsP x q)[i].rel.ver.a,vi (candsP x q)[i].rel.ver.b,vi (candsP x q)[i].rel.ver.c]];rw [b]
    ih:=fun i h hok out' hM'=>by
     obtain ⟨a,b,c3⟩:=hsn _ (hget i h);obtain ⟨_,c2⟩:=cand_ok (hget i h);have hfr:freeN x (dec++[(candsP x q)[i]])<n:=by have:=freeN_snoc (dec:=dec) ⟨c2.1,c2.2.1⟩ (by rw [b]; exact hNx.undone); omega
     exact s63 hE hst hy n a hfr hM' }
   rw [hlv] at hM
   by_cases hcs:candsP x q=[]
   ·exact s63b x roots C A Y yl M n dec out q n0 l (candsP x q) hL (hst dec out) hc64 hcs (hE.c3 q hcs) hlv hM
   ·exact s63a x roots C A Y yl M n dec out q n0 l (candsP x q) hL (hst dec out) hc64 (hE.c1 q) (fun hc=>hcs (hE.c2 q hc)) hlv hM
end Go.Eng
