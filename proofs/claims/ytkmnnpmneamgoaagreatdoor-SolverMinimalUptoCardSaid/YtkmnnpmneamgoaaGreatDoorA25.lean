/- Lemmas for the claims of this seat, without a condition: part 25 (S8d, S8e, S11, S12, S13, S14, S16, R1, R2, R3, R4, R5, C60, C61, C62, C63, C64, R6, R7, R8, R9, R10, R11, R12, R13, R14, R15, R16, R17, R18, R19, S18, R20, R21, R22, R23, R24, C74, R25, R26, R27, R28, R29, R30, R31). -/
import Derived.Test.YtkmnnpmneamgoaaGreatDoorA24
import Derived.Test.YtkmnnpmneamgoaaGreatDoorA04
namespace Go.Eng
open Go.Proofs
set_option maxHeartbeats 8000000 in
theorem s45b (x:List Rl) (roots:List Rq) (C A:List (Value × AV)) (n:Nat) (s:SS) (dec:List Cd) (st:List (List Sk)) (p:ByteArray) (n0:Nd) (l:List Nd) (V:AV) (cs:List Cd) (R O:SOut) (hL:Lvl x roots C A n dec p n0 l V cs) (hs:SsOk x roots s) (hst:st.length=dec.length)
  (hc64:ACall Tryz.prog 64 [.ref 1000 0] (heapOf (srH roots C A s dec st) hfree) fun r h'=>r=.tup [vs p,sl encNd (n0 :: l)]∧h'=heapOf (srH roots C A s dec st) hfree)
  (hcs0:cs=[]) (hC2:∀ a,(Value.string p,a) ∉ C) (hR:candGo (solveS x roots n) x p (n0 :: l) n0 dec st cs s [] []=R) (hRR:O=R) :
  ACall Tryz.prog 45 [.ref 1000 0] (heapOf (srH roots C A s dec st) hfree) (SolQ roots C A O):=by
 obtain ⟨hx,hr,hdl,hcl,hcs,hnl,hnq,hnp,hex,hcx,hcq,hcp_,hcr,hcs_,hkey,hinf0,⟨hV1,hV2,hV3⟩,ih⟩:=hL;have hdl:dec.length≤256:=hdl;have hcl:cs.length≤256:=hcl;have hst:st.length=dec.length:=hst;have hcm:∀ (i:Nat) (h:i<cs.length),cs[i] ∈ candsP x p:=fun i h=>by rw [← hcs]; exact List.getElem_mem h
 have hkl:∀ (i:Nat) (h:i<cs.length),Few (keysC (dec++[cs[i]])):=fun i h=>by unfold Few keysC; rw [Lm,List.length_append]; simp; omega
 clear hcs
 refine acall_sub (cxe ⟨[9],[(6,1),(7,3),(145,1)],[],[],[],[],[],[],[],[(300001,500091000),(300026,500091000),(300029,500091000)],[1,2,5,10,11,13,14,15,16,17,19,21,22,23,24,25,26,28,29,31,32,33,35]⟩) [(1000,1000),(1001,1001),(1002,1002),(1003,1003),(1004,1004),(500,2000)] rfl tab_ok hm rfl Tryz.func45 (by kernel_rfl) rfl (Nz rfl) (by kernel_rfl) rfl ?_;refine Yi (show st.length=(st.map encSks).length by simp) ?_;refine Xi ⟨[(0,.ref 1000 0)],[(500,.arr 1 (st.map encSks)),(1000,.cells (srM roots C A s dec 500 st.length)),(1001,.tok 6 s.infs.length),(1002,.tok 1 s.drv.length),(1003,.map shN (knL 0 s.infs)),(1004,.dead)],hfree⟩ (Yi ⟨Z1,Z6,Fh,ext_dec (by kernel_rfl)⟩ ?_)
 refine Xi (.gen IDS 0) (Yi rfl (ACall.imp hc64 ?_));intro v1 g1 q1;have q1a:=q1.1;have q1b:=q1.2;subst q1a;subst q1b;refine Xi ⟨[(0,.ref 1000 0),(4,vs p),(5,sl encNd (n0 :: l))],[(500,.arr 1 (st.map encSks)),(1000,.cells (srM roots C A s dec 500 st.length)),(1001,.tok 6 s.infs.length),(1002,.tok 1 s.drv.length),(1003,.map shN (knL 0 s.infs)),(1004,.dead)],hfree⟩ (Yi ⟨Z3,Z6,Fh,ext_dec (by kernel_rfl)⟩ ?_)
 refine Yi (fun h2=>?_) (fun h2=>?_)
 ·have h2:(((n0 :: l).map encNd).length:Int)=(0:Int):=h2;exact absurd h2 (by simp; omega)
 have h2:¬ ((((n0 :: l).map encNd).length:Int)=(0:Int)):=h2;refine Xi ⟨[(0,.ref 1000 0),(4,vs p),(5,sl encNd (n0 :: l)),(6,.slice (.id 6 1) [])],[(6,.tok 1 0),(500,.arr 1 (st.map encSks)),(1000,.cells (srM roots C A s dec 500 st.length)),(1001,.tok 6 s.infs.length),(1002,.tok 1 s.drv.length),(1003,.map shN (knL 0 s.infs)),(1004,.dead)],hfree⟩ (Yi ⟨Z4,Z7,Fh,ext_dec (by kernel_rfl)⟩ ?_)
 refine Yi (fun a ha=>?_) (fun hno=>?_)
 ·exact absurd ha (hC2 a)
 refine Xi {q:Nat × SS × List Nat × List Sk // q.1≤cs.length∧candGo (solveS x roots n) x p (n0 :: l) n0 dec st (cs.drop q.1) q.2.1 q.2.2.1 q.2.2.2=R∧SsOk x roots q.2.1∧(∀ r ∈ q.2.2.1,r<q.2.1.drv.length)∧q.2.2.1.length≤q.1∧q.2.2.2.length≤q.1} (Xi (fun q=>⟨[(0,.ref 1000 0),(4,vs p),(5,sl encNd (n0 :: l)),(6,.slice (.id 6 1) (q.1.2.2.1.map encIn)),(7,.slice (.id 7 3) (q.1.2.2.2.map encSk)),(32,.v (.slice none 0 0)),(33,vi 0),(34,vi q.1.1)],[(6,.tok 1 q.1.2.2.1.length),(7,.tok 3 q.1.2.2.2.length),(500,.arr 1 (st.map encSks)),(1000,.cells (srM roots C A q.1.2.1 dec 500 st.length)),(1001,.tok 6 q.1.2.1.infs.length),(1002,.tok 1 q.1.2.1.drv.length),(1003,.map shN (knL 0 q.1.2.1.infs)),(1004,.dead)],hfree⟩) (Xi (fun q=>cs.length - q.1.1) (Yi (Xi ⟨(0,s,[],[]),Nat.zero_le _,hR,hs,fun r h=>(by cases h),Nat.le_refl _,Nat.le_refl _⟩ ?_) ?_)))
 ·exact ⟨Z8,Z8,Fh,ext_dec (by kernel_rfl)⟩
 intro ⟨⟨i,S,rs,sk⟩,j1,j2,j3,j4,j5,j6⟩;have j1:i≤cs.length:=j1;have j2:candGo (solveS x roots n) x p (n0 :: l) n0 dec st (cs.drop i) S rs sk=R:=j2;have j3:SsOk x roots S:=j3;have j4:∀ r ∈ rs,r<S.drv.length:=j4;have j5:rs.length≤i:=j5;have j6:sk.length≤i:=j6;have hw:=j3.dl;have hft:∀ t ∈ S.drv,FewT t:=fun t ht=>by have q:=j3.der.few hx hr t ht; exact ⟨fewI_few0 q,q.2⟩
 refine Yi (fun h3=>?_) (fun h3=>?_)
 ·have h3:(i:Int)<(0:Int):=h3;exact absurd h3 (by have q:=j1; rw [hcs0,List.length_nil] at q; omega)
 have h3:¬ ((i:Int)<(0:Int)):=h3;refine Xi (encNd n0) (Yi (Yi (show (0:Int)≤0 by decide) rfl) (Yi rfl ?_));refine Yi (Nz rfl) ?_;refine Xi (.gen IDS 0) (Yi rfl (ACall.imp (s91 x roots C A S dec st p n0 rs V hx hr j3 hinf0 j4 (by omega) (hnq n0 (List.mem_cons_self ..)) (hnp n0 (List.mem_cons_self ..)) hV1 hV2 hV3) ?_));intro v4 g4 q4;have q4a:=q4.1;have q4b:=q4.2;subst q4a;subst q4b;have hj:¬ i<cs.length:=by rw [hcs0]; simp
 have eR:R=⟨(learnS x p n0 rs S).1,false,(learnS x p n0 rs S).2,dec,st⟩:=by rw [← j2]; exact cd_end hj
 exact Xi _ (Yi (.refl _) (sol_q (hRR.trans eR)))
set_option maxHeartbeats 4000000 in
theorem s45n (roots:List Rq) (C A:List (Value × AV)) (s:SS) (dec:List Cd) (st:List (List Sk)) (p:ByteArray) (N:List Nd) (O:SOut) (hN:N=[])
  (hc64:ACall Tryz.prog 64 [.ref 1000 0] (heapOf (srH roots C A s dec st) hfree) fun r h'=>r=.tup [vs p,sl encNd N]∧h'=heapOf (srH roots C A s dec st) hfree) (hO:O=⟨0,true,s,dec,st⟩) :
  ACall Tryz.prog 45 [.ref 1000 0] (heapOf (srH roots C A s dec st) hfree) (SolQ roots C A O):=by
 refine acall_sub (cxe ⟨[],[],[],[],[],[],[],[],[],[(300001,500091000)],[1,2,5,10,11,13,14,15,16,17,19,21,22,23,25,28,29,31,32,33,35]⟩) [(1000,1000),(1001,1001),(1002,1002),(1003,1003),(1004,1004),(500,2000)] rfl tab_ok hm rfl Tryz.func45 (by kernel_rfl) rfl (Nz rfl) (by kernel_rfl) rfl ?_;refine Yi (show st.length=(st.map encSks).length by simp) ?_;refine Xi ⟨[(0,.ref 1000 0)],[(500,.arr 1 (st.map encSks)),(1000,.cells (srM roots C A s dec 500 st.length)),(1001,.tok 6 s.infs.length),(1002,.tok 1 s.drv.length),(1003,.map shN (knL 0 s.infs)),(1004,.dead)],hfree⟩ (Yi ⟨Z1,Z6,Fh,ext_dec (by kernel_rfl)⟩ ?_)
 refine Xi (.gen IDS 0) (Yi rfl (ACall.imp hc64 ?_));intro v1 g1 q1;have q1a:=q1.1;have q1b:=q1.2;subst q1a;subst q1b;refine Xi ⟨[(0,.ref 1000 0),(4,vs p),(5,sl encNd N)],[(500,.arr 1 (st.map encSks)),(1000,.cells (srM roots C A s dec 500 st.length)),(1001,.tok 6 s.infs.length),(1002,.tok 1 s.drv.length),(1003,.map shN (knL 0 s.infs)),(1004,.dead)],hfree⟩ (Yi ⟨Z3,Z6,Fh,ext_dec (by kernel_rfl)⟩ ?_)
 refine Yi (fun h2=>?_) (fun h2=>?_)
 ·have h2:((N.map encNd).length:Int)=(0:Int):=h2;exact Xi _ (Yi (.refl _) (sol_q (st:=st) hO))
 have h2:¬ (((N.map encNd).length:Int)=(0:Int)):=h2;exact absurd (by rw [hN]; rfl) h2
end Go.Eng

namespace Go.Eng
open Go.Proofs
section
variable {x:List Rl} {roots:List Rq} {p:ByteArray}
theorem learnGo_nodup:∀ (l:List Nat) {k:Nat} {s:SS},s.infs.Nodup→(learnGo p l k s).2.infs.Nodup
 | [],_,_,h=>h
 | r :: l,k,s,h=>by
  unfold learnGo;split
  ·exact h
  split
  ·exact learnGo_nodup l h
  split
  ·exact learnGo_nodup l h
  ·exact learnGo_nodup l (addI_nodup h)
theorem candGo_nodup {needs:List Nd} {n0:Nd} {dec:List Cd} {st:List (List Sk)} {rec:List Cd→SS→List (List Sk)→SOut} (hrec:∀ c s st,s.infs.Nodup→(rec (dec++[c]) s st).ss.infs.Nodup) :
  ∀ (cs:List Cd) {s:SS} {rs:List Nat} {sk:List Sk},s.infs.Nodup→(candGo rec x p needs n0 dec st cs s rs sk).ss.infs.Nodup
 | [],s,rs,sk,h=>learnGo_nodup _ (addI_nodup (addI_nodup h))
 | c :: cs,s,rs,sk,h=>by
  have aft:∀ (s' : SS) (k:Nat),s'.infs.Nodup→(aftGo rec x p needs n0 dec st c cs rs sk k s').ss.infs.Nodup:=fun s' k h'=>by
   unfold aftGo;split
   ·exact h'
   ·exact candGo_nodup hrec cs h'
  rw [candGo_cons];split
  ·exact h
  cases needs.find? fun n=>!has n.rq.set c.place with
  | some n=>exact candGo_nodup hrec cs (addI_nodup h)
  | none =>
   dsimp only;cases entN s.drv (keysC (dec++[c])) with
   | some k=>exact aft s k h
   | none =>
    dsimp only;cases clashN dec c with
    | some n=>exact aft _ _ (addI_nodup h)
    | none =>
     dsimp only;have h2:=hrec c s (st++[sk]) h;split
     ·exact h2
     split
     ·exact h2
     ·exact aft _ _ h2
theorem solveS_nodup:∀ (n:Nat) {dec:List Cd} {s:SS} {st:List (List Sk)},s.infs.Nodup→(solveS x roots n dec s st).ss.infs.Nodup
 | 0,_,_,_,h=>h
 | n+1,dec,s,st,h=>by
  unfold solveS;cases (nextN roots dec).2 with
  | nil=>exact h
  | cons n0 l=>exact candGo_nodup (fun c s st h=>solveS_nodup n h) _ h
structure Env (x:List Rl) (roots:List Rq) (C A:List (Value × AV)):Prop where
 hx:checkIx x=0
 hr:checkRqs roots=0
 fx:∀ r ∈ x,FewR r
 fr:∀ q ∈ roots,FewQ q
 c1:∀ (p:ByteArray) (a:AV),(Value.string p,a) ∈ C→a=sl encCd (candsP x p)
 c2:∀ p:ByteArray,(∀ a,(Value.string p,a) ∉ C)→candsP x p=[]
 c3:∀ p:ByteArray,candsP x p=[]→∀ a,(Value.string p,a) ∉ C
 av:∀ p:ByteArray,∃ V,HV x A p V
theorem flat16 {dec:List Cd} (h:∀ c ∈ dec,c.rel.reqs.length≤16):((dec.map fun c=>c.rel.reqs).flatten).length≤16*dec.length:=by
 induction dec with
 | nil=>simp
 | cons c dec ih =>
  rw [List.map_cons,List.flatten_cons,List.length_append,List.length_cons]
  have:=h c (List.mem_cons_self ..)
  have:=ih fun d hd=>h d (List.mem_cons_of_mem _ hd)
  omega
theorem plc_in {r:Rl} (h:RlOk r):0≤plc r.ver∧plc r.ver<1000000:=by rw [h.plc]; exact place_in h.val
theorem nextN_len (dec:List Cd):(nextN roots dec).2.length≤(needsN roots dec).length:=by
 rw [nextN_eq];cases nextP (reqsC roots dec) (keysC dec) with
 | none=>simp
 | some q=>exact List.length_filter_le _ _
theorem s45 {C A:List (Value × AV)} (hE:Env x roots C A) (h64:H64 roots C A):∀ (n:Nat) {dec:List Cd} {s:SS} {st:List (List Sk)},DecOk x dec→SatOk roots dec→SsOk x roots s→s.full=false→freeN x dec<n→st.length=dec.length →
  ACall Tryz.prog 45 [.ref 1000 0] (heapOf (srH roots C A s dec st) hfree) (SolQ roots C A (solveS x roots n dec s st))
 | 0,_,_,_,_,_,_,_,h,_=>by omega
 | n+1,dec,s,st,hd,hsat,hs,hf,hn,hst=>by
  have hx:=hE.hx;have hr:=hE.hr;have hxl:=ix_few hx;have hdl:=decC_len hd;have hdl2:dec.length≤256:=by have:=hxl.1; omega
  have hrl:∀ c ∈ dec,c.rel.reqs.length≤16:=fun c hc=>hxl.2 _ (hd.cand c hc).1;have hc64:=h64 s dec st (by omega) fun c hc=>Nat.le_trans (hrl c hc) (by decide);generalize hO:solveS x roots (n+1) dec s st=O;obtain ⟨N,hN⟩ : ∃ N,N=(nextN roots dec).2:=⟨_,rfl⟩;obtain ⟨q,hq⟩ : ∃ q,q=(nextN roots dec).1:=⟨_,rfl⟩;rw [← hN,← hq] at hc64;have hNl:N.length≤10000:=by
   have h1:=nextN_len (roots:=roots) dec;have h2:(needsN roots dec).length=(reqsC roots dec).length:=by rw [← needsN_rq,Lm]
   have h3:=flat16 hrl;have h4:=reqs_few hr;rw [← hN] at h1;unfold reqsC at h2;rw [List.length_append] at h2;omega
  cases hNc:N with
  | nil =>
   rw [hNc] at hN hc64;refine s45n roots C A s dec st q [] O rfl hc64 ?_;rw [← hO];unfold solveS;rw [← hN]
  | cons n0 l =>
   rw [hNc] at hN hc64;have hNx:=nextN_some hN.symm;rw [← hq] at hNx;have hnd:∀ nd ∈ n0 :: l,nd ∈ needsN roots dec:=fun nd h=>((hNx.mem nd).1 h).1;have hok:=(checkIx_ok hx).1;have few:∀ {E:List Cd},DecOk x E→∀ nd ∈ needsN roots E,Few nd.rq.set∧InI64 (nd.place+1):=fun hE' nd h=>by
    rcases nd_cases h with ⟨k,r,h1,rfl⟩ | ⟨c,hc,k,r,h1,rfl⟩
    ·exact ⟨(hE.fr r (List.mem_of_getElem? h1)).1,by unfold InI64; show -9223372036854775808≤(0:Int)+1∧(0:Int)+1<9223372036854775808; decide⟩
    ·have h2:=hE'.cand c hc;have h3:=plc_in (hok _ h2.1);rw [← h2.2.2] at h3;exact ⟨((hE.fx _ h2.1).2 r (List.mem_of_getElem? h1)).1,by unfold InI64; show _≤c.place+1∧c.place+1<_; omega⟩
   have hsn:∀ c ∈ candsP x q,DecOk x (dec++[c])∧c.rel.path=q∧c.rel ∈ x:=fun c hc=>by
    obtain ⟨c1,c2⟩:=cand_ok hc;exact ⟨hd.snoc c2 (by rw [c1]; exact hNx.undone),c1,c2.1⟩
   have hget:∀ (i:Nat) (h:i<(candsP x q).length),(candsP x q)[i] ∈ candsP x q:=fun i h=>List.getElem_mem h;obtain ⟨V,hV⟩:=hE.av q
   have hL:Lvl x roots C A n dec q n0 l V (candsP x q):={
    hx:=hx
    hr:=hr
    hdl:=hdl2
    hcl:=Nat.le_trans (cands_len x q) hxl.1
    hcs:=rfl
    hnl:=by rw [hNc] at hNl; omega
    hnq:=fun nd h=>(few hd nd (hnd nd h)).1
    hnp:=fun nd h=>(few hd nd (hnd nd h)).2
    hex:=fun i h nd hm hh=>by
     obtain ⟨a,b,_⟩:=hsn _ (hget i h);exact ⟨(need_ent hx hr a (needs_mono (hnd nd hm)) ⟨(candsP x q)[i],by simp,b.trans ((hNx.mem nd).1 hm).2.symm,hh⟩).1,trivial⟩
    hcx:=fun i h nc hc=>by
     obtain ⟨a,b,_⟩:=hsn _ (hget i h);obtain ⟨m1,m2⟩:=clash_some hc;exact ⟨(need_ent hx hr a (needs_rel m1) m2).1,trivial⟩
    hcq:=fun i h nc hm=>(few (hsn _ (hget i h)).1 nc (needs_rel hm)).1
    hcp_:=fun i h nc hm=>(few (hsn _ (hget i h)).1 nc (needs_rel hm)).2
    hcr:=fun i h=>by have:=hxl.2 _ (hsn _ (hget i h)).2.2; omega
    hcs_:=fun i h r hm=>((hE.fx _ (hsn _ (hget i h)).2.2).2 r hm).1
    hkey:=fun i h=>by
     have b:=(hsn _ (hget i h)).2.1;unfold keysC;rw [List.map_append,List.map_append];show _=_++[[vs (candsP x q)[i].rel.path,vi (candsP x q)[i].rel.ver.a,vi (candsP x q)[i].rel.ver.b,vi (candsP x q)[i].rel.ver.c]];rw [b]
    hinf0:=(incN_ok hx hr hd (hnd n0 (List.mem_cons_self ..)) (.inl (by
     rw [((hNx.mem n0).1 (List.mem_cons_self ..)).2];exact hasPath_none (by rw [doneC_path]; exact hNx.undone)))).inf
    hV:=hV
    ih:=fun c hc hokc S st' hl hS hSf=>by
     obtain ⟨a,b,c3⟩:=hsn c hc;obtain ⟨k1,k2⟩:=okC_iff.1 hokc;obtain ⟨_,c2⟩:=cand_ok hc;have hsat':=hsat.snoc hNx b k1 k2;have hfr:freeN x (dec++[c])<n:=by have:=freeN_snoc (dec:=dec) ⟨c2.1,c2.2.1⟩ (by rw [b]; exact hNx.undone); omega
     have h1:=s45 hE h64 n a hsat' hS hSf hfr (st:=st') (by rw [hl]; simp);have h2:=solveS_ok hx hr n a hsat' hS.der hSf hfr (st:=st');exact ⟨h1,⟨h2.der,solveS_nodup n hS.nodup⟩,⟨h2.grow.len,fun e1 e2=>((h2.no e1).2.2 e2).1⟩,fun e1=>(h2.no e1).2.1⟩ }
   have hR:candGo (solveS x roots n) x q (n0 :: l) n0 dec st (candsP x q) s [] []=O:=by
    rw [← hO]
    conv=>rhs; unfold solveS
    rw [← hN,hq]
   by_cases hm:∀ a,(Value.string q,a) ∉ C
   ·exact s45b x roots C A n s dec st q n0 l V (candsP x q) O O hL hs hst hc64 (hE.c2 q hm) hm hR rfl
   ·exact s45a x roots C A n s dec st q n0 l V (candsP x q) O O hL hs hst hc64 (hE.c1 q) hm hR rfl
end
end Go.Eng

namespace Go.Eng
open Go.Proofs
theorem s45c {x:List Rl} {roots:List Rq} {C A:List (Value × AV)} (hE:Env x roots C A) (n:Nat) {dec:List Cd} {s:SS} {st:List (List Sk)} (h1:DecOk x dec) (h2:SatOk roots dec) (h3:SsOk x roots s) (h4:s.full=false) (h5:freeN x dec<n) (h6:st.length=dec.length) :
  ACall Tryz.prog 45 [.ref 1000 0] (heapOf (srH roots C A s dec st) hfree) (SolQ roots C A (solveS x roots n dec s st)) :=
 s45 hE (fun s dec st a b=>s64 roots C A s dec st (Nat.le_trans (reqs_few hE.hr) (by decide)) a b) n h1 h2 h3 h4 h5 h6
end Go.Eng

namespace Go.Eng
open Go.Proofs
def validS (x:List Rl) (roots:List Rq):Bool:=decide (checkIx x=0)&&decide (checkRqs roots=0)
theorem s28 (x:List Rl) (ifs:List (List AV)) (roots:List Rq) (hx:∀ r ∈ x,FewR r) (hr:∀ q ∈ roots,FewQ q):PC 28 [.agg (Ic x ifs),sl encRq roots] (vb (validS x roots)):=by
 refine Ps ⟨[2],[],[],[],[],[],[],[],[],[],[]⟩ Tryz.func28 rfl (Nz rfl) ?_;refine Yi (Nz rfl) ?_;refine Xi .pure (Xi _ (Yi (c64 c155 x ifs hx) ?_));refine Yi (fun h1=>?_) (fun h1=>?_)
 ·have h1:((checkIx x):Int)=(0:Int):=h1;refine Xi .pure (Xi _ (Yi (c65 c155 roots hr) ?_));refine Yi (fun h2=>?_) (fun h2=>?_)
  ·have h2:((checkRqs roots):Int)=(0:Int):=h2;exact .of_eq (show vb true=vb (validS x roots) by unfold validS; rw [h1,h2]; rfl)
  have h2:¬ (((checkRqs roots):Int)=(0:Int)):=h2;exact .of_eq (show vb false=vb (validS x roots) by unfold validS; rw [decide_eq_false h2,Bool.and_false])
 have h1:¬ (((checkIx x):Int)=(0:Int)):=h1;exact .of_eq (show vb false=vb (validS x roots) by unfold validS; rw [decide_eq_false h1]; rfl)
end Go.Eng

namespace Go.Eng
open Go.Proofs
abbrev encYr (r:Rl):List AV:=encCd ⟨plc r.ver,r⟩
abbrev ofPY (y:List Rl) (p:ByteArray):List (List AV):=(y.filter fun r=>decide (r.path=p)).map encYr
abbrev grpEY (y:List Rl) (q:ByteArray × Nat):Value × AV:=(.string q.1,.slice (.id (q.2+100) 10) (ofPY y q.1))
abbrev grpY (y:List Rl):List (Value × AV):=(pathsIx y []).zipIdx.map (grpEY y)
def tokGY (y:List Rl) (l:Nat):HO:=match (pathsIx y [])[l]? with
 | some q=>.tok 10 (ofPY y q).length
 | none=>.free
def hbGY (y:List Rl) (j:Nat):HO:=bif Nat.ble 100 j&&Nat.blt j 1000 then tokGY y (j - 100) else .free
theorem hbG_atY (y:List Rl) (hy:y.length≤256) (l:Nat):hbGY y (l+100)=tokGY y l:=by
 unfold hbGY;rw [show Nat.ble 100 (l+100)=true by rw [Nat.ble_eq]; omega,Bool.true_and,Nat.add_sub_cancel]
 by_cases h:l+100<1000
 ·rw [show Nat.blt (l+100) 1000=true by rw [Nat.blt_eq]; exact h]; rfl
 ·rw [show Nat.blt (l+100) 1000=false by rw [Bool.eq_false_iff]; intro hc; rw [Nat.blt_eq] at hc; omega]
  have:=pathsIx_len y []
  rw [List.length_nil] at this;unfold tokGY;rw [List.getElem?_eq_none (by omega)]; rfl
theorem hbG_ltY (y:List Rl) {j:Nat} (h:j<100):hbGY y j=.free:=by
 unfold hbGY;rw [show Nat.ble 100 j=false by rw [Bool.eq_false_iff]; intro hc; rw [Nat.ble_eq] at hc; omega]; rfl
theorem ofP_snocY (y:List Rl) (r:Rl) (q:ByteArray):ofPY (y++[r]) q=if r.path=q then ofPY y q++[encYr r] else ofPY y q:=by
 unfold ofPY;rw [List.filter_append]
 by_cases h:r.path=q
 ·rw [if_pos h,List.filter_cons_of_pos (by simpa using h)]; simp
 ·rw [if_neg h,List.filter_cons_of_neg (by simpa using h)]; simp
section
variable {y:List Rl} {r:Rl} {k:Nat}
open Classical in
theorem grp_oldY (h:(pathsIx y [])[k]?=some r.path):mput (grpY y) (.string r.path) (.slice (.id (k+100) 10) (ofPY y r.path++[encYr r]))=grpY (y++[r]):=by
 have hd:=pathsIx_nodup y [] List.nodup_nil;have hm:grpEY y (r.path,k) ∈ grpY y:=List.mem_map.2 ⟨_,List.mem_zipIdx_iff_getElem?.2 h,rfl⟩;rw [mput_map (a':=.slice (.id (k+100) 10) (ofPY y r.path)) hm];unfold grpY;rw [paths_old h,List.map_map];refine List.map_congr_left fun q hq=>?_;have hg:=zip_get hq;obtain ⟨q,j⟩:=q;show (if Value.string q=Value.string r.path then _ else _)=grpEY (y++[r]) (q,j);have hg:(pathsIx y [])[j]?=some q:=hg
 by_cases he:q=r.path
 ·subst he
  have:j=k:=nodup_get hd hg h
  subst this;rw [if_pos rfl];show _=(Value.string r.path,AV.slice (.id (j+100) 10) (ofPY (y++[r]) r.path));rw [ofP_snocY,if_pos rfl]
 ·rw [if_neg (fun e=>he (by simpa using e))];show (Value.string q,AV.slice (.id (j+100) 10) (ofPY y q))=(Value.string q,AV.slice (.id (j+100) 10) (ofPY (y++[r]) q));rw [ofP_snocY,if_neg (fun e=>he e.symm)]
theorem ofP_newY (h:r.path ∉ pathsIx y []):ofPY y r.path=[]:=by
 have:y.filter (fun s=>decide (s.path=r.path))=[]:=by
  rw [List.filter_eq_nil_iff];intro s hs he;exact h ((pathsIx_mem y [] r.path).2 (.inr ⟨s,hs,of_decide_eq_true he⟩))
 unfold ofPY;rw [this]; rfl
theorem grp_noneY (h:r.path ∉ pathsIx y []) (a:AV):(Value.string r.path,a) ∉ grpY y:=by
 intro hc;obtain ⟨q,h1,h2⟩:=List.mem_map.1 hc;simp only [grpEY,Prod.mk.injEq,Value.string.injEq] at h2;exact h (by rw [← h2.1]; exact List.mem_of_getElem? (zip_get h1))
theorem grp_newY (h:r.path ∉ pathsIx y []):mput (grpY y) (.string r.path) (.slice (.id ((pathsIx y []).length+100) 10) [encYr r])=grpY (y++[r]):=by
 rw [mput_app (fun a=>grp_noneY h a)];unfold grpY;rw [paths_new h,List.zipIdx_append,List.map_append]
 congr 1
 ·refine List.map_congr_left fun q hq=>?_;have hg:=zip_get hq
  have:q.1≠r.path:=fun e=>h (by rw [← e]; exact List.mem_of_getElem? hg)
  show (Value.string q.1,AV.slice (.id (q.2+100) 10) (ofPY y q.1))=(Value.string q.1,AV.slice (.id (q.2+100) 10) (ofPY (y++[r]) q.1));rw [ofP_snocY,if_neg (fun e=>this e.symm)]
 ·show [_]=[(Value.string r.path,AV.slice (.id (0+(pathsIx y []).length+100) 10) (ofPY (y++[r]) r.path))];rw [ofP_snocY,if_pos rfl,ofP_newY h,Nat.zero_add]; rfl
theorem grp_uniqY {p:ByteArray} {j:Nat} (h:(pathsIx y [])[j]?=some p):(Value.string p,AV.slice (.id (j+100) 10) (ofPY y p)) ∈ grpY y∧∀ b,(Value.string p,b) ∈ grpY y→b=AV.slice (.id (j+100) 10) (ofPY y p):=by
 refine ⟨List.mem_map.2 ⟨(p,j),List.mem_zipIdx_iff_getElem?.2 h,rfl⟩,fun b hb=>?_⟩;obtain ⟨q,h1,h2⟩:=List.mem_map.1 hb;simp only [grpEY,Prod.mk.injEq,Value.string.injEq] at h2;have hg:=zip_get h1;rw [h2.1] at hg
 have:=nodup_get (pathsIx_nodup y [] List.nodup_nil) hg h
 rw [← h2.2,h2.1,this]
theorem tok_atY {p:ByteArray} {j:Nat} (h:(pathsIx y [])[j]?=some p):tokGY y j=.tok 10 (ofPY y p).length:=by
 unfold tokGY; rw [h]
theorem tok_oldY (h:(pathsIx y [])[k]?=some r.path) (l:Nat):(bif Nat.beq (l+100) (k+100) then HO.tok 10 ((ofPY y r.path).length+1) else tokGY y l)=tokGY (y++[r]) l:=by
 by_cases he:l=k
 ·subst he;rw [show Nat.beq (l+100) (l+100)=true from Nat.beq_refl _];unfold tokGY;rw [paths_old h,h];show HO.tok 10 _=HO.tok 10 (ofPY (y++[r]) r.path).length;rw [ofP_snocY,if_pos rfl,List.length_append]; rfl
 ·rw [show Nat.beq (l+100) (k+100)=false by rw [Bool.eq_false_iff]; intro hc; have:=Nat.eq_of_beq_eq_true hc; omega];show tokGY y l=_;unfold tokGY;rw [paths_old h];cases hq:(pathsIx y [])[l]? with
  | none=>rfl
  | some q =>
   show HO.tok 10 (ofPY y q).length=HO.tok 10 (ofPY (y++[r]) q).length;rw [ofP_snocY,if_neg];intro e;subst e;exact he (nodup_get (pathsIx_nodup y [] List.nodup_nil) hq h)
theorem tok_newY (h:r.path ∉ pathsIx y []) (l:Nat):(bif Nat.beq (l+100) ((pathsIx y []).length+100) then HO.tok 10 1 else tokGY y l)=tokGY (y++[r]) l:=by
 by_cases he:l=(pathsIx y []).length
 ·subst he;rw [show Nat.beq ((pathsIx y []).length+100) ((pathsIx y []).length+100)=true from Nat.beq_refl _];unfold tokGY;rw [paths_new h];simp only [List.getElem?_append_right (Nat.le_refl _),Nat.sub_self,List.getElem?_cons_zero];show HO.tok 10 1=HO.tok 10 (ofPY (y++[r]) r.path).length;rw [ofP_snocY,if_pos rfl,ofP_newY h]; rfl
 ·rw [show Nat.beq (l+100) ((pathsIx y []).length+100)=false by rw [Bool.eq_false_iff]; intro hc; have:=Nat.eq_of_beq_eq_true hc; omega];show tokGY y l=_;unfold tokGY;rw [paths_new h]
  by_cases hl:l<(pathsIx y []).length
  ·rw [List.getElem?_append_left hl,Ge hl];show HO.tok 10 (ofPY y (pathsIx y [])[l]).length=HO.tok 10 (ofPY (y++[r]) (pathsIx y [])[l]).length;rw [ofP_snocY,if_neg];intro e;exact h (by rw [e]; exact List.getElem_mem hl)
  ·rw [List.getElem?_eq_none (by omega),List.getElem?_eq_none (by rw [List.length_append]; simp; omega)]
end
theorem grp_idsY (y:List Rl) {h:Nat→HO} (hh:∀ l,h (l+100)=tokGY y l):idsKV h (grpY y)=true:=by
 refine idsKV_all fun p hp=>?_;obtain ⟨q,h1,rfl⟩:=List.mem_map.1 hp;show idIn h (q.2+100)=true;unfold idIn;rw [hh,tok_atY (zip_get h1)]
theorem hbG_stepY {y:List Rl} (hy:y.length≤256) {h h' : Nat→HO} (hh:∀ l,h (l+100)=tokGY y l) (j:Nat):hbGY y j=.free∨(h j=hbGY y j∧idsH h' (hbGY y j)=true):=by
 by_cases hj:j<100
 ·exact .inl (hbG_ltY y hj)
 ·obtain ⟨l,rfl⟩ : ∃ l,j=l+100:=⟨j - 100,by omega⟩
  right
  rw [hbG_atY y hy];refine ⟨hh l,?_⟩;unfold tokGY;cases (pathsIx y [])[l]? <;> rfl
end Go.Eng

namespace Go.Eng
open Go.Proofs
abbrev yR (x:List Rl):List Rl:=x.filter fun r=>!r.yanked
theorem ofPY_cands (x:List Rl) (p:ByteArray):ofPY (yR x) p=(candsP x p).map encCd:=by
 unfold ofPY candsP;rw [List.filter_filter,List.map_map]
 rfl
def mC (x:List Rl):List (Value × AV):=(pathsIx (yR x) []).map fun p=>(.string p,sl encCd (candsP x p))
theorem mC_of {x:List Rl} {p:ByteArray} {a:AV} : (Value.string p,a) ∈ mC x↔p ∈ pathsIx (yR x) []∧a=sl encCd (candsP x p):=by
 unfold mC;rw [List.mem_map];constructor
 ·rintro ⟨q,hq,e⟩
  injection e with e1 e2
  injection e1 with e1
  subst e1;exact ⟨hq,e2.symm⟩
 ·rintro ⟨h1,h2⟩
  exact ⟨p,h1,by rw [h2]⟩
theorem cands_nil {x:List Rl} {p:ByteArray} : candsP x p=[]↔p ∉ pathsIx (yR x) []:=by
 rw [pathsIx_mem];unfold candsP;rw [List.map_eq_nil_iff,List.filter_eq_nil_iff];constructor
 ·rintro h (h1 | ⟨r,h1,h2⟩)
  ·cases h1
  ·obtain ⟨h3,h4⟩:=List.mem_filter.1 h1;exact h r h3 (by rw [decide_eq_true h2,h4]; rfl)
 ·intro h r hr hc;rw [Bool.and_eq_true,decide_eq_true_eq] at hc;exact h (.inr ⟨r,List.mem_filter.2 ⟨hr,hc.2⟩,hc.1⟩)
theorem mC_c1 (x:List Rl):∀ (p:ByteArray) (a:AV),(Value.string p,a) ∈ mC x→a=sl encCd (candsP x p):=fun _ _ h=>(mC_of.1 h).2
theorem mC_c2 (x:List Rl):∀ p:ByteArray,(∀ a,(Value.string p,a) ∉ mC x)→candsP x p=[]:=fun _ h=>cands_nil.2 fun hp=>h _ (mC_of.2 ⟨hp,rfl⟩)
theorem mC_c3 (x:List Rl):∀ p:ByteArray,candsP x p=[]→∀ a,(Value.string p,a) ∉ mC x:=fun _ h _ ha=>cands_nil.1 h (mC_of.1 ha).1
end Go.Eng

namespace Go.Eng
open Go.Proofs
abbrev plN:Pol:=⟨[2],[],[],[(52,[12])],[],[12],[50],[(53,(16,3,90,6)),(54,(16,4,91,1)),(55,(16,7,93,10)),(56,(16,8,94,4))],[],[(850013,13),(800013,10016),(810013,20016),(900013,10000000000+92000000+90016)],[5,7,8,9,11,12,13]⟩
abbrev kC (x:List Rl) (p:ByteArray):Value × AV:=(.string p,sl encCd (candsP x p))
abbrev kA (x:List Rl) (p:ByteArray):Value × AV:=(.string p,sl encSpan (availP x p))
theorem next_kC {x:List Rl} {l:List ByteArray} {kv:Value × AV} {rem' : List (Value × AV)} (h:(l.map (kC x)).Perm (kv :: rem')):∃ t r,kv=kC x t∧rem'=r.map (kC x)∧l.Perm (t :: r):=by
 obtain ⟨ps,h1,h2⟩:=perm_map_ex h l rfl;cases ps with
 | nil=>cases h2
 | cons t r =>
  rw [List.map_cons,List.cons.injEq] at h2;exact ⟨t,r,h2.1.symm,h2.2.symm,h1.symm⟩
abbrev srN (roots:List Rq) (C A:List (Value × AV)):List (Nat × HO) :=
 [(2000,.cells [sl encRq roots,.cmap shS C,.cmap shS A,.slice (.id 2001 6) [],.slice (.id 2002 1) [],.mref 2003,vb false,.slice .none [],.slice .none [],.msl 2004 0]),(2001,.tok 6 0),(2002,.tok 1 0),(2003,.map shN []),(2004,.arr 1 [])]
theorem kA_mem {x:List Rl} {l:List ByteArray} {p:ByteArray} {a:AV} : (Value.string p,a) ∈ l.map (kA x)↔p ∈ l∧a=sl encSpan (availP x p):=by
 rw [List.mem_map];constructor
 ·rintro ⟨q,hq,e⟩
  injection e with e1 e2
  injection e1 with e1
  subst e1;exact ⟨hq,e2.symm⟩
 ·rintro ⟨h1,h2⟩
  exact ⟨p,h1,by rw [h2]⟩

theorem hbG_hiY (y:List Rl) (n:Nat):hbGY y (n+1000)=.free:=by
 unfold hbGY;rw [show Nat.blt (n+1000) 1000=false by rw [Bool.eq_false_iff]; intro hc; rw [Nat.blt_eq] at hc; omega,Bool.and_false]; rfl
theorem ext_hiY {h s:Nat→HO} (H:∀ n,h (n+1000)=.free):∀ j,1000≤j→j<2000→h j≠.free→s j≠.free:=fun j h1 _ hn=>by
 refine absurd (H (j - 1000)) ?_;rw [show j - 1000+1000=j by omega]; exact hn
theorem beq_hiY {n k:Nat} (h:k<1000):Nat.beq (n+1000) k=false:=by
 rw [Bool.eq_false_iff]; intro hc; have:=Nat.eq_of_beq_eq_true hc; omega
theorem bif_hiY {y:List Rl} {n k:Nat} {o:HO} (h:k<1000):(bif Nat.beq (n+1000) k then o else hbGY y (n+1000))=.free:=by
 rw [beq_hiY h,hbG_hiY]; rfl
attribute [local irreducible] appendK
set_option maxRecDepth 30000 in
set_option maxHeartbeats 4000000 in
theorem s29 (x:List Rl) (ifs:List (List AV)) (roots:List Rq) (hx:∀ r ∈ x,FewR r) (h0:checkIx x=0):ACall Tryz.prog 29 [ixV x ifs,sl encRq roots] (heapOf [] hfree) fun r h'=>∃ l:List ByteArray,l.Perm (pathsIx (yR x) [])∧r=.ref 2000 0∧h'=heapOf (srN roots (mC x) (l.map (kA x))) hfree:=by
 have hxl:x.length≤256:=(ix_few h0).1;refine acall_sub (cxe plN) [(16,2000),(90,2001),(91,2002),(14,2003),(92,2004)] rfl tab_ok hm rfl Tryz.func29 (by kernel_rfl) rfl (Nz rfl) (by kernel_rfl) rfl ?_;refine Xi 0 ?_;refine Xi 0 ?_;refine Xi 0 ?_;refine Xi {i:Nat // i≤x.length} (Xi (fun i=>⟨[(2,.ref 2 0),(5,.ref 16 0),(18,sl encRl x),(19,vi (x.map encRl).length),(20,vi i.1)],[(2,.ro (Ic x ifs)),(12,.mapU shS (grpY (yR (x.take i.1)))),(13,.map shS []),(14,.map shN []),(16,.cells [sl encRq roots,.mref 12,.mref 13,.v (.slice none 0 0),.v (.slice none 0 0),.mref 14,vb false,.v (.slice none 0 0),.v (.slice none 0 0),.v (.slice none 0 0)])],hbGY (yR (x.take i.1))⟩) (Xi (fun i=>x.length - i.1) (Yi (Xi ⟨0,Nat.zero_le _⟩ ?_) ?_)))
 ·refine ⟨Z5,Z5,fun j=>.inl ?_,ext_dec (by kernel_rfl)⟩;show hbGY [] j=.free;unfold hbGY;cases (Nat.ble 100 j&&Nat.blt j 1000) <;> rfl
 intro ⟨i,i1⟩;have i1:i≤x.length:=i1;have hq:∀ k,(yR (x.take k)).length≤256:=fun k=>by
  have:=List.length_filter_le (fun r:Rl=>!r.yanked) (x.take k)
  rw [List.length_take] at this;show (List.filter _ _).length≤256;omega
 refine Xi 0 ?_;refine Yi ?_ ?_
 ·intro h;have h:(i:Int)<(x.map encRl).length:=h;have h:i<x.length:=by simpa using h
  have hg:x[i]?=some x[i]:=Ge h;have htake:x.take (i+1)=x.take i++[x[i]]:=by rw [List.take_add_one,hg]; rfl
  refine Xi 0 ?_;refine Xi (encRl x[i]) (Yi (Yi (Nn i) (by simp [hg])) (Yi rfl ?_));refine Yi (Nz rfl) (Yi (Nz rfl) ?_);refine Xi ⟨[(2,.ref 2 0),(5,.ref 16 0),(7,.ref 7 0),(18,sl encRl x),(19,vi (x.map encRl).length),(20,vi i)],[(2,.ro (Ic x ifs)),(7,.cells (encRl x[i])),(12,.mapU shS (grpY (yR (x.take i)))),(13,.map shS []),(14,.map shN []),(16,.cells [sl encRq roots,.mref 12,.mref 13,.v (.slice none 0 0),.v (.slice none 0 0),.mref 14,vb false,.v (.slice none 0 0),.v (.slice none 0 0),.v (.slice none 0 0)])],hbGY (yR (x.take i))⟩ (Yi ?_ ?_)
  ·exact ⟨Z6,⟨Zr,Zr,⟨rfl,grp_idsY _ (hbG_atY _ (hq _))⟩,Zr,Zr,Zr,Tv⟩,hbG_stepY (hq _) (hbG_atY _ (hq _)),ext_dec (by kernel_rfl)⟩
  refine Xi 0 ?_;refine Yi (fun hy=>?_) (fun hy=>?_)
  ·have hy:x[i].yanked=true:=hy;have ey:yR (x.take (i+1))=yR (x.take i):=by
    unfold yR;rw [htake,List.filter_append,List.filter_cons_of_neg (by rw [hy]; decide)]; simp
   refine Xi ⟨[(2,.ref 2 0),(5,.ref 16 0),(18,sl encRl x),(19,vi (x.map encRl).length),(20,vi i)],[(2,.ro (Ic x ifs)),(12,.mapU shS (grpY (yR (x.take (i+1))))),(13,.map shS []),(14,.map shN []),(16,.cells [sl encRq roots,.mref 12,.mref 13,.v (.slice none 0 0),.v (.slice none 0 0),.mref 14,vb false,.v (.slice none 0 0),.v (.slice none 0 0),.v (.slice none 0 0)])],hbGY (yR (x.take (i+1)))⟩ (Yi ?_ ?_)
   ·rw [ey];exact ⟨Z5,⟨Zr,⟨rfl,grp_idsY _ (hbG_atY _ (hq _))⟩,Zr,Zr,Zr,Tv⟩,hbG_stepY (hq _) (hbG_atY _ (hq _)),ext_dec (by kernel_rfl)⟩
   refine Xi 0 ?_;refine Yi (Ii i (by omega)) ?_;refine Xi ⟨i+1,by omega⟩ ?_;exact ⟨Dl x.length i (by omega),Z5,⟨Zr,⟨rfl,grp_idsY _ (hbG_atY _ (hq _))⟩,Zr,Zr,Zr,Tv⟩,hbG_stepY (hq _) (hbG_atY _ (hq _)),ext_dec (by kernel_rfl)⟩
  have hy:x[i].yanked=false:=hy;refine Xi 0 ?_;refine Yi (Nz rfl) ?_;refine Xi .pure (Xi _ (Yi (c56 x[i].ver) ?_));refine Xi ⟨[(2,.ref 2 0),(5,.ref 16 0),(7,.ref 7 0),(8,vi (plc x[i].ver)),(18,sl encRl x),(19,vi (x.map encRl).length),(20,vi i)],[(2,.ro (Ic x ifs)),(7,.cells (encRl x[i])),(12,.mapU shS (grpY (yR (x.take i)))),(13,.map shS []),(14,.map shN []),(16,.cells [sl encRq roots,.mref 12,.mref 13,.v (.slice none 0 0),.v (.slice none 0 0),.mref 14,vb false,.v (.slice none 0 0),.v (.slice none 0 0),.v (.slice none 0 0)])],hbGY (yR (x.take i))⟩ (Yi ?_ ?_)
  ·exact ⟨Z7,⟨Zr,Zr,⟨rfl,grp_idsY _ (hbG_atY _ (hq _))⟩,Zr,Zr,Zr,Tv⟩,hbG_stepY (hq _) (hbG_atY _ (hq _)),ext_dec (by kernel_rfl)⟩
  have ey:yR (x.take (i+1))=yR (x.take i)++[x[i]]:=by
   unfold yR;rw [htake,List.filter_append,List.filter_cons_of_pos (by rw [hy]; decide)]; rfl
  have hyl:(yR (x.take i)).length≤256:=by
   have:=List.length_filter_le (fun r:Rl=>!r.yanked) (x.take i)
   rw [List.length_take] at this;show (List.filter _ _).length≤256;omega
  have hP:∀ l,hbGY (yR (x.take i)) (l+100)=tokGY (yR (x.take i)) l:=hbG_atY _ (hq _);refine Or.elim (Classical.em (x[i].path ∈ pathsIx (yR (x.take i)) [])) (fun hp=>?_) (fun hp=>?_)
  ·refine Exists.elim (List.mem_iff_getElem?.1 hp) (fun k hk=>?_);have hu:=grp_uniqY hk;have hl:(ofPY (yR (x.take i)) x[i].path).length≤256:=by
    rw [Lm];exact Nat.le_trans (List.length_filter_le _ _) hyl
   have hk256:k<256:=by
    have:=(List.getElem?_eq_some_iff.1 hk).1
    have:=pathsIx_len (yR (x.take i)) []
    simp only [List.length_nil] at this;omega
   have hr:hbGY (yR (x.take i)) (k+100)=.tok 10 (ofPY (yR (x.take i)) x[i].path).length:=by rw [hP,tok_atY hk]
   refine Xi 0 ?_;refine Or.inl (Xi (.slice (.id (k+100) 10) (ofPY (yR (x.take i)) x[i].path)) (Yi hu ?_));refine Yi (Nz rfl) ?_;refine appendK_tok (e:=115) (m:=9) (es2:=[encYr x[i]]) rfl rfl rfl (fun _ h=>h) hr ⟨rfl,trivial⟩ (by show (_+1)*128≤_; omega) (by show _+1≤_; omega) ?_;refine Yi (drawOk_small ⟨smallF_none _,smallF_none _,smallF_none _,smallF_none _,smallF_none _,smallF_none _,smallF_none _,smallF_none _,smallF_none _,smallF_none _,smallF_none _,smallF_none _,smallF_none _,smallF_none _,smallF_none _,smallF_none _,smallF_some (show 49<10000000 by decide),smallF_some (by show _+100<10000000; omega),smallF_some (show 12<10000000 by decide),trivial⟩ (by kernel_rfl)) ?_;have e9:mput (grpY (yR (x.take i))) (.string x[i].path) (.slice (.id (k+100) 10) (ofPY (yR (x.take i)) x[i].path++[encYr x[i]]))=grpY (yR (x.take (i+1))):=by rw [ey]; exact grp_oldY hk
   have hG:∀ l,(bif Nat.beq (l+100) (k+100) then HO.tok 10 ((ofPY (yR (x.take i)) x[i].path).length+1) else tokGY (yR (x.take i)) l)=tokGY (yR (x.take (i+1))) l:=by rw [ey]; exact tok_oldY hk
   refine Xi ⟨[(2,.ref 2 0),(5,.ref 16 0),(18,sl encRl x),(19,vi (x.map encRl).length),(20,vi i)],[(2,.ro (Ic x ifs)),(12,.mapU shS (grpY (yR (x.take (i+1))))),(13,.map shS []),(14,.map shN []),(16,.cells [sl encRq roots,.mref 12,.mref 13,.v (.slice none 0 0),.v (.slice none 0 0),.mref 14,vb false,.v (.slice none 0 0),.v (.slice none 0 0),.v (.slice none 0 0)])],hbGY (yR (x.take (i+1)))⟩ (Yi ?_ ?_)
   ·refine ⟨Z5,⟨Zr,⟨congrArg (HO.mapU shS) e9,grp_idsY _ (hbG_atY _ (hq _))⟩,Zr,Zr,Zr,Tv⟩,hbG_stepY (hq _) (fun l=>?_),ext_hiY (fun n=>?_)⟩
    ·show (bif Nat.beq (l+100) (k+100) then HO.tok 10 ((ofPY (yR (x.take i)) x[i].path).length+1) else hbGY (yR (x.take i)) (l+100))=_;rw [hP]; exact hG l
    ·exact bif_hiY (y:=yR (x.take i)) (show k+100<1000 by omega)
   refine Xi 0 ?_;refine Yi (Ii i (by omega)) ?_;refine Xi ⟨i+1,by omega⟩ ?_;exact ⟨Dl x.length i (by omega),Z5,⟨Zr,⟨rfl,grp_idsY _ (hbG_atY _ (hq _))⟩,Zr,Zr,Zr,Tv⟩,hbG_stepY (hq _) (hbG_atY _ (hq _)),ext_dec (by kernel_rfl)⟩
  ·have hlen2:(pathsIx (yR (x.take i)) []).length≤256:=by
    have:=pathsIx_len (yR (x.take i)) []
    simp only [List.length_nil] at this;omega
   have hn:=grp_noneY hp;have hr:hbGY (yR (x.take i)) ((pathsIx (yR (x.take i)) []).length+100)=.free:=by
    rw [hP]; unfold tokGY; rw [List.getElem?_eq_none (Nat.le_refl _)]
   refine Xi ((pathsIx (yR (x.take i)) []).length+100) ?_;refine Or.inr (Yi hn ?_);refine Yi (Nz rfl) ?_;refine appendK_new (e:=115) (m:=9) (es2:=[encYr x[i]]) rfl rfl rfl (fun _ h=>h) hr rfl ⟨rfl,trivial⟩ (by show 1*128≤_; omega) (by show 1≤_; omega) ?_;refine Yi (drawOk_small ⟨smallF_none _,smallF_none _,smallF_none _,smallF_none _,smallF_none _,smallF_none _,smallF_none _,smallF_none _,smallF_none _,smallF_none _,smallF_none _,smallF_none _,smallF_none _,smallF_none _,smallF_none _,smallF_none _,smallF_some (show 49<10000000 by decide),smallF_some (by show _+100<10000000; omega),smallF_some (show 12<10000000 by decide),trivial⟩ (by kernel_rfl)) ?_;have e9:mput (grpY (yR (x.take i))) (.string x[i].path) (.slice (.id ((pathsIx (yR (x.take i)) []).length+100) 10) [encYr x[i]])=grpY (yR (x.take (i+1))):=by rw [ey]; exact grp_newY hp
   have hG:∀ l,(bif Nat.beq (l+100) ((pathsIx (yR (x.take i)) []).length+100) then HO.tok 10 1 else tokGY (yR (x.take i)) l)=tokGY (yR (x.take (i+1))) l:=by rw [ey]; exact tok_newY hp
   refine Xi ⟨[(2,.ref 2 0),(5,.ref 16 0),(18,sl encRl x),(19,vi (x.map encRl).length),(20,vi i)],[(2,.ro (Ic x ifs)),(12,.mapU shS (grpY (yR (x.take (i+1))))),(13,.map shS []),(14,.map shN []),(16,.cells [sl encRq roots,.mref 12,.mref 13,.v (.slice none 0 0),.v (.slice none 0 0),.mref 14,vb false,.v (.slice none 0 0),.v (.slice none 0 0),.v (.slice none 0 0)])],hbGY (yR (x.take (i+1)))⟩ (Yi ?_ ?_)
   ·refine ⟨Z5,⟨Zr,⟨congrArg (HO.mapU shS) e9,grp_idsY _ (hbG_atY _ (hq _))⟩,Zr,Zr,Zr,Tv⟩,hbG_stepY (hq _) (fun l=>?_),ext_hiY (fun n=>?_)⟩
    ·show (bif Nat.beq (l+100) ((pathsIx (yR (x.take i)) []).length+100) then HO.tok 10 1 else hbGY (yR (x.take i)) (l+100))=_;rw [hP]; exact hG l
    ·exact bif_hiY (y:=yR (x.take i)) (show (pathsIx (yR (x.take i)) []).length+100<1000 by omega)
   refine Xi 0 ?_;refine Yi (Ii i (by omega)) ?_;refine Xi ⟨i+1,by omega⟩ ?_;exact ⟨Dl x.length i (by omega),Z5,⟨Zr,⟨rfl,grp_idsY _ (hbG_atY _ (hq _))⟩,Zr,Zr,Zr,Tv⟩,hbG_stepY (hq _) (hbG_atY _ (hq _)),ext_dec (by kernel_rfl)⟩
 ·intro h;have h:¬ (i:Int)<(x.map encRl).length:=h;have h:¬ i<x.length:=by simpa using h
  have et:x.take i=x:=List.take_of_length_le (by omega);have eM:∀ hh:Nat→HO,strM hh (grpY (yR (x.take i)))=(pathsIx (yR x) []).map (kC x):=fun hh=>by
   rw [et];unfold strM grpY;rw [List.map_map];refine List.ext_getElem? fun j=>?_;rw [List.getElem?_map,List.getElem?_map,List.getElem?_zipIdx];cases (pathsIx (yR x) [])[j]? with
   | none=>rfl
   | some q=>show some (Value.string q,AV.slice .none (ofPY (yR x) q))=_; rw [ofPY_cands]; rfl
  refine Xi ⟨[(2,.ref 2 0),(5,.ref 16 0)],[(2,.ro (Ic x ifs)),(12,.mapU shS (grpY (yR (x.take i)))),(13,.map shS []),(14,.map shN []),(16,.cells [sl encRq roots,.mref 12,.mref 13,.v (.slice none 0 0),.v (.slice none 0 0),.mref 14,vb false,.v (.slice none 0 0),.v (.slice none 0 0),.v (.slice none 0 0)])],hbGY (yR (x.take i))⟩ (Yi ?_ ?_)
  ·exact ⟨Z2,⟨Zr,⟨rfl,grp_idsY _ (hbG_atY _ (hq _))⟩,Zr,Zr,Zr,Tv⟩,hbG_stepY (hq _) (hbG_atY _ (hq _)),ext_dec (by kernel_rfl)⟩
  refine Xi 0 ?_;refine Xi {p:List ByteArray × List ByteArray × Option (Value × AV) // (p.1++p.2.1).Perm (pathsIx (yR x) [])} (Xi (fun p=>⟨[(2,.ref 2 0),(5,.ref 16 0),(56,.ref 56 0)],[(2,.ro (Ic x ifs)),(12,.rom shS ((pathsIx (yR x) []).map (kC x))),(13,.map shS (p.1.1.map (kA x))),(14,.map shN []),(16,.cells [sl encRq roots,.mref 12,.mref 13,.slice (.id 90 6) [],.slice (.id 91 1) [],.mref 14,vb false,.slice (.id 93 10) [],.slice (.id 94 4) [],.v (.slice none 0 0)]),(56,.iter ((pathsIx (yR x) []).map (kC x)) (p.1.2.1.map (kC x)) p.1.2.2),(90,.tok 6 0),(91,.tok 1 0),(93,.tok 10 0),(94,.tok 4 0)],hfree⟩) (Xi (fun p=>p.1.2.1.length) (Yi (Xi ⟨([],pathsIx (yR x) [],none),.refl _⟩ ?_) ?_)))
  ·refine ⟨Z3,⟨Zr,⟨congrArg (HO.rom shS) (eM _),rfl⟩,Zr,Zr,Zr,⟨?_,rfl⟩,Zr,Zr,Zr,Zr,Tv⟩,Fh,ext_hiY (fun n=>?_)⟩
   ·show HO.iter (strM _ (grpY (yR (x.take i)))) (strM _ (grpY (yR (x.take i)))) none=_;rw [eM]
   ·exact hbG_hiY (yR (x.take i)) n
  intro ⟨⟨done,rem,cur⟩,r1⟩;have r1:(done++rem).Perm (pathsIx (yR x) []):=r1;refine Xi 0 ?_;refine Yi ?_ ?_
  ·intro hr;have hr:rem.map (kC x)=[]:=hr;have hr:rem=[]:=List.map_eq_nil_iff.1 hr;subst hr;rw [List.append_nil] at r1;refine Xi ⟨[(5,.ref 16 0)],[(14,.map shN []),(16,.cells [sl encRq roots,.cmap shS (mC x),.cmap shS (done.map (kA x)),.slice (.id 90 6) [],.slice (.id 91 1) [],.mref 14,vb false,.slice (.id 93 10) [],.slice (.id 94 4) [],.msl 92 0]),(90,.tok 6 0),(91,.tok 1 0),(92,.arr 1 []),(93,.tok 10 0),(94,.tok 4 0)],hfree⟩ (Yi ⟨Z1,Z7,Fh,ext_dec (by kernel_rfl)⟩ ?_)
   refine Xi 0 ?_;exact Xi _ (Yi (.refl _) (Xi done (Yi r1 (Yi rfl rfl))))
  ·intro kv rem' hp;refine Exists.elim (next_kC hp) (fun t hp=>Exists.elim hp (fun r hp=>?_));have e1:=hp.1;have e2:=hp.2.1;subst e1;subst e2;have hp:=hp.2.2;refine Xi ⟨[(2,.ref 2 0),(5,.ref 16 0),(56,.ref 56 0)],[(2,.ro (Ic x ifs)),(12,.rom shS ((pathsIx (yR x) []).map (kC x))),(13,.map shS (done.map (kA x))),(14,.map shN []),(16,.cells [sl encRq roots,.mref 12,.mref 13,.slice (.id 90 6) [],.slice (.id 91 1) [],.mref 14,vb false,.slice (.id 93 10) [],.slice (.id 94 4) [],.v (.slice none 0 0)]),(56,.iter ((pathsIx (yR x) []).map (kC x)) (r.map (kC x)) (some (kC x t))),(90,.tok 6 0),(91,.tok 1 0),(93,.tok 10 0),(94,.tok 4 0)],hfree⟩ (Yi ⟨Z3,Z10,Fh,ext_dec (by kernel_rfl)⟩ ?_)
   refine Xi 0 ?_;refine Xi ⟨[(2,.ref 2 0),(5,.ref 16 0),(10,vs t),(56,.ref 56 0)],[(2,.ro (Ic x ifs)),(12,.rom shS ((pathsIx (yR x) []).map (kC x))),(13,.map shS (done.map (kA x))),(14,.map shN []),(16,.cells [sl encRq roots,.mref 12,.mref 13,.slice (.id 90 6) [],.slice (.id 91 1) [],.mref 14,vb false,.slice (.id 93 10) [],.slice (.id 94 4) [],.v (.slice none 0 0)]),(56,.iter ((pathsIx (yR x) []).map (kC x)) (r.map (kC x)) (some (kC x t))),(90,.tok 6 0),(91,.tok 1 0),(93,.tok 10 0),(94,.tok 4 0)],hfree⟩ (Yi ⟨Z4,Z10,Fh,ext_dec (by kernel_rfl)⟩ ?_)
   refine Xi 0 ?_;have hnd:(done++rem).Nodup:=r1.nodup_iff.2 (pathsIx_nodup _ [] List.nodup_nil);have htn:t ∉ done:=fun hc=>(List.nodup_append.1 hnd).2.2 t hc t (hp.mem_iff.2 (List.mem_cons_self ..)) rfl;have em:mput (done.map (kA x)) (.string t) (sl encSpan (availP x t))=(done++[t]).map (kA x):=by
    rw [mput_app (fun a ha=>htn (kA_mem.1 ha).1),List.map_append]; rfl
   have hpm:((done++[t])++r).Perm (pathsIx (yR x) []):=by
    rw [List.append_assoc];exact (List.Perm.append_left _ hp.symm).trans r1
   refine Yi (Nz rfl) ?_;refine Xi _ (Yi (c195 x ifs t (c84 x ifs hx)) ?_);refine Yi (by kernel_rfl) ?_;refine Xi ⟨(done++[t],r,some (kC x t)),hpm⟩ ?_;exact ⟨by show r.length<rem.length; rw [hp.length_eq,List.length_cons]; omega,Z3,⟨Zr,Zr,⟨congrArg (HO.map shS) em,rfl⟩,Zr,Zr,Zr,Zr,Zr,Zr,Zr,Tv⟩,Fh,ext_dec (by kernel_rfl)⟩
end Go.Eng

namespace Go.Eng
open Go.Proofs
end Go.Eng

namespace Go.Eng
open Go.Proofs
end Go.Eng

namespace Go.Eng
open Go.Proofs
end Go.Eng

namespace Go.Eng
open Go.Proofs
end Go.Eng

namespace Go.Eng
open Go.Proofs
end Go.Eng

namespace Go.Eng
open Go.Proofs
end Go.Eng

namespace Go.Eng
open Go.Proofs
end Go.Eng

namespace Go.Eng
open Go.Proofs
end Go.Eng

namespace Go.Eng
open Go.Proofs
end Go.Eng

namespace Go.Eng
open Go.Proofs
end Go.Eng

namespace Go.Eng
open Go.Proofs
end Go.Eng

namespace Go.Eng
open Go.Proofs
end Go.Eng

namespace Go.Eng
open Go.Proofs
end Go.Eng

namespace Go.Eng
open Go.Proofs
end Go.Eng

namespace Go.Eng
open Go.Proofs
end Go.Eng

namespace Go.Eng
open Go.Proofs
end Go.Eng

namespace Go.Eng
open Go.Proofs
end Go.Eng

namespace Go.Eng
open Go.Proofs
end Go.Eng

namespace Go.Eng
open Go.Proofs
end Go.Eng

namespace Go.Eng
open Go.Proofs
end Go.Eng

namespace Go.Eng
open Go.Proofs
end Go.Eng

namespace Go.Eng
open Go.Proofs
end Go.Eng

namespace Go.Eng
open Go.Proofs
end Go.Eng

namespace Go.Eng
open Go.Proofs
def goodR (p:ByteArray) (r:Rl):Bool:=decide (r.path=p)&&!r.yanked
def spanR (r:Rl):Int × Int:=(plc r.ver,plc r.ver+1)
theorem availP_ok {x:List Rl} {p:ByteArray} (h:checkIx x=0):availP x p=canon ((x.filter (goodR p)).map spanR):=by
 unfold availP ofPath;rw [if_neg (not_not_intro h),List.filter_filter]
 congr 3
 funext r
 unfold goodR;rw [Bool.and_comm]
end Go.Eng

namespace Go.Eng
open Go.Proofs
theorem avail_none {x:List Rl} (h0:checkIx x=0) {p:ByteArray} (h:p ∉ pathsIx (yR x) []):availP x p=[]:=by
 rw [availP_ok h0]
 have:x.filter (goodR p)=[]:=by
  rw [List.filter_eq_nil_iff];intro r hr hc;unfold goodR at hc;rw [Bool.and_eq_true,decide_eq_true_eq] at hc;exact h ((pathsIx_mem _ _ _).2 (.inr ⟨r,List.mem_filter.2 ⟨hr,hc.2⟩,hc.1⟩))
 rw [this]; rfl
theorem env_of {x:List Rl} {roots:List Rq} (hx:∀ r ∈ x,FewR r) (hr:∀ q ∈ roots,FewQ q) (h0:checkIx x=0) (h1:checkRqs roots=0) {l:List ByteArray} (hl:l.Perm (pathsIx (yR x) [])):Env x roots (mC x) (l.map (kA x)) where
 hx:=h0
 hr:=h1
 fx:=hx
 fr:=hr
 c1:=mC_c1 x
 c2:=mC_c2 x
 c3:=mC_c3 x
 av p:=by
  by_cases hp:p ∈ l
  ·exact ⟨sl encSpan (availP x p),fun a ha=>(kA_mem.1 ha).2,fun hn=>(hn _ (kA_mem.2 ⟨hp,rfl⟩)).elim,fun h=>c194 p (availP x p) (availP_few x p)⟩
  ·refine ⟨.v (.slice none 0 0),fun a ha=>(hp (kA_mem.1 ha).1).elim,fun _=>rfl,fun h=>?_⟩;have e:=avail_none h0 (fun hc=>hp (hl.mem_iff.2 hc));have hc:=c194 p (availP x p) (availP_few x p);rw [e] at hc ⊢;exact PCall.args hc ⟨.refl _,.nil,trivial⟩
end Go.Eng

namespace Go.Eng
open Go.Proofs
end Go.Eng

namespace Go.Eng
open Go.Proofs
end Go.Eng

namespace Go.Eng
open Go.Proofs

end Go.Eng

namespace Go.Eng
open Go.Proofs
end Go.Eng

namespace Go.Eng
open Go.Proofs
section
variable {x:List Rl} {roots:List Rq} {d:List (List Tm)} {i:Nf}
end
end Go.Eng

namespace Go.Eng
open Go.Proofs
end Go.Eng

namespace Go.Eng
open Go.Proofs
end Go.Eng

namespace Go.Eng
open Go.Proofs
section
variable {s:List Sl} {q:Rq} {o:Option ByteArray}
end
end Go.Eng

namespace Go.Eng
open Go.Proofs
section
variable {x:List Rl} {roots:List Rq} {s A:List Sl} {m:Nat}
end
end Go.Eng

namespace Go.Eng
open Go.Proofs
section
variable {N:List Rq} {p:ByteArray} {pl:Int} {o:Rl}
end
end Go.Eng

namespace Go.Eng
open Go.Proofs
abbrev encB (b:Bool):List AV:=[vb b]
section
variable {l:List Rl} {roots:List Rq} {Cl:List ByteArray} {B:List Bool}
variable {B0:List Bool} {i:Nat} {ch:Bool}
end
end Go.Eng

namespace Go.Eng
open Go.Proofs
end Go.Eng

namespace Go.Eng
open Go.Proofs
section
variable {x l:List Rl} {roots:List Rq} {s:List Sl}
end
end Go.Eng
