/- Lemmas for the claims of this seat, without a condition: part 4 (Q8, P15, P16). -/
import Derived.Test.YtkmnnpmneamgoaaGreatDoorA03
namespace Go.Eng
def MT (R:Nat):Nat:=[3,8,13,23,33,53,78,113,168,243,348,513,738,1053,1548,2223,3168].getD R 0
theorem MT_step:∀ R≤16,3≤MT R∧∀ k≤R,3+2*k+k*MT (R - k)≤MT R∨k=0:=by decide
section
variable {x:List Rl} {roots:List Rq} {p:ByteArray} {needs:List Nd} {n0:Nd} {dec:List Cd} {st:List (List Sk)}
theorem addI_cnt {s:SS} (i:Nf) (l:List Tm) (hf:s.full=false) (hc:s.infs.length≤65535):(addI s i l).2.full=false∧(addI s i l).2.infs.length≤s.infs.length+1:=⟨addI_nofull i l hf (by omega),addI_count s i l⟩
theorem learnGo_cnt:∀ (l:List Nat) {k:Nat} {s:SS},s.full=false→s.infs.length+l.length≤65535→(learnGo p l k s).2.full=false∧(learnGo p l k s).2.infs.length≤s.infs.length+l.length
 | [],k,s,hf,_=>⟨hf,Nat.le_refl _⟩
 | r :: l,k,s,hf,hc=>by
  rw [List.length_cons] at hc ⊢;unfold learnGo;split
  ·exact ⟨hf,by show s.infs.length≤_; omega⟩
  split
  ·obtain ⟨h1,h2⟩:=learnGo_cnt l (k:=k) hf (by omega);exact ⟨h1,by omega⟩
  split
  ·obtain ⟨h1,h2⟩:=learnGo_cnt l (k:=k) hf (by omega);exact ⟨h1,by omega⟩
  ·obtain ⟨a1,a2⟩:=addI_cnt ⟨3,p,0,0,(k:Nat),(r:Nat)⟩ (resolveT (atD s k) (atD s r) p).1 hf (by omega);obtain ⟨h1,h2⟩:=learnGo_cnt l (k:=(addI s ⟨3,p,0,0,(k:Nat),(r:Nat)⟩ (resolveT (atD s k) (atD s r) p).1).1) a1 (by omega);exact ⟨h1,by omega⟩
theorem learnS_cnt {s:SS} (reasons:List Nat) (hf:s.full=false) (hc:s.infs.length+(3+reasons.length)≤65535):(learnS x p n0 reasons s).2.full=false∧(learnS x p n0 reasons s).2.infs.length≤s.infs.length+(3+reasons.length):=by
 unfold learnS;obtain ⟨a1,a2⟩:=addI_cnt (infN n0) (incN n0) hf (by omega)
 change (infS s n0).2.full=false at a1
 change (infS s n0).2.infs.length≤_ at a2
 obtain ⟨b1,b2⟩:=addI_cnt ⟨2,p,0,0,0,0⟩ (noneT p (availP x p)) a1 (by omega)
 change (noneS x p (infS s n0).2).2.full=false at b1
 change (noneS x p (infS s n0).2).2.infs.length≤_ at b2
 obtain ⟨h1,h2⟩:=learnGo_cnt (p:=p) ((noneS x p (infS s n0).2).1 :: reasons) (k:=(infS s n0).1) b1 (by rw [List.length_cons]; omega);rw [List.length_cons] at h2;exact ⟨h1,by omega⟩
theorem candGo_cnt {rec:List Cd→SS→List (List Sk)→SOut} {B:Nat} (hrec:∀ c ∈ candsP x p,∀ s st,s.full=false→s.infs.length+B≤65535→(rec (dec++[c]) s st).ss.full=false∧(rec (dec++[c]) s st).ss.infs.length≤s.infs.length+B) :
  ∀ (cs:List Cd) {s:SS} {reasons:List Nat} {skips:List Sk},(∀ c ∈ cs,c ∈ candsP x p)→s.full=false→s.infs.length+(3+(reasons.length+cs.length)+cs.length*(1+B))≤65535 →
   (candGo rec x p needs n0 dec st cs s reasons skips).ss.full=false∧(candGo rec x p needs n0 dec st cs s reasons skips).ss.infs.length≤s.infs.length+(3+(reasons.length+cs.length)+cs.length*(1+B))
 | [],s,reasons,skips,_,hf,hc=>by
  simp only [List.length_nil,Nat.add_zero,Nat.zero_mul] at hc ⊢;exact learnS_cnt reasons hf hc
 | c :: cs,s,reasons,skips,hm,hf,hc=>by
  rw [candGo_cons,if_neg (by rw [hf]; decide)];simp only [List.length_cons] at hc ⊢;have hmul:(cs.length+1)*(1+B)=cs.length*(1+B)+(1+B):=by rw [Nat.add_mul,Nat.one_mul]
  rw [hmul] at hc ⊢
  have go:∀ (s' : SS) (k:Nat) (skips' : List Sk),s'.full=false→s'.infs.length≤s.infs.length+(1+B) →
    (candGo rec x p needs n0 dec st cs s' (reasons++[k]) skips').ss.full=false∧(candGo rec x p needs n0 dec st cs s' (reasons++[k]) skips').ss.infs.length≤s.infs.length+(3+(reasons.length+(cs.length+1))+(cs.length*(1+B)+(1+B))):=fun s' k skips' hf' hl=>by
   have hlen:(reasons++[k]).length=reasons.length+1:=by simp
   obtain ⟨h1,h2⟩:=candGo_cnt hrec cs (s:=s') (reasons:=reasons++[k]) (skips:=skips') (fun d hd=>hm d (List.mem_cons_of_mem _ hd)) hf' (by rw [hlen]; omega);rw [hlen] at h2;exact ⟨h1,by omega⟩
  have aft:∀ (s' : SS) (k:Nat),s'.full=false→s'.infs.length≤s.infs.length+(1+B) →
    (aftGo rec x p needs n0 dec st c cs reasons skips k s').ss.full=false∧(aftGo rec x p needs n0 dec st c cs reasons skips k s').ss.infs.length≤s.infs.length+(3+(reasons.length+(cs.length+1))+(cs.length*(1+B)+(1+B))):=fun s' k hf' hl=>by
   unfold aftGo;split
   ·exact ⟨hf',by show s'.infs.length≤_; omega⟩
   ·exact go s' k _ hf' hl
  cases needs.find? fun n=>!has n.rq.set c.place with
  | some n =>
   obtain ⟨a1,a2⟩:=addI_cnt (infN n) (incN n) hf (by omega);exact go _ _ _ a1 (by show (addI s (infN n) (incN n)).2.infs.length≤_; omega)
  | none =>
   dsimp only;cases entN s.drv (keysC (dec++[c])) with
   | some k=>exact aft s k hf (by omega)
   | none =>
    dsimp only;cases clashN dec c with
    | some n =>
     obtain ⟨a1,a2⟩:=addI_cnt (infN n) (incN n) hf (by omega);exact aft _ _ a1 (by show (addI s (infN n) (incN n)).2.infs.length≤_; omega)
    | none =>
     dsimp only;obtain ⟨r1,r2⟩:=hrec c (hm c (List.mem_cons_self ..)) s (st++[skips]) hf (by omega);split
     ·exact ⟨r1,by show (rec (dec++[c]) s (st++[skips])).ss.infs.length≤_; omega⟩
     rw [if_neg (by rw [r1]; decide)];exact aft _ _ r1 (by omega)
theorem freeN_cands {c:Cd} (hc:c ∈ candsP x p) (hu:doneC dec p=false):freeN x (dec++[c])+(candsP x p).length=freeN x dec:=by
 obtain ⟨c1,_⟩:=cand_ok hc;unfold freeN candsP;rw [List.length_map];have key:∀ l:List Rl,(l.filter fun r=>!r.yanked&&!doneC (dec++[c]) r.path).length+(l.filter fun r=>decide (r.path=p)&&!r.yanked).length=(l.filter fun r=>!r.yanked&&!doneC dec r.path).length:=by
  intro l
  induction l with
  | nil=>rfl
  | cons r l ih =>
   have hdd:doneC (dec++[c]) r.path=(doneC dec r.path||decide (p=r.path)):=by unfold doneC; rw [List.any_append]; simp [c1]
   rw [List.filter_cons,List.filter_cons,List.filter_cons,hdd]
   by_cases e:r.path=p
   ·rw [e,hu];cases r.yanked <;> simp <;> omega
   ·have e2:decide (p=r.path)=false:=decide_eq_false (Ne.symm e);rw [e2,Bool.or_false,decide_eq_false e];cases r.yanked <;> cases doneC dec r.path <;> simp <;> omega
 exact key x
theorem solveS_cnt:∀ (n:Nat) {dec:List Cd} {s:SS} {st:List (List Sk)},s.full=false→freeN x dec≤16→s.infs.length+MT (freeN x dec)≤65535 →
  (solveS x roots n dec s st).ss.full=false∧(solveS x roots n dec s st).ss.infs.length≤s.infs.length+MT (freeN x dec)
 | 0,_,_,_,hf,_,_=>⟨hf,Nat.le_add_right ..⟩
 | n+1,dec,s,st,hf,hR,hc=>by
  unfold solveS;cases e:(nextN roots dec).2 with
  | nil=>exact ⟨hf,Nat.le_add_right ..⟩
  | cons n0 l =>
   have hN:=nextN_some e;dsimp only;obtain ⟨m1,m2⟩:=MT_step _ hR;cases hcs:candsP x (nextN roots dec).1 with
   | nil =>
    obtain ⟨h1,h2⟩:=learnS_cnt (x:=x) (p:=(nextN roots dec).1) (n0:=n0) (s:=s) [] hf (by simp; omega);refine ⟨h1,?_⟩;show (learnS x (nextN roots dec).1 n0 [] s).2.infs.length≤_;simp at h2; omega
   | cons c0 cs0 =>
    have hfree:∀ c ∈ candsP x (nextN roots dec).1,freeN x (dec++[c])=freeN x dec - (candsP x (nextN roots dec).1).length∧(candsP x (nextN roots dec).1).length≤freeN x dec:=fun c hc=>by
     have:=freeN_cands (dec:=dec) hc hN.undone
     omega
    have hc0:c0 ∈ candsP x (nextN roots dec).1:=by rw [hcs]; exact List.mem_cons_self ..
    have hk:=hfree c0 hc0;have hk0:(candsP x (nextN roots dec).1).length≠0:=by rw [hcs]; simp
    have hm:=(m2 _ hk.2).resolve_right hk0;generalize hK:(candsP x (nextN roots dec).1).length=K at *
    have hlen:(c0 :: cs0).length=K:=by rw [← hcs]; exact hK
    have hbound:3+(([]:List Nat).length+(c0 :: cs0).length)+(c0 :: cs0).length*(1+MT (freeN x dec - K))≤MT (freeN x dec):=by
     rw [hlen,List.length_nil,Nat.mul_add]; omega
    have hKpos:K≤K*(1+MT (freeN x dec - K)):=Nat.le_mul_of_pos_right _ (by omega);have hB:MT (freeN x dec - K)≤K*(1+MT (freeN x dec - K)):=by
     calc MT (freeN x dec - K)≤1+MT (freeN x dec - K):=by omega
      _≤K*(1+MT (freeN x dec - K)):=Nat.le_mul_of_pos_left _ (by omega)
    obtain ⟨h1,h2⟩:=candGo_cnt (x:=x) (p:=(nextN roots dec).1) (needs:=n0 :: l) (n0:=n0) (dec:=dec) (st:=st) (rec:=solveS x roots n) (B:=MT (freeN x dec - K)) (fun c hc s st hf hl=>by
     have:=hfree c hc
     have h3:=solveS_cnt n (dec:=dec++[c]) (s:=s) (st:=st) hf (by omega) (by rw [this.1]; exact hl);rw [this.1] at h3; exact h3) (c0 :: cs0) (s:=s) (reasons:=[]) (skips:=[]) (fun c hc=>by rw [hcs]; exact hc) hf (by omega)
    exact ⟨h1,by omega⟩
theorem solveX_few (h:x.length≤16):(solveX x roots).ss.full=false:=by
 have hf:=freeN_le x [];exact (solveS_cnt (x:=x) (roots:=roots) _ (dec:=[]) (s:=ss0) (st:=[]) rfl (by omega) (by
  have:∀ R≤16,([]:List Nf).length+MT R≤65535:=by decide
  exact this _ (by omega))).1
end
end Go.Eng

namespace Go.Eng
end Go.Eng

namespace Go.Eng
section
variable {x:List Rl} {roots:List Rq} {d:List (List Tm)} {i:Nf}
end
end Go.Eng
