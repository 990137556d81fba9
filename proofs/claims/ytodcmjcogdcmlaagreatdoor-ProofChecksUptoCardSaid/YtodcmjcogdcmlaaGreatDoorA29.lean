/- Lemmas for the claims of this seat, without a condition: part 29 (R35). -/
import Derived.Test.YtodcmjcogdcmlaaGreatDoorA28
namespace Go.Eng
open Go.Proofs
theorem dns_few (x:List Rl) (roots:List Rq) (s:List Sl):(decisionsP x roots s).1.length≤s.length:=by
 rw [dns_eq]; show ((decideR x roots s).1.map _).length≤_; rw [Lm]; exact dec_len
set_option maxHeartbeats 4000000 in
theorem c4 (x:List Rl) (ifs:List (List AV)) (roots:List Rq) (s:List Sl) (a:An) (L:Lim x roots):PC 4 [.agg (Ic x ifs),sl encRq roots,sl encSl s,.agg (encAn a)] (vb true):=by
 have h11:=L.c11 ifs;have hdl:=dns_few x roots s;have h20:=c20 (decisionsP x roots s).1 (decisionsP x roots s).1;rw [decide_eq_true rfl] at h20;refine Ps ⟨[],[],[],[],[],[],[],[],[],[],[3,4,5,6,7]⟩ Tryz.func4 rfl (Nz rfl) ?_;refine Xi .pure (Xi _ (Yi c10 ?_));refine Xi ⟨[(1,sl encRq roots),(2,sl encSl s),(4,.ref 4 0),(7,.ref 7 0)],[(4,.cells (Ic x ifs)),(7,.cells (encAn a))],hfree⟩ (Yi ⟨Z4,Z2,Fh,Tv⟩ ?_)
 refine Yi (Nz rfl) ?_;refine Or.elim (Bt (smallX x 16&&smallQs roots)) (fun h1=>?_) (fun h1=>?_)
 ·have h1:(smallX x 16&&smallQs roots)=true:=h1;have hc2:=h11;rw [show (smallX x 16&&smallQs roots)=true from h1] at hc2;refine Xi .pure (Xi _ (Yi hc2 ?_));refine Yi (fun h3=>?_) (fun h3=>?_)
  ·have h3:(16:Int)<((s.map encSl).length:Int):=h3;have n3:16<s.length:=by have q:=h3; rw [Lm] at q; omega
   refine Xi ⟨[],[],hfree⟩ (Yi ⟨Tv,Tv,Fh,Tv⟩ ?_)
   exact .refl _
  have h3:¬ ((16:Int)<((s.map encSl).length:Int)):=h3;have n3:¬ 16<s.length:=by have q:=h3; rw [Lm] at q; omega
  refine Yi (Nz rfl) ?_;refine Or.elim (Bt (small a)) (fun h5=>?_) (fun h5=>?_)
  ·have h5:(small a)=true:=h5;have hc6:=(c17 a);rw [show (small a)=true from h5] at hc6;refine Xi .pure (Xi _ (Yi hc6 ?_));refine Xi ⟨[(1,sl encRq roots),(2,sl encSl s),(4,.ref 4 0),(7,.ref 7 0)],[(4,.cells (Ic x ifs)),(7,.cells (encAn a))],hfree⟩ (Yi ⟨Z4,Z2,Fh,Tv⟩ ?_)
   refine Yi (Nz rfl) ?_;refine Xi .pure (Xi _ (Yi (show PC 18 [ixV x ifs,sl encRq roots,sl encSl s] (.tup [sl encStr1 (decisionsP x roots s).1,vi (decisionsP x roots s).2]) from c18 x ifs roots s (L.c84 ifs) L.x L.rq (by have q:=h3; rw [Lm] at q; omega)) ?_));refine Xi ⟨[(1,sl encRq roots),(2,sl encSl s),(4,.ref 4 0),(7,.ref 7 0),(9,sl encStr1 (decisionsP x roots s).1),(10,vi (decisionsP x roots s).2)],[(4,.cells (Ic x ifs)),(7,.cells (encAn a))],hfree⟩ (Yi ⟨Z6,Z2,Fh,Tv⟩ ?_)
   refine Yi (Nz rfl) ?_;refine Xi .pure (Xi _ (Yi (show PC 19 [ixV x ifs,sl encRq roots,sl encSl s] (.tup [sl encStr1 (decisionsP x roots s).1,vi (decisionsP x roots s).2]) from c19 x ifs roots s L.x L.ix L.rq (by have q:=few_roots h1; omega) (by have q:=h3; rw [Lm] at q; omega)) ?_));refine Xi ⟨[(1,sl encRq roots),(4,.ref 4 0),(7,.ref 7 0),(9,sl encStr1 (decisionsP x roots s).1),(10,vi (decisionsP x roots s).2),(11,sl encStr1 (decisionsP x roots s).1),(12,vi (decisionsP x roots s).2)],[(4,.cells (Ic x ifs)),(7,.cells (encAn a))],hfree⟩ (Yi ⟨Z7,Z2,Fh,Tv⟩ ?_)
   refine Xi _ (Yi (h20 (by have q:=h3; rw [Lm] at q; unfold Few; omega)) ?_);refine Yi (fun _=>?_) (fun hf=>absurd rfl hf);refine Yi (Nz rfl) ?_;refine Yi (Nz rfl) ?_;refine Xi _ (Yi (L.c21 ifs h1 a h5) ?_);refine Yi (Nz rfl) ?_;refine Yi (Nz rfl) ?_;refine Xi _ (Yi (c22 x ifs roots a L.x L.ix L.rq (by have q:=few_roots h1; omega) (by have q:=(small_sel h5).1; omega) (by have q:=(small_sel h5).2.1; omega)) ?_);refine Yi (fun _=>?_) (fun hf=>absurd rfl hf);refine Yi (by kernel_rfl) ?_;exact .refl _
  have h5:(small a)=false:=h5;have hc8:=(c17 a);rw [show (small a)=false from h5] at hc8;refine Xi .pure (Xi _ (Yi hc8 ?_));refine Xi ⟨[],[],hfree⟩ (Yi ⟨Tv,Tv,Fh,Tv⟩ ?_)
  exact .refl _
 have h1:(smallX x 16&&smallQs roots)=false:=h1;have hc10:=h11;rw [show (smallX x 16&&smallQs roots)=false from h1] at hc10;refine Xi .pure (Xi _ (Yi hc10 ?_));refine Xi ⟨[],[],hfree⟩ (Yi ⟨Tv,Tv,Fh,Tv⟩ ?_)
 exact .refl _
end Go.Eng
