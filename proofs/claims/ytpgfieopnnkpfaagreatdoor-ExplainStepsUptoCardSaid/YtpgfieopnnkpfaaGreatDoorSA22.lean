/- Lemmas for the claims of this seat, without a condition: part 22 (C70, C71, C72, C73, J1). -/
import Derived.Test.YtpgfieopnnkpfaaGreatDoorSA21
import Derived.Test.YtpgfieopnnkpfaaGreatDoorCards
import Derived.Test.YtpgfieopnnkpfaaGreatDoorTie
import Derived.ProofKit
import Derived.OpenShut
import Derived.Deep.DeepHandedRow
import Derived.Lib.LaidTab
import Derived.Stop.LaidErr
namespace Go.Eng
open Go.Proofs
theorem deriveGo_in {x:List Rl} {roots:List Rq} {l0:List Nf} : ∀ (l:List Nf) (d d' : List (List Tm)),(∀ i ∈ l,i ∈ l0)→(∀ t ∈ d,InU (pathsU x roots l0) t)→deriveGo x roots l d=some d'→∀ t ∈ d',InU (pathsU x roots l0) t
 | [],d,d',_,hd,h=>by
  have:d=d':=Option.some.inj h
  exact this▸hd
 | i :: l,d,d',hi,hd,h=>by
  unfold deriveGo at h;cases e:inferP x roots d i with
  | none=>rw [e] at h; cases h
  | some t =>
   rw [e] at h;refine deriveGo_in l (d++[t]) d' (fun j hj=>hi j (List.mem_cons_of_mem _ hj)) (fun u hu=>?_) h;rcases List.mem_append.1 hu with hu | hu
   ·exact hd u hu
   ·rw [List.mem_singleton.1 hu]; exact inferP_in (hi i (List.mem_cons_self ..)) hd e
theorem derived_few {x:List Rl} {roots:List Rq} {l:List Nf} (h:(deriveP x roots l).2=0):∀ t ∈ (deriveP x roots l).1,FewT t:=fun t ht=>by
 obtain ⟨h1,h2,h3,h4⟩:=deriveP_ok h
 have:=(deriveGo_in (l0:=l) l [] _ (fun _ h=>h) (fun _ h=>by cases h) h4 t ht).fewI (pathsU_few h1 h2 h3)
 exact ⟨by have:=this.1; unfold Few; omega,this.2⟩
theorem fold_out (l:List Vis) (a:List ByteArray):l.foldl outStep a=a++l.map (fun v=>v.rel.path):=by
 induction l generalizing a with
 | nil=>simp
 | cons v l ih=>rw [List.foldl_cons,ih,List.map_cons]; simp [outStep]
abbrev pl18:Pol:=⟨[],[],[],[],[],[],[],[(24,(10,0,900,1))],[],[],[4,5,7]⟩
abbrev decV (p:List ByteArray × Int):AV:=.tup [sl encStr1 p.1,vi p.2]
theorem nilD (e:Int):Sub (.tup [.v (.slice none 0 0),vi e]) (decV ([],e)):=Sub.tup ⟨.nil,.refl _,trivial⟩
theorem c18 (x:List Rl) (ifs:List (List AV)) (roots:List Rq) (s:List Sl) (h84:H84 x ifs) (hx:∀ r ∈ x,FewR r) (hr:∀ q ∈ roots,FewQ q) (hs:s.length≤500):PC 37 [ixV x ifs,sl encRq roots,sl encSl s] (decV (decisionsP x roots s)):=by
 have hsf:Few s:=by unfold Few; omega
 have hc36:PC 62 [ixV x ifs,sl encRq roots,.v (.slice none 0 0)] (ckRes x ifs roots []):=(c36 x ifs roots [] hx hr (fun _=>c165 x ifs roots h84)).args ⟨.refl _,.refl _,.nil,trivial⟩;have hc41:=c41 s hsf;obtain ⟨D,hD⟩ : ∃ D,D=decisionsP x roots s:=⟨_,rfl⟩;rw [← hD];unfold decisionsP at hD
 by_cases h0:checkIx x≠0∨checkRqs roots≠0
 ·have e:deriveP x roots []=([],1):=by unfold deriveP; rw [if_pos h0]
  have hD:D=([],1):=by rw [hD,if_pos (h0.elim .inl (fun h=>.inr (.inl h)))]
  rw [← ckRes_err e (by decide)] at hc36;refine Ps pl18 Tryz.func37 rfl (Nz rfl) ?_;refine Yi (Nz rfl) ?_;refine Xi .pure (Xi _ (Yi (hc36) ?_));refine Yi ?_ ?_
  ·intro _;exact (nilD 1).trans (.of_eq (by rw [hD]))
  ·intro h; exact absurd (show (1:Int)≠0 by decide) h
 ·have e:deriveP x roots []=([],0):=by unfold deriveP; rw [if_neg h0]; rfl
  have h1:checkIx x=0:=Classical.not_not.1 fun h=>h0 (.inl h);have h2:checkRqs roots=0:=Classical.not_not.1 fun h=>h0 (.inr h);rw [← ckRes_ok e] at hc36;cases hi:increasing s with
  | false =>
   have hD:D=([],1):=by rw [hD,if_pos (.inr (.inr hi))]
   rw [hi] at hc41;refine Ps pl18 Tryz.func37 rfl (Nz rfl) ?_;refine Yi (Nz rfl) ?_;refine Xi .pure (Xi _ (Yi (hc36) ?_));refine Yi ?_ ?_
   ·intro h; exact absurd rfl h
   intro _;refine Xi .pure (Xi _ (Yi (hc41) ?_));exact (nilD 1).trans (.of_eq (by rw [hD]))
  | true =>
   have hD:D=if (visits x roots s).2 then ((visits x roots s).1.map fun v=>v.rel.path,0) else ([],6):=by
    rw [hD,if_neg (fun h=>h.elim (fun h=>h0 (.inl h)) (fun h=>h.elim (fun h=>h0 (.inr h)) (fun h=>by rw [hi] at h; cases h)))]
   rw [hi] at hc41;have hcd:=c42d x ifs roots [] s [] h84 h1 hx (by have:=reqs_few h2; omega) (fun q hq=>(hr q hq).1) hs rfl;have hf:(visits x roots s).1.foldl outStep []=(visits x roots s).1.map (fun v=>v.rel.path):=by rw [fold_out]; rfl
   rw [hf] at hcd;refine Ps pl18 Tryz.func37 rfl (Nz rfl) ?_;refine Yi (Nz rfl) ?_;refine Xi .pure (Xi _ (Yi (hc36) ?_));refine Yi ?_ ?_
   ·intro h; exact absurd rfl h
   intro _;refine Xi .pure (Xi _ (Yi (hc41) ?_));refine Xi ⟨[(2,sl encSl s),(8,.cptr (encCk x (.slice .none ifs) roots []))],[],hfree⟩ (Yi ⟨Z2,Tv,Fh,Tv⟩ ?_)
   refine Xi ⟨[(2,sl encSl s),(8,.cptr (encCk x (.slice .none ifs) roots [])),(10,.ref 10 0)],[(10,.cells [.v (.slice none 0 0)])],hfree⟩ (Yi ⟨Z3,Z1,Fh,Tv⟩ ?_)
   refine Xi (.gen [(10,1000),(900,1001)] 0) (Yi rfl (hcd.imp ?_));intro v g q;have q1:=q.1;have q2:=q.2;refine Or.elim (Bt (visits x roots s).2) (fun hv=>?_) (fun hv=>?_)
   ·rw [hv] at q1 hD;subst q1;subst q2;refine Xi ⟨[(10,.ref 10 0)],[(10,.cells [.slice (.id 900 1) (((visits x roots s).1.map (fun v=>v.rel.path)).map encStr1)]),(900,.tok 1 (((visits x roots s).1.map (fun v=>v.rel.path)).map encStr1).length)],hfree⟩ (Yi ⟨Z1,⟨Zr,Zr,Tv⟩,Fh,Tv⟩ ?_)
    exact .of_eq (show decV ((visits x roots s).1.map (fun v=>v.rel.path),0)=decV D by rw [hD]; rfl)
   ·rw [hv] at q1 hD;subst q1;subst q2;exact (nilD 6).trans (.of_eq (show decV ([],6)=decV D by rw [hD]; rfl))
abbrev pl21:Pol:=⟨[7],[],[],[],[],[],[],[],[],[],[2,4,8,10,11,12,13]⟩
theorem c21 (x:List Rl) (ifs:List (List AV)) (roots:List Rq) (a:An) (h84:H84 x ifs) (h45:H45 x ifs roots a.sel) (hx:∀ r ∈ x,FewR r) (hr:∀ q ∈ roots,FewQ q) (hs:a.sel.length≤500) (hk:Few a.skips):PC 35 [ixV x ifs,sl encRq roots,.agg (encAn a)] (vi (checkP x roots a)):=by
 obtain ⟨found,sel,infs,skips⟩:=a;have hs:sel.length≤500:=hs;have hc36:=c36 x ifs roots infs hx hr (fun _=>c165 x ifs roots h84);unfold ckRes at hc36;obtain ⟨D,hD⟩ : ∃ D,D=checkP x roots ⟨found,sel,infs,skips⟩:=⟨_,rfl⟩;rw [← hD];unfold checkP at hD
 by_cases he:(deriveP x roots infs).2=0
 ·rw [if_pos he] at hc36;rw [if_neg (by rw [he]; decide)] at hD;obtain ⟨h1,h2,h3,h4⟩:=deriveP_ok he;have hdf:=derived_few he;have hdl:(deriveP x roots infs).1.length≤65536:=derive_few;obtain ⟨d,hd⟩ : ∃ d,d=(deriveP x roots infs).1:=⟨_,rfl⟩;rw [← hd] at hD hc36 hdf hdl;have hc40:=c40 x (.slice .none ifs) roots d (by unfold Few; omega);refine Ps pl21 Tryz.func35 rfl (Nz rfl) ?_;refine Yi (Nz rfl) ?_;refine Xi .pure (Xi _ (Yi (hc36) ?_));refine Yi (Nz rfl) ?_;refine Xi ⟨[(1,sl encRq roots),(3,.ref 3 0),(5,.ref 5 0),(7,.ref 7 0),(8,vi 0)],[(3,.cells (Ic x ifs)),(5,.cells [vb found,sl encSl sel,sl encNf infs,sl encSk skips]),(7,.ro [.cptr (encCk x (.slice .none ifs) roots d)])],hfree⟩ (Yi ⟨Z5,Z3,Fh,Tv⟩ ?_)
  refine Yi ?_ ?_
  ·intro h; exact absurd rfl h
  intro _;refine Xi ⟨[(1,sl encRq roots),(3,.ref 3 0),(5,.ref 5 0),(7,.ref 7 0)],[(3,.cells (Ic x ifs)),(5,.cells [vb found,sl encSl sel,sl encNf infs,sl encSk skips]),(7,.ro [.cptr (encCk x (.slice .none ifs) roots d)])],hfree⟩ (Yi ⟨Z4,Z3,Fh,Tv⟩ ?_)
  refine Yi ?_ ?_
  ·intro hf;have hf:found=true:=hf;have hD:D=if solvesP x roots sel≠0 then 18 else if (((visits x roots sel).1.foldl (skipStep x d) (true,skips)).1&&((visits x roots sel).1.foldl (skipStep x d) (true,skips)).2.isEmpty) then 0 else 18:=by
    rw [hD,if_neg (by show ¬ found=false; rw [hf]; decide)]
   refine Xi ⟨[(1,sl encRq roots),(3,.ref 3 0),(5,.ref 5 0),(7,.ref 7 0)],[(3,.cells (Ic x ifs)),(5,.cells [vb found,sl encSl sel,sl encNf infs,sl encSk skips]),(7,.ro [.cptr (encCk x (.slice .none ifs) roots d)])],hfree⟩ (Yi ⟨Z4,Z3,Fh,Tv⟩ ?_)
   refine Yi (Nz rfl) ?_;refine Xi .pure (Xi _ (Yi (h45) ?_));refine Yi ?_ ?_
   ·intro hz;have hz:solvesP x roots sel≠0:=hz;exact .of_eq (congrArg vi (show (18:Int)=D by rw [hD,if_pos hz]))
   intro hz;have hz:¬ solvesP x roots sel≠0:=hz;have hD:D=if (((visits x roots sel).1.foldl (skipStep x d) (true,skips)).1&&((visits x roots sel).1.foldl (skipStep x d) (true,skips)).2.isEmpty) then 0 else 18:=by rw [hD,if_neg hz]
   have hcd:=c42c x ifs roots d sel (true,skips) h84 h1 hx (by have:=reqs_few h2; omega) (fun q hq=>(hr q hq).1) hs hdl hdf;refine Xi ⟨[(5,.ref 5 0),(7,.ref 7 0)],[(5,.cells [vb found,sl encSl sel,sl encNf infs,sl encSk skips]),(7,.ro [.cptr (encCk x (.slice .none ifs) roots d)])],hfree⟩ (Yi ⟨Z2,Z2,Fh,Tv⟩ ?_)
   refine Yi (Nz rfl) ?_;refine Xi ⟨[(5,.ref 5 0),(7,.ref 7 0),(9,.ref 9 0)],[(5,.cells [vb found,sl encSl sel,sl encNf infs,sl encSk skips]),(7,.ro [.cptr (encCk x (.slice .none ifs) roots d)]),(9,.cells [vb true])],hfree⟩ (Yi ⟨Z3,Z3,Fh,Tv⟩ ?_)
   refine Yi (Nz rfl) ?_;refine Xi ⟨[(5,.ref 5 0),(7,.ref 7 0),(9,.ref 9 0),(10,.ref 10 0)],[(5,.cells [vb found,sl encSl sel,sl encNf infs,sl encSk skips]),(7,.ro [.cptr (encCk x (.slice .none ifs) roots d)]),(9,.cells [vb true]),(10,.cells [sl encSk skips])],hfree⟩ (Yi ⟨Z4,Z4,Fh,Tv⟩ ?_)
   refine Xi (.gen [(10,1000),(9,1001)] 0) (Yi rfl (hcd.imp ?_));intro v g q;have q1:=q.1;have q2:=q.2;subst q1;subst q2;refine Exists.elim (show ∃ A,A=(visits x roots sel).1.foldl (skipStep x d) (true,skips) from ⟨_,rfl⟩) (fun A hA=>?_);refine Xi ⟨[(9,.ref 9 0),(10,.ref 10 0)],[(9,.cells [vb A.1]),(10,.cells [sl encSk A.2])],hfree⟩ (Yi ⟨Z2,⟨⟨congrArg (fun a:Bool × List Sk=>HO.cells [vb a.1]) hA.symm,rfl⟩,⟨congrArg (fun a:Bool × List Sk=>HO.cells [sl encSk a.2]) hA.symm,rfl⟩,Tv⟩,Fh,Tv⟩ ?_)
   rw [← hA] at hD;refine Yi ?_ ?_
   ·intro h5;have h5:A.1=true:=h5;refine Yi ?_ ?_
    ·intro h6;have h6:(0:Int)<(A.2.map encSk).length:=h6;have h6:A.2.isEmpty=false:=by
      cases e:A.2 with
      | nil=>rw [e] at h6; exact absurd h6 (by decide)
      | cons _ _=>rfl
     exact .of_eq (congrArg vi (show (18:Int)=D by rw [hD,h5,h6]; rfl))
    ·intro h6;have h6:¬ (0:Int)<(A.2.map encSk).length:=h6;have h6:A.2.isEmpty=true:=by
      cases e:A.2 with
      | nil=>rfl
      | cons _ _=>rw [e] at h6; exact absurd (by rw [List.map_cons,List.length_cons]; omega) h6
     exact .of_eq (congrArg vi (show (0:Int)=D by rw [hD,h5,h6]; rfl))
   ·intro h5;have h5:A.1=false:=h5;exact .of_eq (congrArg vi (show (18:Int)=D by rw [hD,h5]; rfl))
  ·intro hf;have hf:found=false:=hf;have hD:D=if (!sel.isEmpty||!skips.isEmpty||!refutedB d) then 18 else 0:=by
    rw [hD,if_pos hf]
   refine Yi ?_ ?_
   ·intro h5;have h5:(0:Int)<(sel.map encSl).length:=h5;have h5:sel.isEmpty=false:=by
     cases e:sel with
     | nil=>rw [e] at h5; exact absurd h5 (by decide)
     | cons _ _=>rfl
    exact .of_eq (congrArg vi (show (18:Int)=D by rw [hD,h5]; rfl))
   intro h5;have h5:¬ (0:Int)<(sel.map encSl).length:=h5;have h5:sel.isEmpty=true:=by
    cases e:sel with
    | nil=>rfl
    | cons _ _=>rw [e] at h5; exact absurd (by rw [List.map_cons,List.length_cons]; omega) h5
   refine Yi ?_ ?_
   ·intro h6;have h6:(0:Int)<(skips.map encSk).length:=h6;have h6:skips.isEmpty=false:=by
     cases e:skips with
     | nil=>rw [e] at h6; exact absurd h6 (by decide)
     | cons _ _=>rfl
    exact .of_eq (congrArg vi (show (18:Int)=D by rw [hD,h5,h6]; rfl))
   intro h6;have h6:¬ (0:Int)<(skips.map encSk).length:=h6;have h6:skips.isEmpty=true:=by
    cases e:skips with
    | nil=>rfl
    | cons _ _=>rw [e] at h6; exact absurd (by rw [List.map_cons,List.length_cons]; omega) h6
   refine Or.elim (Bt (refutedB d)) (fun h7=>?_) (fun h7=>?_)
   ·rw [h7] at hc40;refine Xi .pure (Xi _ (Yi (hc40) ?_));exact .of_eq (congrArg vi (show (0:Int)=D by rw [hD,h5,h6,h7]; rfl))
   ·rw [h7] at hc40;refine Xi .pure (Xi _ (Yi (hc40) ?_));exact .of_eq (congrArg vi (show (18:Int)=D by rw [hD,h5,h6,h7]; rfl))
 ·rw [if_neg he] at hc36;rw [if_pos he] at hD;refine Ps pl21 Tryz.func35 rfl (Nz rfl) ?_;refine Yi (Nz rfl) ?_;refine Xi .pure (Xi _ (Yi (hc36) ?_));refine Yi (Nz rfl) ?_;refine Xi ⟨[(8,vi (deriveP x roots infs).2)],[],hfree⟩ (Yi ⟨Z1,Tv,Fh,Tv⟩ ?_)
  refine Yi ?_ ?_
  ·intro _;exact .of_eq (congrArg vi hD.symm)
  ·intro h; exact absurd he h
end Go.Eng

namespace Go.Eng
open Go.Proofs
def potL (d:List ByteArray):List Rl→Nat
 | []=>0
 | r :: l=>(if d.any (fun p=>decide (p=r.path)) then 0 else r.reqs.length)+potL d l
theorem potL_le (d:List ByteArray) (p:ByteArray):∀ l:List Rl,potL (d++[p]) l≤potL d l
 | []=>Nat.le_refl _
 | r :: l=>by
  have ih:=potL_le d p l;unfold potL;rw [List.any_append];cases d.any (fun p=>decide (p=r.path)) with
  | true=>simpa using ih
  | false =>
   simp only [Bool.false_or,Bool.false_eq_true,if_false];split <;> omega
theorem potL_next (d:List ByteArray) (p:ByteArray) (hp:d.any (fun q=>decide (q=p))=false):∀ l:List Rl,potL (d++[p]) l+(reqsOf l p).length≤potL d l
 | []=>by simp [potL,reqsOf]
 | r :: l=>by
  by_cases hr:r.path=p
  ·have e:reqsOf (r :: l) p=r.reqs:=by unfold reqsOf; rw [List.find?_cons]; simp [hr]
   rw [e];unfold potL;rw [List.any_append,hr,hp]
   have:=potL_le d p l
   simp;omega
  ·have e:reqsOf (r :: l) p=reqsOf l p:=by unfold reqsOf; rw [List.find?_cons]; simp [hr]
   rw [e];have ih:=potL_next d p hp l;unfold potL;rw [List.any_append];have e2:([p].any fun q=>decide (q=r.path))=false:=by simp; exact fun h=>hr h.symm
   rw [e2,Bool.or_false];omega
theorem potL_nil:∀ l:List Rl,potL [] l=(l.map fun r=>r.reqs.length).foldl (·+·) 0
 | l=>by
  have gen:∀ (l:List Rl) (a:Nat),(l.map fun r=>r.reqs.length).foldl (·+·) a=a+potL [] l:=fun l=>by
   induction l with
   | nil=>intro a; rfl
   | cons r l ih=>intro a; rw [List.map_cons,List.foldl_cons,ih]; simp [potL]; omega
  rw [gen,Nat.zero_add]
structure NI (l:List Rl) (roots:List Rq) (d:List ByteArray) (t:List Rq) (n:Nat):Prop where
 need:needP l (fuelP l roots) roots []=needP l n t d
 pot:t.length+potL d l+1≤n
section
variable {l:List Rl} {roots t:List Rq} {d:List ByteArray} {n:Nat}
theorem NI.start (l:List Rl) (roots:List Rq):NI l roots [] roots (fuelP l roots):=⟨rfl,by rw [potL_nil]; unfold fuelP; omega⟩
theorem NI.stop (h:NI l roots d [] n):needP l (fuelP l roots) roots []=d:=by
 rw [h.need];cases n <;> rfl
theorem NI.old {q:Rq} (h:NI l roots d (q :: t) (n+1)) (hq:d.any (fun p=>decide (p=q.path))=true):NI l roots d t n :=
 ⟨by rw [h.need]; show (if _ then _ else _)=_; rw [if_pos hq],by have:=h.pot; simp only [List.length_cons] at this; omega⟩
theorem NI.new {q:Rq} (h:NI l roots d (q :: t) (n+1)) (hq:d.any (fun p=>decide (p=q.path))=false):NI l roots (d++[q.path]) (t++reqsOf l q.path) n :=
 ⟨by rw [h.need]; show (if _ then _ else _)=_; rw [if_neg (by rw [hq]; decide)],by
  have:=h.pot
  have:=potL_next d q.path hq l
  simp only [List.length_cons,List.length_append] at *; omega⟩
end
abbrev kvD (p:ByteArray):Value × AV:=(.string p,vb true)
theorem kvD_mem {d:List ByteArray} {p:ByteArray} {a:AV} (h:(Value.string p,a) ∈ d.map kvD):p ∈ d∧a=vb true:=by
 obtain ⟨q,h1,h2⟩:=List.mem_map.1 h;simp only [kvD,Prod.mk.injEq,Value.string.injEq] at h2;exact ⟨h2.1▸h1,h2.2.symm⟩
theorem any_mem {d:List ByteArray} {p:ByteArray} : (d.any fun q=>decide (q=p))=true↔p ∈ d:=any_path
theorem by_new {l:List Rl} (hn:(l.map (·.path)).Nodup) {i:Nat} (hi:i<l.length):mput ((l.take i).map kvN) (.string l[i].path) (.agg (encRl l[i]))=(l.take (i+1)).map kvN:=by
 rw [mput_app]
 ·rw [List.take_add_one,Ge hi,List.map_append]; rfl
 intro a ha;obtain ⟨r,hr,he,_⟩:=kvN_mem ha;obtain ⟨j,hj,e2⟩:=List.mem_iff_getElem.1 hr;rw [List.length_take] at hj;rw [List.getElem_take] at e2
 have:=(List.getElem_inj (xs:=l.map (·.path)) (i:=j) (j:=i) (h₀:=by rw [Lm]; omega) (h₁:=by rw [Lm]; omega) hn).1 (by rw [List.getElem_map,List.getElem_map,e2,he])
 omega
theorem sel_nodup {x:List Rl} {s:List Sl} {l:List Rl} (hi:increasing s=true) (h:selP x s=some l):(l.map (·.path)).Nodup:=by
 have e:=(selP_ok h).1
 have:l.map (·.path)=s.map (·.path):=by rw [← e,List.map_map]; rfl
 rw [this];have hp:=(incGo_pair hi).1;have gen:∀ {s:List Sl},s.Pairwise (fun a b=>blt a.path b.path=true)→(s.map (·.path)).Nodup:=fun {s} hs=>by
  induction s with
  | nil=>simp
  | cons y s ih =>
   rw [List.pairwise_cons] at hs;rw [List.map_cons,List.nodup_cons];refine ⟨fun hm=>?_,ih hs.2⟩;obtain ⟨z,hz,e⟩:=List.mem_map.1 hm
   have:=hs.1 z hz
   rw [e,blt_irrefl] at this; cases this
 exact gen hp
abbrev pl45:Pol:=⟨[],[(72,2)],[],[(47,[35,10])],[],[],[72],[],[],[],[2,4,5,7,8,10,11,13,14,16,17,20,22,23,24,25,26,27,30]⟩
theorem c45 (x:List Rl) (ifs:List (List AV)) (roots:List Rq) (s:List Sl) (h84:H84 x ifs) (hx:∀ r ∈ x,FewR r) (hr:roots.length≤1000000) (hrq:∀ q ∈ roots,Few q.set) (hs:s.length≤1000000):H45 x ifs roots s:=by
 have hsf:Few s:=by unfold Few; omega
 have hrf:Few roots:=by unfold Few; omega
 obtain ⟨D,hD⟩ : ∃ D,D=solvesP x roots s:=⟨_,rfl⟩;unfold H45;rw [← hD];unfold solvesP at hD
 by_cases h0:checkIx x=0
 ·have h84:PC 138 [ixV x ifs] (.tup [.agg [.cmap shK (x.map kvR),.cmap shS ((pathsIx x []).map (kvP x))],vi 0]):=by
   have:=h84; unfold H84 tblV at this; rw [if_pos h0] at this; exact this
  rw [if_neg (by rw [h0]; decide)] at hD;have hc85:=c85 x s ((pathsIx x []).map (kvP x)) h0 hsf;unfold selV at hc85;cases hi:increasing s with
  | false =>
   rw [if_pos hi] at hc85;rw [if_pos (by rw [hi]; rfl)] at hD;refine Ps pl45 Tryz.func83 rfl (Nz rfl) ?_;refine Xi 0 ?_;refine Xi 0 ?_;refine Yi (Nz rfl) ?_;refine Xi .pure (Xi _ (Yi (h84) ?_));refine Yi (Nz rfl) ?_;refine Xi ⟨[(1,sl encRq roots),(2,sl encSl s),(7,.ref 7 0),(8,vi 0)],[(7,.cells [.cmap shK (x.map kvR),.cmap shS ((pathsIx x []).map (kvP x))])],hfree⟩ (Yi ⟨Z4,Z1,Fh,Tv⟩ ?_)
   refine Xi 0 ?_;refine Yi ?_ ?_
   ·intro h; exact absurd rfl h
   intro _;refine Xi ⟨[(1,sl encRq roots),(2,sl encSl s),(7,.ref 7 0)],[(7,.cells [.cmap shK (x.map kvR),.cmap shS ((pathsIx x []).map (kvP x))])],hfree⟩ (Yi ⟨Z3,Z1,Fh,Tv⟩ ?_)
   refine Xi 0 ?_;refine Yi (Nz rfl) ?_;refine Xi .pure (Xi _ (Yi (hc85) ?_));refine Xi ⟨[(8,vi 1)],[],hfree⟩ (Yi ⟨Z1,Tv,Fh,Tv⟩ ?_)
   refine Xi 0 ?_;refine Yi ?_ ?_
   ·intro _;refine Xi 0 ?_;exact .of_eq (congrArg vi hD.symm)
   ·intro h; exact absurd (show (1:Int)≠0 by decide) h
  | true =>
   rw [if_neg (by rw [hi]; decide)] at hc85;rw [if_neg (by rw [hi]; decide)] at hD;cases hsel:selP x s with
   | none =>
    rw [hsel] at hc85 hD;refine Ps pl45 Tryz.func83 rfl (Nz rfl) ?_;refine Xi 0 ?_;refine Xi 0 ?_;refine Yi (Nz rfl) ?_;refine Xi .pure (Xi _ (Yi (h84) ?_));refine Yi (Nz rfl) ?_;refine Xi ⟨[(1,sl encRq roots),(2,sl encSl s),(7,.ref 7 0),(8,vi 0)],[(7,.cells [.cmap shK (x.map kvR),.cmap shS ((pathsIx x []).map (kvP x))])],hfree⟩ (Yi ⟨Z4,Z1,Fh,Tv⟩ ?_)
    refine Xi 0 ?_;refine Yi ?_ ?_
    ·intro h; exact absurd rfl h
    intro _;refine Xi ⟨[(1,sl encRq roots),(2,sl encSl s),(7,.ref 7 0)],[(7,.cells [.cmap shK (x.map kvR),.cmap shS ((pathsIx x []).map (kvP x))])],hfree⟩ (Yi ⟨Z3,Z1,Fh,Tv⟩ ?_)
    refine Xi 0 ?_;refine Yi (Nz rfl) ?_;refine Xi .pure (Xi _ (Yi (hc85) ?_));refine Xi ⟨[(8,vi 6)],[],hfree⟩ (Yi ⟨Z1,Tv,Fh,Tv⟩ ?_)
    refine Xi 0 ?_;refine Yi ?_ ?_
    ·intro _;refine Xi 0 ?_;exact .of_eq (congrArg vi hD.symm)
    ·intro h; exact absurd (show (6:Int)≠0 by decide) h
   | some l =>
    rw [hsel] at hc85 hD;have hnd:=sel_nodup hi hsel;have hll:l.length=s.length:=by rw [← (selP_ok hsel).1,Lm]
    have hlx:∀ r ∈ l,r ∈ x:=fun r hr=>(findRl_ok ((selP_ok hsel).2.1 r hr)).2.1;have hlq:∀ r ∈ l,r.reqs.length≤16:=fun r hr=>(ix_few h0).2 r (hlx r hr);have hc86:∀ q:Rq,Few q.set→PC 140 ([.agg (encRq q)]++[.cptr [.cmap shS (l.map kvN)]]) (vb (brokenP l q)):=fun q hq=>c86 l hnd q hq;have hst:Stable [.cptr [.cmap shS (l.map kvN)]]:=fun c hc=>by
     obtain rfl:=List.mem_singleton.1 hc;intro h; rfl
    have hD:D=if l.any (fun r=>r.reqs.any (brokenP l)) then 17 else if roots.any (brokenP l) then 17 else if (needP l (fuelP l roots) roots []).length<l.length then 8 else 0:=hD
    refine Ps pl45 Tryz.func83 rfl (Nz rfl) ?_;refine Xi 0 ?_;refine Xi 0 ?_;refine Yi (Nz rfl) ?_;refine Xi .pure (Xi _ (Yi (h84) ?_));refine Yi (Nz rfl) ?_;refine Xi ⟨[(1,sl encRq roots),(2,sl encSl s),(7,.ref 7 0),(8,vi 0)],[(7,.cells [.cmap shK (x.map kvR),.cmap shS ((pathsIx x []).map (kvP x))])],hfree⟩ (Yi ⟨Z4,Z1,Fh,Tv⟩ ?_)
    refine Xi 0 ?_;refine Yi ?_ ?_
    ·intro h; exact absurd rfl h
    intro _;refine Xi ⟨[(1,sl encRq roots),(2,sl encSl s),(7,.ref 7 0)],[(7,.cells [.cmap shK (x.map kvR),.cmap shS ((pathsIx x []).map (kvP x))])],hfree⟩ (Yi ⟨Z3,Z1,Fh,Tv⟩ ?_)
    refine Xi 0 ?_;refine Yi (Nz rfl) ?_;refine Xi .pure (Xi _ (Yi (hc85) ?_));refine Xi ⟨[(1,sl encRq roots),(8,vi 0),(9,sl encRl l)],[],hfree⟩ (Yi ⟨Z3,Tv,Fh,Tv⟩ ?_)
    refine Xi 0 ?_;refine Yi ?_ ?_
    ·intro h; exact absurd rfl h
    intro _;refine Xi ⟨[(1,sl encRq roots),(9,sl encRl l)],[],hfree⟩ (Yi ⟨Z2,Tv,Fh,Tv⟩ ?_)
    refine Xi 0 ?_;refine Yi (Nz rfl) ?_;refine Xi ⟨[(1,sl encRq roots),(9,sl encRl l),(10,.ref 10 0)],[(10,.cells [.mref 35]),(35,.map shS [])],hfree⟩ (Yi ⟨Z3,Z2,Fh,Tv⟩ ?_)
    refine Xi 0 ?_;refine Xi {i:Nat // i≤l.length} (Xi (fun i=>⟨[(1,sl encRq roots),(9,sl encRl l),(10,.ref 10 0),(36,sl encRl l),(37,vi (l.map encRl).length),(38,vi i.1)],[(10,.cells [.mref 35]),(35,.map shS ((l.take i.1).map kvN))],hfree⟩) (Xi (fun i=>l.length - i.1) (Yi (Xi ⟨0,Nat.zero_le _⟩ ?_) ?_)))
    ·exact ⟨Z6,Z2,Fh,Tv⟩
    intro ⟨i,i1⟩;have i1:i≤l.length:=i1;refine Xi 0 ?_;refine Yi ?_ ?_
    ·intro h;have h:(i:Int)<(l.map encRl).length:=h;have h:i<l.length:=by simpa using h
     have hg:l[i]?=some l[i]:=Ge h;refine Xi ⟨[(1,sl encRq roots),(9,sl encRl l),(10,.ref 10 0),(36,sl encRl l),(37,vi (l.map encRl).length),(38,vi i)],[(10,.cells [.mref 35]),(35,.map shS ((l.take i).map kvN))],hfree⟩ (Yi ⟨Z6,Z2,Fh,Tv⟩ ?_)
     refine Xi 0 ?_;refine Xi (encRl l[i]) (Yi (Yi (Nn i) (by simp [hg])) (Yi rfl ?_));refine Yi (Nz rfl) (Yi (Nz rfl) ?_);refine Xi ⟨[(1,sl encRq roots),(9,sl encRl l),(10,.ref 10 0),(36,sl encRl l),(37,vi (l.map encRl).length),(12,.ref 12 0),(38,vi i)],[(12,.cells (encRl l[i])),(10,.cells [.mref 35]),(35,.map shS ((l.take i).map kvN))],hfree⟩ (Yi ⟨Z7,Z3,Fh,Tv⟩ ?_)
     refine Xi 0 ?_;refine Yi (Nz rfl) ?_;have e35:=by_new hnd h;refine Xi 0 ?_;refine Yi (Ii i (by omega)) ?_;refine Xi ⟨i+1,by omega⟩ ?_;exact ⟨Dl l.length i (by omega),Z6,⟨Zr,⟨congrArg (HO.map shS) e35,rfl⟩,Tv⟩,Fh,Tv⟩
    intro h;have h:¬ (i:Int)<(l.map encRl).length:=h;have h:¬ i<l.length:=by simpa using h
    have et:(l.take i).map kvN=l.map kvN:=by rw [List.take_of_length_le (by omega)]
    refine Xi ⟨[(1,sl encRq roots),(9,sl encRl l),(10,.ref 10 0)],[(10,.cells [.mref 35]),(35,.map shS (l.map kvN))],hfree⟩ (Yi ⟨Z3,⟨Zr,⟨congrArg (HO.map shS) et,rfl⟩,Tv⟩,Fh,Tv⟩ ?_)
    refine Xi 0 ?_;refine Xi ⟨[(1,sl encRq roots),(9,sl encRl l),(10,.ref 10 0),(13,.clo 140 [.cptr [.cmap shS (l.map kvN)]])],[(10,.ro [.cmap shS (l.map kvN)])],hfree⟩ (Yi ⟨Z4,Z1,Fh,Tv⟩ ?_)
    refine Xi 0 ?_;refine Xi {i:Nat // i≤l.length∧∀ j (hj:j<l.length),j<i→l[j].reqs.any (brokenP l)=false} (Xi (fun i=>⟨[(1,sl encRq roots),(9,sl encRl l),(10,.ref 10 0),(13,.clo 140 [.cptr [.cmap shS (l.map kvN)]]),(48,sl encRl l),(49,vi (l.map encRl).length),(50,vi i.1)],[(10,.ro [.cmap shS (l.map kvN)])],hfree⟩) (Xi (fun i=>l.length - i.1) (Yi (Xi ⟨0,Nat.zero_le _,fun j _ hj=>absurd hj (Nat.not_lt_zero j)⟩ ?_) ?_)))
    ·exact ⟨Z7,Z1,Fh,Tv⟩
    intro ⟨i,i1,i2⟩;have i1:i≤l.length:=i1;refine Xi 0 ?_;refine Yi ?_ ?_
    ·intro h;have h:(i:Int)<(l.map encRl).length:=h;have h:i<l.length:=by simpa using h
     have hg:l[i]?=some l[i]:=Ge h;have hc89:PC 143 [sl encRq l[i].reqs,.clo 140 [.cptr [.cmap shS (l.map kvN)]]] (vb (l[i].reqs.any (brokenP l))):=c89 hst l[i].reqs (brokenP l) (fun q hq=>hc86 q ((hx _ (hlx _ (List.getElem_mem h))).2 q hq).1) (by have:=hlq _ (List.getElem_mem h); unfold Few; omega);refine Xi ⟨[(1,sl encRq roots),(9,sl encRl l),(10,.ref 10 0),(13,.clo 140 [.cptr [.cmap shS (l.map kvN)]]),(48,sl encRl l),(49,vi (l.map encRl).length),(50,vi i)],[(10,.ro [.cmap shS (l.map kvN)])],hfree⟩ (Yi ⟨Z7,Z1,Fh,Tv⟩ ?_)
     refine Xi 0 ?_;refine Xi (encRl l[i]) (Yi (Yi (Nn i) (by simp [hg])) (Yi rfl ?_));refine Yi (Nz rfl) (Yi (Nz rfl) ?_);refine Xi ⟨[(1,sl encRq roots),(9,sl encRl l),(10,.ref 10 0),(13,.clo 140 [.cptr [.cmap shS (l.map kvN)]]),(48,sl encRl l),(49,vi (l.map encRl).length),(15,.ref 15 0),(50,vi i)],[(10,.ro [.cmap shS (l.map kvN)]),(15,.cells (encRl l[i]))],hfree⟩ (Yi ⟨Z8,Z2,Fh,Tv⟩ ?_)
     refine Xi 0 ?_;refine Or.elim (Bt (l[i].reqs.any (brokenP l))) (fun hb=>?_) (fun hb=>?_)
     ·rw [hb] at hc89;refine Xi .pure (Xi _ (Yi (hc89) ?_));refine Xi 0 ?_;have ha:l.any (fun r=>r.reqs.any (brokenP l))=true:=List.any_eq_true.2 ⟨l[i],List.getElem_mem h,hb⟩;exact .of_eq (congrArg vi (show (17:Int)=D by rw [hD,if_pos ha]))
     ·rw [hb] at hc89;refine Xi .pure (Xi _ (Yi (hc89) ?_));refine Xi 0 ?_;refine Yi (Ii i (by omega)) ?_;refine Xi ⟨i+1,by omega,fun j hj hji=>?_⟩ ?_
      ·by_cases e:j=i
       ·subst e; exact hb
       ·exact i2 j hj (by omega)
      exact ⟨Dl l.length i (by omega),Z7,Z1,Fh,Tv⟩
    intro h;have h:¬ (i:Int)<(l.map encRl).length:=h;have h:¬ i<l.length:=by simpa using h
    have ha:l.any (fun r=>r.reqs.any (brokenP l))=false:=by
     rw [List.any_eq_false];intro r hr;obtain ⟨j,hj,e⟩:=List.mem_iff_getElem.1 hr
     have:=i2 j hj (by omega)
     rw [e] at this;rw [this]; decide
    have hD:D=if roots.any (brokenP l) then 17 else if (needP l (fuelP l roots) roots []).length<l.length then 8 else 0:=by rw [hD,if_neg (by rw [ha]; decide)]
    have hc89:PC 143 [sl encRq roots,.clo 140 [.cptr [.cmap shS (l.map kvN)]]] (vb (roots.any (brokenP l))):=c89 hst roots (brokenP l) (fun q hq=>hc86 q (hrq q hq)) hrf;refine Xi ⟨[(1,sl encRq roots),(9,sl encRl l),(10,.ref 10 0),(13,.clo 140 [.cptr [.cmap shS (l.map kvN)]])],[(10,.ro [.cmap shS (l.map kvN)])],hfree⟩ (Yi ⟨Z4,Z1,Fh,Tv⟩ ?_)
    refine Xi 0 ?_;refine Or.elim (Bt (roots.any (brokenP l))) (fun hb=>?_) (fun hb=>?_)
    ·rw [hb] at hc89;refine Xi .pure (Xi _ (Yi (hc89) ?_));refine Xi 0 ?_;exact .of_eq (congrArg vi (show (17:Int)=D by rw [hD,if_pos hb]))
    rw [hb] at hc89;have hD:D=if (needP l (fuelP l roots) roots []).length<l.length then 8 else 0:=by rw [hD,if_neg (by rw [hb]; decide)]
    refine Xi .pure (Xi _ (Yi (hc89) ?_));refine Xi ⟨[(1,sl encRq roots),(9,sl encRl l),(10,.ref 10 0)],[(10,.ro [.cmap shS (l.map kvN)])],hfree⟩ (Yi ⟨Z3,Z1,Fh,Tv⟩ ?_)
    refine Xi 0 ?_;refine Xi ⟨[(1,sl encRq roots),(9,sl encRl l),(10,.ref 10 0),(16,.mref 62)],[(10,.ro [.cmap shS (l.map kvN)]),(62,.map shS [])],hfree⟩ (Yi ⟨Z4,Z2,Fh,Tv⟩ ?_)
    refine Xi 0 ?_;refine Xi (.gen [] 1) (Yi rfl ((c76t roots hrf).imp ?_));intro v g q;have q1:=q.1;have q2:=q.2;subst q1;subst q2
    clear q
    have hpot0:potL [] l≤16*l.length:=by
     have gen:∀ l:List Rl,(∀ r ∈ l,r.reqs.length≤16)→potL [] l≤16*l.length:=fun l=>by
      induction l with
      | nil=>intro _; exact Nat.le_refl _
      | cons r l ih =>
       intro h;have h1:=h r (List.mem_cons_self ..);have h2:=ih fun s hs=>h s (List.mem_cons_of_mem _ hs);unfold potL;simp only [List.any_nil,Bool.false_eq_true,if_false,List.length_cons];omega
     exact gen l hlq
    have hfu:fuelP l roots≤roots.length+16*l.length+1:=by unfold fuelP; rw [← potL_nil]; omega
    refine Xi {p:List ByteArray × List Rq × Nat × Bool // NI l roots p.1 p.2.1 p.2.2.1∧p.2.2.1≤fuelP l roots} (Xi (fun p=>⟨[(9,sl encRl l),(10,.ref 10 0),(16,.mref 62),(17,.slice (.id (bif p.1.2.2.2 then 16400 else 201) 2) (p.1.2.1.map encRq))],[(10,.ro [.cmap shS (l.map kvN)]),(62,.map shS (p.1.1.map kvD)),(16400,bif p.1.2.2.2 then .tok 2 (p.1.2.1.map encRq).length else .free),(201,bif p.1.2.2.2 then .free else .tok 2 (p.1.2.1.map encRq).length)],hfree⟩) (Xi (fun p=>p.1.2.2.1) (Yi (Xi ⟨([],roots,fuelP l roots,true),NI.start l roots,Nat.le_refl _⟩ ?_) ?_)))
    ·exact ⟨Z4,Z4,Fh,Tv⟩
    intro ⟨⟨d,t,n,b⟩,ni,nf⟩;have ni:NI l roots d t n:=ni;have nf:n≤fuelP l roots:=nf;refine Or.elim (Bt b) (fun eb=>?_) (fun eb=>?_)
    ·refine Xi ⟨[(9,sl encRl l),(10,.ref 10 0),(16,.mref 62),(17,.slice (.id 16400 2) (t.map encRq))],[(10,.ro [.cmap shS (l.map kvN)]),(62,.map shS (d.map kvD)),(16400,.tok 2 (t.map encRq).length)],hfree⟩ (Yi ⟨⟨Zr,Zr,Zr,⟨by show AV.slice (.id (bif b then 16400 else 201) 2) (t.map encRq)=_; rw [eb]; rfl,rfl⟩,Tv⟩,⟨Zr,Zr,⟨by show (bif b then HO.tok 2 (t.map encRq).length else HO.free)=_; rw [eb]; rfl,rfl⟩,Tv⟩,Fh,Tv⟩ ?_)
     refine Xi 0 ?_;refine Yi ?_ ?_
     ·intro h;have h:(0:Int)<(t.map encRq).length:=h;refine Exists.elim (show ∃ q t',t=q :: t' by cases t with | nil=>exact absurd h (by decide) | cons q t'=>exact ⟨q,t',rfl⟩) (fun q hq=>?_);refine Exists.elim hq (fun t' hq=>?_);refine Exists.elim (show ∃ m,n=m+1 from ⟨n - 1,by have:=ni.pot; omega⟩) (fun m hm'=>?_);have ni:NI l roots d (q :: t') (m+1):=hq▸hm'▸ni;have hpot:=ni.pot;have hg0:(t.map encRq)[(0:Int).toNat]?=some (encRq q):=by rw [hq]; rfl
      refine Xi ⟨[(9,sl encRl l),(10,.ref 10 0),(16,.mref 62),(17,.slice (.id 16400 2) (t.map encRq))],[(10,.ro [.cmap shS (l.map kvN)]),(62,.map shS (d.map kvD)),(16400,.tok 2 (t.map encRq).length)],hfree⟩ (Yi ⟨Z4,Z3,Fh,Tv⟩ ?_)
      refine Xi 0 ?_;refine Xi (encRq q) (Yi (Yi (by decide) hg0) (Yi rfl ?_));refine Yi (Nz rfl) (Yi (Nz rfl) ?_);refine Xi ⟨[(9,sl encRl l),(10,.ref 10 0),(16,.mref 62),(17,.slice (.id 16400 2) (t.map encRq)),(18,.ref 18 0)],[(10,.ro [.cmap shS (l.map kvN)]),(62,.map shS (d.map kvD)),(16400,.tok 2 (t.map encRq).length),(18,.cells (encRq q))],hfree⟩ (Yi ⟨Z5,Z4,Fh,Tv⟩ ?_)
      refine Xi 201 ?_;have htl:1≤(t.map encRq).length:=by rw [hq]; simp
      refine Yi (Yi rfl (Yi (by decide) (by show (1:Int)≤((t.map encRq).length:Int); omega))) ?_;have ed:(t.map encRq).drop (1:Int).toNat=t'.map encRq:=by rw [hq]; rfl
      refine Xi ⟨[(9,sl encRl l),(10,.ref 10 0),(16,.mref 62),(17,.slice (.id 201 2) (t'.map encRq)),(18,.ref 18 0)],[(10,.ro [.cmap shS (l.map kvN)]),(62,.map shS (d.map kvD)),(201,.tok 2 (t'.map encRq).length),(18,.cells (encRq q))],hfree⟩ (Yi ⟨⟨Zr,Zr,Zr,⟨congrArg (AV.slice (.id 201 2)) ed,rfl⟩,Zr,Tv⟩,⟨Zr,Zr,⟨congrArg (fun e:List (List AV)=>HO.tok 2 e.length) ed,rfl⟩,Zr,Tv⟩,Fh,Tv⟩ ?_)
      refine Xi 0 ?_;refine Yi ?_ ?_
      ·intro a ha;refine Exists.elim (show ∃ u,u=() from ⟨(),rfl⟩) (fun _ _=>?_);have e:=(kvD_mem ha).2;subst e;have ho:=any_mem.2 (kvD_mem ha).1;have ni2:=ni.old ho;refine Xi ⟨(d,t',m,false),ni2,by show m≤_; omega⟩ ?_;exact ⟨by show m<n; omega,Z4,Z4,Fh,Tv⟩
      intro hno;have ho:d.any (fun p=>decide (p=q.path))=false:=by
       rw [Bool.eq_false_iff];intro hc;exact hno (vb true) (List.mem_map.2 ⟨q.path,any_mem.1 hc,rfl⟩)
      have ni2:=ni.new ho;have hpot2:=ni2.pot;refine Xi 0 ?_;have e62:mput (d.map kvD) (.string q.path) (vb true)=(d++[q.path]).map kvD:=by rw [mput_app hno,List.map_append]; rfl
      refine Xi 0 ?_;refine Yi ?_ ?_
      ·intro a ha;refine Exists.elim (kvN_mem ha) (fun r hr'=>?_);have e:=hr'.2.2;subst e;have hro:reqsOf l q.path=r.reqs:=by
        unfold reqsOf;rw [← hr'.2.1,find_path hnd hr'.1]
       rw [hro] at ni2 hpot2;have hrl:=hlq r hr'.1;have bulk:AllLen 2 (r.reqs.map encRq)∧(t'.map encRq).length=(t'.map encRq).length∧((t'.map encRq).length+(r.reqs.map encRq).length)*40≤140737488355328∧(t'.map encRq).length+(r.reqs.map encRq).length≤9223372036854775807 :=
        ⟨allLen_map (enc:=encRq) (n:=2) (fun _=>rfl) r.reqs,rfl,by rw [Lm,Lm]; rw [List.length_append] at hpot2; omega,by rw [Lm,Lm]; rw [List.length_append] at hpot2; omega⟩
       refine Yi bulk ?_;have e17:AV.slice (.id 201 2) (t'.map encRq++r.reqs.map encRq)=.slice (.id 201 2) ((t'++r.reqs).map encRq):=by rw [List.map_append]
       have o17:HO.tok 2 ((t'.map encRq).length+(r.reqs.map encRq).length)=.tok 2 ((t'++r.reqs).map encRq).length:=by rw [List.map_append,List.length_append]
       refine Xi ⟨(d++[q.path],t'++r.reqs,m,false),ni2,by show m≤_; omega⟩ ?_;exact ⟨by show m<n; omega,⟨Zr,Zr,Zr,⟨e17,rfl⟩,Tv⟩,⟨Zr,⟨congrArg (HO.map shS) e62,rfl⟩,Zr,⟨o17,rfl⟩,Tv⟩,Fh,Tv⟩
      intro hnb;have hro:reqsOf l q.path=[]:=by
       unfold reqsOf;rw [List.find?_eq_none.2 (fun r hr' he=>hnb (.agg (encRl r)) (List.mem_map.2 ⟨r,hr',by rw [← of_decide_eq_true he]⟩))]
      rw [hro] at ni2 hpot2;have bulk:AllLen 2 []∧(t'.map encRq).length=(t'.map encRq).length∧((t'.map encRq).length+([]:List (List AV)).length)*40≤140737488355328∧(t'.map encRq).length+([]:List (List AV)).length≤9223372036854775807 :=
       ⟨trivial,rfl,by rw [Lm,List.length_nil]; rw [List.length_append] at hpot2; omega,by rw [Lm,List.length_nil]; rw [List.length_append] at hpot2; omega⟩
      refine Yi bulk ?_;have e17:AV.slice (.id 201 2) (t'.map encRq++[])=.slice (.id 201 2) ((t'++[]).map encRq):=by rw [List.append_nil,List.append_nil]
      have o17:HO.tok 2 ((t'.map encRq).length+([]:List (List AV)).length)=.tok 2 ((t'++[]).map encRq).length:=by rw [List.append_nil,List.length_nil,Nat.add_zero]
      refine Xi ⟨(d++[q.path],t'++[],m,false),ni2,by show m≤_; omega⟩ ?_;exact ⟨by show m<n; omega,⟨Zr,Zr,Zr,⟨e17,rfl⟩,Tv⟩,⟨Zr,⟨congrArg (HO.map shS) e62,rfl⟩,Zr,⟨o17,rfl⟩,Tv⟩,Fh,Tv⟩
     intro h;have h:¬ (0:Int)<(t.map encRq).length:=h;have ht0:t=[]:=by
      cases t with
      | nil=>rfl
      | cons q t'=>exact absurd (by rw [List.map_cons,List.length_cons]; omega) h
     have hnd2:needP l (fuelP l roots) roots []=d:=(ht0▸ni).stop;have hD:D=if d.length<l.length then 8 else 0:=by rw [hD,hnd2]
     refine Xi ⟨[(9,sl encRl l),(16,.mref 62)],[(62,.map shS (d.map kvD))],hfree⟩ (Yi ⟨Z2,Z1,Fh,Tv⟩ ?_)
     refine Xi 0 ?_;refine Yi ?_ ?_
     ·intro h;have h:((d.map kvD).length:Int)<((l.map encRl).length:Int):=h;have h:d.length<l.length:=by simpa using h
      refine Xi 0 ?_;exact .of_eq (congrArg vi (show (8:Int)=D by rw [hD,if_pos h]))
     ·intro h;have h:¬ ((d.map kvD).length:Int)<((l.map encRl).length:Int):=h;have h:¬ d.length<l.length:=by simpa using h
      refine Xi 0 ?_;exact .of_eq (congrArg vi (show (0:Int)=D by rw [hD,if_neg h]))
    ·refine Xi ⟨[(9,sl encRl l),(10,.ref 10 0),(16,.mref 62),(17,.slice (.id 201 2) (t.map encRq))],[(10,.ro [.cmap shS (l.map kvN)]),(62,.map shS (d.map kvD)),(201,.tok 2 (t.map encRq).length)],hfree⟩ (Yi ⟨⟨Zr,Zr,Zr,⟨by show AV.slice (.id (bif b then 16400 else 201) 2) (t.map encRq)=_; rw [eb]; rfl,rfl⟩,Tv⟩,⟨Zr,Zr,⟨by show (bif b then HO.free else HO.tok 2 (t.map encRq).length)=_; rw [eb]; rfl,rfl⟩,Tv⟩,Fh,Tv⟩ ?_)
     refine Xi 0 ?_;refine Yi ?_ ?_
     ·intro h;have h:(0:Int)<(t.map encRq).length:=h;refine Exists.elim (show ∃ q t',t=q :: t' by cases t with | nil=>exact absurd h (by decide) | cons q t'=>exact ⟨q,t',rfl⟩) (fun q hq=>?_);refine Exists.elim hq (fun t' hq=>?_);refine Exists.elim (show ∃ m,n=m+1 from ⟨n - 1,by have:=ni.pot; omega⟩) (fun m hm'=>?_);have ni:NI l roots d (q :: t') (m+1):=hq▸hm'▸ni;have hpot:=ni.pot;have hg0:(t.map encRq)[(0:Int).toNat]?=some (encRq q):=by rw [hq]; rfl
      refine Xi ⟨[(9,sl encRl l),(10,.ref 10 0),(16,.mref 62),(17,.slice (.id 201 2) (t.map encRq))],[(10,.ro [.cmap shS (l.map kvN)]),(62,.map shS (d.map kvD)),(201,.tok 2 (t.map encRq).length)],hfree⟩ (Yi ⟨Z4,Z3,Fh,Tv⟩ ?_)
      refine Xi 0 ?_;refine Xi (encRq q) (Yi (Yi (by decide) hg0) (Yi rfl ?_));refine Yi (Nz rfl) (Yi (Nz rfl) ?_);refine Xi ⟨[(9,sl encRl l),(10,.ref 10 0),(16,.mref 62),(17,.slice (.id 201 2) (t.map encRq)),(18,.ref 18 0)],[(10,.ro [.cmap shS (l.map kvN)]),(62,.map shS (d.map kvD)),(201,.tok 2 (t.map encRq).length),(18,.cells (encRq q))],hfree⟩ (Yi ⟨Z5,Z4,Fh,Tv⟩ ?_)
      refine Xi 16400 ?_;have htl:1≤(t.map encRq).length:=by rw [hq]; simp
      refine Yi (Yi rfl (Yi (by decide) (by show (1:Int)≤((t.map encRq).length:Int); omega))) ?_;have ed:(t.map encRq).drop (1:Int).toNat=t'.map encRq:=by rw [hq]; rfl
      refine Xi ⟨[(9,sl encRl l),(10,.ref 10 0),(16,.mref 62),(17,.slice (.id 16400 2) (t'.map encRq)),(18,.ref 18 0)],[(10,.ro [.cmap shS (l.map kvN)]),(62,.map shS (d.map kvD)),(16400,.tok 2 (t'.map encRq).length),(18,.cells (encRq q))],hfree⟩ (Yi ⟨⟨Zr,Zr,Zr,⟨congrArg (AV.slice (.id 16400 2)) ed,rfl⟩,Zr,Tv⟩,⟨Zr,Zr,⟨congrArg (fun e:List (List AV)=>HO.tok 2 e.length) ed,rfl⟩,Zr,Tv⟩,Fh,Tv⟩ ?_)
      refine Xi 0 ?_;refine Yi ?_ ?_
      ·intro a ha;refine Exists.elim (show ∃ u,u=() from ⟨(),rfl⟩) (fun _ _=>?_);have e:=(kvD_mem ha).2;subst e;have ho:=any_mem.2 (kvD_mem ha).1;have ni2:=ni.old ho;refine Xi ⟨(d,t',m,true),ni2,by show m≤_; omega⟩ ?_;exact ⟨by show m<n; omega,Z4,Z4,Fh,Tv⟩
      intro hno;have ho:d.any (fun p=>decide (p=q.path))=false:=by
       rw [Bool.eq_false_iff];intro hc;exact hno (vb true) (List.mem_map.2 ⟨q.path,any_mem.1 hc,rfl⟩)
      have ni2:=ni.new ho;have hpot2:=ni2.pot;refine Xi 0 ?_;have e62:mput (d.map kvD) (.string q.path) (vb true)=(d++[q.path]).map kvD:=by rw [mput_app hno,List.map_append]; rfl
      refine Xi 0 ?_;refine Yi ?_ ?_
      ·intro a ha;refine Exists.elim (kvN_mem ha) (fun r hr'=>?_);have e:=hr'.2.2;subst e;have hro:reqsOf l q.path=r.reqs:=by
        unfold reqsOf;rw [← hr'.2.1,find_path hnd hr'.1]
       rw [hro] at ni2 hpot2;have hrl:=hlq r hr'.1;have bulk:AllLen 2 (r.reqs.map encRq)∧(t'.map encRq).length=(t'.map encRq).length∧((t'.map encRq).length+(r.reqs.map encRq).length)*40≤140737488355328∧(t'.map encRq).length+(r.reqs.map encRq).length≤9223372036854775807 :=
        ⟨allLen_map (enc:=encRq) (n:=2) (fun _=>rfl) r.reqs,rfl,by rw [Lm,Lm]; rw [List.length_append] at hpot2; omega,by rw [Lm,Lm]; rw [List.length_append] at hpot2; omega⟩
       refine Yi bulk ?_;have e17:AV.slice (.id 16400 2) (t'.map encRq++r.reqs.map encRq)=.slice (.id 16400 2) ((t'++r.reqs).map encRq):=by rw [List.map_append]
       have o17:HO.tok 2 ((t'.map encRq).length+(r.reqs.map encRq).length)=.tok 2 ((t'++r.reqs).map encRq).length:=by rw [List.map_append,List.length_append]
       refine Xi ⟨(d++[q.path],t'++r.reqs,m,true),ni2,by show m≤_; omega⟩ ?_;exact ⟨by show m<n; omega,⟨Zr,Zr,Zr,⟨e17,rfl⟩,Tv⟩,⟨Zr,⟨congrArg (HO.map shS) e62,rfl⟩,⟨o17,rfl⟩,Zr,Tv⟩,Fh,Tv⟩
      intro hnb;have hro:reqsOf l q.path=[]:=by
       unfold reqsOf;rw [List.find?_eq_none.2 (fun r hr' he=>hnb (.agg (encRl r)) (List.mem_map.2 ⟨r,hr',by rw [← of_decide_eq_true he]⟩))]
      rw [hro] at ni2 hpot2;have bulk:AllLen 2 []∧(t'.map encRq).length=(t'.map encRq).length∧((t'.map encRq).length+([]:List (List AV)).length)*40≤140737488355328∧(t'.map encRq).length+([]:List (List AV)).length≤9223372036854775807 :=
       ⟨trivial,rfl,by rw [Lm,List.length_nil]; rw [List.length_append] at hpot2; omega,by rw [Lm,List.length_nil]; rw [List.length_append] at hpot2; omega⟩
      refine Yi bulk ?_;have e17:AV.slice (.id 16400 2) (t'.map encRq++[])=.slice (.id 16400 2) ((t'++[]).map encRq):=by rw [List.append_nil,List.append_nil]
      have o17:HO.tok 2 ((t'.map encRq).length+([]:List (List AV)).length)=.tok 2 ((t'++[]).map encRq).length:=by rw [List.append_nil,List.length_nil,Nat.add_zero]
      refine Xi ⟨(d++[q.path],t'++[],m,true),ni2,by show m≤_; omega⟩ ?_;exact ⟨by show m<n; omega,⟨Zr,Zr,Zr,⟨e17,rfl⟩,Tv⟩,⟨Zr,⟨congrArg (HO.map shS) e62,rfl⟩,⟨o17,rfl⟩,Zr,Tv⟩,Fh,Tv⟩
     intro h;have h:¬ (0:Int)<(t.map encRq).length:=h;have ht0:t=[]:=by
      cases t with
      | nil=>rfl
      | cons q t'=>exact absurd (by rw [List.map_cons,List.length_cons]; omega) h
     have hnd2:needP l (fuelP l roots) roots []=d:=(ht0▸ni).stop;have hD:D=if d.length<l.length then 8 else 0:=by rw [hD,hnd2]
     refine Xi ⟨[(9,sl encRl l),(16,.mref 62)],[(62,.map shS (d.map kvD))],hfree⟩ (Yi ⟨Z2,Z1,Fh,Tv⟩ ?_)
     refine Xi 0 ?_;refine Yi ?_ ?_
     ·intro h;have h:((d.map kvD).length:Int)<((l.map encRl).length:Int):=h;have h:d.length<l.length:=by simpa using h
      refine Xi 0 ?_;exact .of_eq (congrArg vi (show (8:Int)=D by rw [hD,if_pos h]))
     ·intro h;have h:¬ ((d.map kvD).length:Int)<((l.map encRl).length:Int):=h;have h:¬ d.length<l.length:=by simpa using h
      refine Xi 0 ?_;exact .of_eq (congrArg vi (show (0:Int)=D by rw [hD,if_neg h]))
 ·have h84:PC 138 [ixV x ifs] (.tup [.agg [.cmap shK [],.cmap shS []],vi (checkIx x)]):=by
   have:=h84; unfold H84 tblV at this; rw [if_neg h0] at this; exact this
  rw [if_pos h0] at hD;refine Ps pl45 Tryz.func83 rfl (Nz rfl) ?_;refine Xi 0 ?_;refine Xi 0 ?_;refine Yi (Nz rfl) ?_;refine Xi .pure (Xi _ (Yi (h84) ?_));refine Yi (Nz rfl) ?_;refine Xi ⟨[(8,vi (checkIx x))],[],hfree⟩ (Yi ⟨Z1,Tv,Fh,Tv⟩ ?_)
  refine Xi 0 ?_;refine Yi ?_ ?_
  ·intro _;refine Xi 0 ?_;exact .of_eq (congrArg vi hD.symm)
  ·intro h; exact absurd h0 h
end Go.Eng

namespace Go.Eng
open Go.Proofs
theorem few_mt (s:ByteArray) (h:s.size≤10):FewS s:=by unfold FewS; omega
theorem ex_few:(∀ r ∈ exIx,FewR r)∧∀ q ∈ exRoots,FewQ q:=by
 have hq:∀ q ∈ exRoots,FewQ q:=fun q hq=>by
  obtain rfl:=List.mem_singleton.1 hq;exact ⟨by decide,few_mt _ (by decide)⟩
 refine ⟨fun r hr=>?_,hq⟩;unfold exIx at hr;simp only [List.mem_cons,List.mem_nil_iff,or_false] at hr;rcases hr with rfl | rfl | rfl
 ·refine ⟨few_mt _ (by decide),fun q hq=>?_⟩;obtain rfl:=List.mem_singleton.1 hq;exact ⟨by decide,few_mt _ (by decide)⟩
 ·exact ⟨few_mt _ (by decide),fun q hq=>by cases hq⟩
 ·exact ⟨few_mt _ (by decide),fun q hq=>by cases hq⟩
theorem ex_ck:Ck exIx [] exRoots:=⟨ex_few.1,ex_few.2,fun _=>c165 _ _ _ (c84 _ _ ex_few.1)⟩
end Go.Eng

namespace Go.Eng
open Go.Proofs
structure Lim (x:List Rl) (roots:List Rq):Prop where
 ix:Few x
 rs:Few roots
 rel:∀ r ∈ x,Few r.reqs∧FewR r
 rq:∀ q ∈ roots,FewQ q
theorem Lim.x {x:List Rl} {roots:List Rq} (h:Lim x roots):∀ r ∈ x,FewR r:=fun r hr=>(h.rel r hr).2
theorem Lim.c84 {x:List Rl} {roots:List Rq} (h:Lim x roots) (ifs:List (List AV)):H84 x ifs:=Go.Eng.c84 x ifs h.x
theorem Lim.ck {x:List Rl} {roots:List Rq} (h:Lim x roots) (ifs:List (List AV)):Ck x ifs roots:=⟨h.x,h.rq,fun _=>c165 _ _ _ (h.c84 ifs)⟩
theorem few_roots {x:List Rl} {roots:List Rq} (h:(smallX x 16&&smallQs roots)=true):roots.length≤20:=by
 simp only [Bool.and_eq_true,smallQs,decide_eq_true_eq] at h;exact h.2.2
theorem small_sel {a:An} (h:small a=true):a.sel.length≤16∧a.skips.length≤100∧a.infs.length≤400:=by
 simp only [small,Bool.and_eq_true,decide_eq_true_eq] at h;omega
theorem Lim.c45 {x:List Rl} {roots:List Rq} (h:Lim x roots) (ifs:List (List AV)) (hf:(smallX x 16&&smallQs roots)=true) (s:List Sl) (hs:s.length≤1000000):H45 x ifs roots s :=
 Go.Eng.c45 x ifs roots s (h.c84 ifs) h.x (by have:=few_roots hf; omega) (fun q hq=>(h.rq q hq).1) hs
theorem Lim.c21 {x:List Rl} {roots:List Rq} (h:Lim x roots) (ifs:List (List AV)) (hf:(smallX x 16&&smallQs roots)=true) (a:An) (ha:small a=true):PC 35 [ixV x ifs,sl encRq roots,.agg (encAn a)] (vi (checkP x roots a)) :=
 Go.Eng.c21 x ifs roots a (h.c84 ifs) (h.c45 ifs hf a.sel (by have:=(small_sel ha).1; omega)) h.x h.rq (by have:=(small_sel ha).1; omega) (by have:=(small_sel ha).2.1; unfold Few; omega)
theorem Lim.c11 {x:List Rl} {roots:List Rq} (h:Lim x roots) (ifs:List (List AV)):PC 23 [ixV x ifs,sl encRq roots] (vb (smallX x 16&&smallQs roots)) :=
 Go.Eng.c11 x ifs roots h.ix (fun r hr=>(h.rel r hr).1) h.rs
end Go.Eng

namespace Go.Proofs.YtpgfieopnnkpfaaGreatDoor.joins
open Go Go.Eng Go.Proofs Go.ChangeShapes Go.WideShapes Go.ChangeAt Go.RowKit

section
variable {H:Type} {enc:TypeId × Value→H} {w:World}
theorem all_le {d:DataW H} {l:List (DataW H)} (h:d ∈ l):Rows.uptoBulk d≤Rows.uptoBulkAll l:=by
 induction l with
 | nil=>cases h
 | cons x r ih =>
  simp only [Rows.uptoBulkAll]
  cases List.mem_cons.1 h with
  | inl e=>subst e; omega
  | inr e=>have:=ih e; omega
theorem one_le (d:DataW H):1≤Rows.uptoBulk d:=by
 cases d with
 | lit l=>cases l <;> simp [Rows.uptoBulk]
 | nil=>simp [Rows.uptoBulk]
 | ptr d=>simp [Rows.uptoBulk]
 | slice elems spare=>simp [Rows.uptoBulk]
 | agg parts=>simp [Rows.uptoBulk]
 | iface t d=>simp [Rows.uptoBulk]
 | map entries=>simp [Rows.uptoBulk]
 | held h=>simp [Rows.uptoBulk]
theorem len_le (l:List (DataW H)):l.length≤Rows.uptoBulkAll l:=by
 induction l with
 | nil=>simp [Rows.uptoBulkAll]
 | cons x r ih=>have:=one_le x; simp only [Rows.uptoBulkAll,List.length_cons]; omega
theorem bulk_ok:BulkOk (H:=H) Rows.uptoBulk where
 slice es sp:=by
  have h1:=len_le es
  refine ⟨by simp only [Rows.uptoBulk]; omega,fun d hd=>?_⟩
  have:=all_le hd
  simp only [Rows.uptoBulk]; omega
 agg ps d hd:=by
  have:=all_le hd
  simp only [Rows.uptoBulk]; omega
 str b:=by simp only [Rows.uptoBulk]; omega
theorem app_all (l r:List (DataW H)):Rows.uptoBulkAll (l++r)=Rows.uptoBulkAll l+Rows.uptoBulkAll r:=by
 induction l with
 | nil=>simp [Rows.uptoBulkAll]
 | cons x l ih=>simp only [List.cons_append,Rows.uptoBulkAll,ih]; omega

abbrev NB:Nat:=1048576
abbrev Op (enc:TypeId × Value→H) (w:World) (t:TypeId) {α:Type} (e:α→List AV) (ok:α→Prop):Prop:=Opens enc Tryz.prog w Rows.uptoBulk NB t e ok
theorem oI:Op enc w 3 (fun n:Int=>[vi n]) (fun _=>True):=(opens_int Tryz.underlying3).to id (fun _ _=>⟨rfl,trivial⟩)
theorem oB:Op enc w 4 (fun b:Bool=>[vb b]) (fun _=>True):=opens_bool Tryz.underlying4
theorem oS:Op enc w 9 (fun s:ByteArray=>[vs s]) (fun s=>s.size≤NB):=opens_string bulk_ok Tryz.underlying9
theorem oVer:Op enc w 83 encVer (fun _=>True) :=
 (opens_struct bulk_ok Tryz.underlying83 (L:=3) (by kernel_rfl) (opensF_cons rfl (n:=1) (by kernel_rfl) oI (opensF_cons rfl (n:=1) (by kernel_rfl) oI (opensF_cons rfl (n:=1) (by kernel_rfl) oI opensF_nil)))).to
  (fun p=>(⟨p.1,p.2.1,p.2.2.1⟩ : Ver)) (fun _ _=>⟨rfl,trivial⟩)
theorem oSpan:Op enc w 85 encSpan (fun _=>True) :=
 (opens_struct bulk_ok Tryz.underlying85 (L:=2) (by kernel_rfl) (opensF_cons rfl (n:=1) (by kernel_rfl) oI (opensF_cons rfl (n:=1) (by kernel_rfl) oI opensF_nil))).to
  (fun p=>(p.1,p.2.1)) (fun _ _=>⟨rfl,trivial⟩)
theorem oSet:Op enc w 27 (fun l:SpanL=>[sl encSpan l]) (fun l=>l.length≤NB) :=
 (opens_slice bulk_ok Tryz.underlying27 (m:=1) (by kernel_rfl) (fun _=>rfl) oSpan).to id (fun _ h=>⟨rfl,h.1⟩)
abbrev OkRq (q:Rq):Prop:=q.path.size≤NB∧q.set.length≤NB
theorem oRq:Op enc w 87 encRq OkRq :=
 (opens_struct bulk_ok Tryz.underlying87 (L:=2) (by kernel_rfl) (opensF_cons rfl (n:=1) (by kernel_rfl) oS (opensF_cons rfl (n:=1) (by kernel_rfl) oSet opensF_nil))).to
  (fun p=>(⟨p.1,p.2.1⟩ : Rq)) (fun _ h=>⟨rfl,h.1,h.2.1⟩)
abbrev OkRqs (l:List Rq):Prop:=l.length≤NB∧∀ q ∈ l,OkRq q
theorem oRqs:Op enc w 43 (fun l:List Rq=>[sl encRq l]) OkRqs :=
 opens_slice bulk_ok Tryz.underlying43 (m:=1) (by kernel_rfl) (fun _=>rfl) oRq
abbrev OkRl (r:Rl):Prop:=r.path.size≤NB∧OkRqs r.reqs
theorem oRl:Op enc w 89 encRl OkRl :=
 (opens_struct bulk_ok Tryz.underlying89 (L:=9) (by kernel_rfl) (opensF_cons rfl (n:=1) (by kernel_rfl) oS (opensF_cons rfl (n:=3) (by kernel_rfl) oVer (opensF_cons rfl (n:=1) (by kernel_rfl) oRqs
  (opensF_cons rfl (n:=1) (by kernel_rfl) oS (opensF_cons rfl (n:=1) (by kernel_rfl) oS (opensF_cons rfl (n:=1) (by kernel_rfl) oS (opensF_cons rfl (n:=1) (by kernel_rfl) oB opensF_nil)))))))).to
  (fun p=>(⟨p.1,p.2.1,p.2.2.1,p.2.2.2.1,p.2.2.2.2.1,p.2.2.2.2.2.1,p.2.2.2.2.2.2.1⟩ : Rl)) (fun _ h=>⟨rfl,h.1,h.2.2.1⟩)
theorem oRls:Op enc w 39 (fun l:List Rl=>[sl encRl l]) (fun l=>l.length≤NB∧∀ r ∈ l,OkRl r) :=
 opens_slice bulk_ok Tryz.underlying39 (m:=8) (by kernel_rfl) (fun _=>rfl) oRl
theorem oIfc:Op enc w 357 (fun s:ByteArray=>[vs s,.junk,.junk,.junk,.junk]) (fun _=>True) :=
 (opens_struct bulk_ok Tryz.underlying357 (L:=5) (by kernel_rfl) (opensF_cons rfl (n:=1) (by kernel_rfl) oS (opensF_cons rfl (n:=1) (by kernel_rfl) (opens_any Tryz.underlying352) (opensF_cons rfl (n:=1) (by kernel_rfl) (opens_any Tryz.underlying353)
  (opensF_cons rfl (n:=1) (by kernel_rfl) (opens_any Tryz.underlying354) (opensF_cons rfl (n:=1) (by kernel_rfl) (opens_any Tryz.underlying355) opensF_nil)))))).to (fun p=>p.1) (fun _ _=>⟨rfl,trivial⟩)
theorem oIfs:Op enc w 40 (fun l:List ByteArray=>[sl (fun s=>[vs s,.junk,.junk,.junk,.junk]) l]) (fun _=>True) :=
 (opens_slice bulk_ok Tryz.underlying40 (m:=4) (by kernel_rfl) (fun _=>rfl) oIfc).to id (fun _ _=>⟨rfl,trivial⟩)
theorem oIx:Op enc w 42 (fun p:List Rl × List (List AV)=>[sl encRl p.1,.slice .none p.2]) (fun p=>p.1.length≤NB∧∀ r ∈ p.1,OkRl r) :=
 (opens_struct bulk_ok Tryz.underlying42 (L:=2) (by kernel_rfl) (opensF_cons rfl (n:=1) (by kernel_rfl) oRls (opensF_cons rfl (n:=1) (by kernel_rfl) oIfs opensF_nil))).to
  (fun p=>(p.1,p.2.1.map (fun s=>[vs s,.junk,.junk,.junk,.junk]))) (fun _ h=>⟨rfl,h.1⟩)
theorem oSl:Op enc w 126 encSl (fun y=>y.path.size≤NB) :=
 (opens_struct bulk_ok Tryz.underlying126 (L:=4) (by kernel_rfl) (opensF_cons rfl (n:=1) (by kernel_rfl) oS (opensF_cons rfl (n:=3) (by kernel_rfl) oVer opensF_nil))).to
  (fun p=>(⟨p.1,p.2.1⟩ : Sl)) (fun _ h=>⟨rfl,h.1⟩)
theorem oSls:Op enc w 63 (fun l:List Sl=>[sl encSl l]) (fun l=>l.length≤NB∧∀ y ∈ l,y.path.size≤NB) :=
 opens_slice bulk_ok Tryz.underlying63 (m:=3) (by kernel_rfl) (fun _=>rfl) oSl
theorem oNf:Op enc w 73 encNf (fun i=>i.path.size≤NB) :=
 (opens_struct bulk_ok Tryz.underlying73 (L:=6) (by kernel_rfl) (opensF_cons rfl (n:=1) (by kernel_rfl) oI (opensF_cons rfl (n:=1) (by kernel_rfl) oS (opensF_cons rfl (n:=1) (by kernel_rfl) oI
  (opensF_cons rfl (n:=1) (by kernel_rfl) oI (opensF_cons rfl (n:=1) (by kernel_rfl) oI (opensF_cons rfl (n:=1) (by kernel_rfl) oI opensF_nil))))))).to
  (fun p=>(⟨p.1,p.2.1,p.2.2.1,p.2.2.2.1,p.2.2.2.2.1,p.2.2.2.2.2.1⟩ : Nf)) (fun _ h=>⟨rfl,h.2.1⟩)
theorem oNfs:Op enc w 32 (fun l:List Nf=>[sl encNf l]) (fun l=>l.length≤NB∧∀ i ∈ l,i.path.size≤NB) :=
 opens_slice bulk_ok Tryz.underlying32 (m:=5) (by kernel_rfl) (fun _=>rfl) oNf
theorem oSk:Op enc w 122 encSk (fun y=>y.path.size≤NB) :=
 (opens_struct bulk_ok Tryz.underlying122 (L:=3) (by kernel_rfl) (opensF_cons rfl (n:=1) (by kernel_rfl) oS (opensF_cons rfl (n:=1) (by kernel_rfl) oI (opensF_cons rfl (n:=1) (by kernel_rfl) oI opensF_nil)))).to
  (fun p=>(⟨p.1,p.2.1,p.2.2.1⟩ : Sk)) (fun _ h=>⟨rfl,h.1⟩)
theorem oSks:Op enc w 64 (fun l:List Sk=>[sl encSk l]) (fun l=>l.length≤NB∧∀ y ∈ l,y.path.size≤NB) :=
 opens_slice bulk_ok Tryz.underlying64 (m:=2) (by kernel_rfl) (fun _=>rfl) oSk
abbrev OkTm (t:Tm):Prop:=t.path.size≤NB∧t.set.length≤NB
theorem oTm:Op enc w 29 encTm OkTm :=
 (opens_struct bulk_ok Tryz.underlying29 (L:=3) (by kernel_rfl) (opensF_cons rfl (n:=1) (by kernel_rfl) oS (opensF_cons rfl (n:=1) (by kernel_rfl) oB (opensF_cons rfl (n:=1) (by kernel_rfl) oSet opensF_nil)))).to
  (fun p=>(⟨p.1,p.2.1,p.2.2.1⟩ : Tm)) (fun _ h=>⟨rfl,h.1,h.2.2.1⟩)
theorem oTms:Op enc w 23 (fun l:List Tm=>[sl encTm l]) (fun l=>l.length≤NB∧∀ t ∈ l,OkTm t) :=
 opens_slice bulk_ok Tryz.underlying23 (m:=2) (by kernel_rfl) (fun _=>rfl) oTm
abbrev OkAn (a:An):Prop:=a.sel.length≤NB∧a.infs.length≤NB∧a.skips.length≤NB
theorem oAn:Op enc w 66 encAn OkAn :=
 (opens_struct bulk_ok Tryz.underlying66 (L:=4) (by kernel_rfl) (opensF_cons rfl (n:=1) (by kernel_rfl) oB (opensF_cons rfl (n:=1) (by kernel_rfl) oSls (opensF_cons rfl (n:=1) (by kernel_rfl) oNfs
  (opensF_cons rfl (n:=1) (by kernel_rfl) oSks opensF_nil))))).to
  (fun p=>(⟨p.1,p.2.1,p.2.2.1,p.2.2.2.1⟩ : An)) (fun _ h=>⟨rfl,h.2.1.1,h.2.2.1.1,h.2.2.2.1.1⟩)
theorem few_of {n:Nat} (h:n≤NB):n≤1073741824:=Nat.le_trans h (by decide)
theorem lim_of {x:List Rl} {roots:List Rq} (h:x.length≤NB∧∀ r ∈ x,OkRl r) (k:OkRqs roots):Lim x roots where
 ix:=few_of h.1
 rs:=few_of k.1
 rel r hr:=⟨few_of (h.2 r hr).2.1,few_of (h.2 r hr).1,fun q hq=>⟨few_of ((h.2 r hr).2.2 q hq).2,few_of ((h.2 r hr).2.2 q hq).1⟩⟩
 rq q hq:=⟨few_of (k.2 q hq).2,few_of (k.2 q hq).1⟩
end

theorem ok_agg {P:Program} {W:World} {base:Nat} {t:TypeId} {v:Value} {fs:Array Field} (hu:P.underlying t=some (.struct fs)) (h:Value.okWide P W .any base t v):∃ cs,v=.agg cs:=by
 unfold Value.okWide at h
 rw [hu] at h
 obtain ⟨cs,e,_⟩:=h
 exact ⟨cs,e⟩
theorem ok_slice {P:Program} {W:World} {base:Nat} {t e:TypeId} {v:Value} (hu:P.underlying t=some (.slice e)) (h:Value.okWide P W .any base t v):v.oneCell'=true:=by
 unfold Value.okWide at h
 rw [hu] at h
 unfold Cell.okWide Cell.ok at h
 rw [hu] at h
 cases v <;> first | rfl | simp at h
theorem ok_int {P:Program} {W:World} {base:Nat} {t:TypeId} {k:IntKind} {v:Value} (hu:P.underlying t=some (.int k)) (h:Value.okWide P W .any base t v):v.oneCell'=true:=by
 unfold Value.okWide at h
 rw [hu] at h
 unfold Cell.okWide Cell.ok at h
 rw [hu] at h
 cases v <;> first | rfl | simp at h
theorem int_of_shape {P:Program} {w:World} {g:Nat} {t:TypeId} {k:IntKind} {zero:Array Value} (h:w.ShapedOpen P) (hg:g<P.globals.size)
  (h0:((begin P (fun _ _=>0) default).world.heap[g]?).bind Obj.row?=some (zero,t)) (hz:zero.size=1)
  (hb:P.buildable t=true) (hc:P.cellTypes P.depth t=some [t]) (hu:P.underlying t=some (.int k)):∃ p,w.cell? ⟨g,0,none⟩=some (.int k p):=by
 obtain ⟨cs,hh,hs,hr⟩:=h.1 g zero t hg h0
 obtain ⟨ts,hts,_,hall⟩:=hr hb
 rw [hc] at hts
 cases hts
 have h1:0<cs.size:=by omega
 obtain ⟨u,hu',hok⟩:=hall 0 cs[0] (by simp [h1])
 have:u=t:=by simpa using hu'.symm
 subst this
 have hcell:w.cell? ⟨g,0,none⟩=some cs[0]:=by simp [World.cell?,hh,h1]
 rw [hcell]
 unfold Cell.ok at hok
 rw [hu] at hok
 cases hv:cs[0] <;> rw [hv] at hok <;> simp at hok
 obtain ⟨rfl,_⟩:=hok
 exact ⟨_,rfl⟩
theorem maxLen_cell {W:World} (h:W.ShapedOpen Tryz.prog):∃ m,W.cell? ⟨0,0,none⟩=some (.int .i64 m) :=
 int_of_shape (t:=3) (zero:=#[.int .i64 0]) h (of_decide_eq_true (by kernel_rfl)) (by kernel_rfl) rfl (by kernel_rfl) (by kernel_rfl) Tryz.underlying3

def Start (W:World):Prop:=(∃ m,W.cell? ⟨0,0,none⟩=some (.int .i64 m))∧∀ x ∈ gTab,x.1<W.heap.size∧W.cell? ⟨x.1,x.2.1,none⟩=x.2.2
theorem start_of {W : World} {r : List (String × DataW Unit)} {a b : String × DataW Unit} (h : W.ShapedOpen Tryz.prog) (hl : laidMet Tryz.prog (a :: b :: ("internal/strconv.uint64pow10", Rows.laid_internal_strconv_uint64pow10) :: r) W) : Start W := by
 refine ⟨maxLen_cell h,?_⟩
 have ht : Go.Lib.TabIs Tryz.prog W "internal/strconv.uint64pow10" .u64 ((List.range 20).map fun i => ((10 ^ i : Nat) : Int)) :=
  Go.Lib.tabIs_of_head (g:=3) (t:=296) (e:=239) (n:=20) (by kernel_rfl) (by kernel_rfl) (by kernel_rfl) (by kernel_rfl) (by kernel_rfl) (by kernel_rfl) hl.tail.tail
 have hc := fun i => World.var?_cell (P := Tryz.prog) (n := "internal/strconv.uint64pow10") (g := 3) (by kernel_rfl) ht i
 have h0:3<W.heap.size:=cell_lt (v:=.int .u64 1) ((hc 0).trans rfl)
 intro x hx
 rcases List.mem_cons.1 hx with rfl | hx
 ·exact ⟨h0,(hc 20).trans rfl⟩
 ·obtain ⟨i,hi,rfl⟩:=List.mem_map.1 hx
  have hi:=List.mem_range.1 hi
  refine ⟨h0,(hc i).trans ?_⟩
  simp [hi]

def Still (W W' : World):Prop:=W'.os=W.os∧W'.output=W.output∧W.heap.size≤W'.heap.size∧∀ b,b<W.heap.size→W'.heap[b]?=W.heap[b]?
theorem run_true {f:Nat} {args:List AV} {vals:Array Value} {W:World} (hc:PC f args (vb true)) (hM:Start W) (hs:vals.size=args.length)
  (hr:∀ (i:Nat) (av:AV) (x:Value),args[i]?=some av→vals[i]?=some x→Rep (g00 W) W NoU av x):Calls Tryz.prog f vals W fun e W'=>e=.returned (.bool true)∧Still W W':=by
 refine (hc.2 (g00 W) W vals hs (fun i av x q1 q2=>(hr i av x q1 q2).up _) (inv00 hM.1 hM.2)).mono fun e W' ⟨v,r,h',g',e1,e2,e3,e4,_⟩=>?_
 subst e1
 obtain ⟨rfl,rfl⟩:=e2
 obtain rfl:=e3.v_eq
 exact ⟨rfl,e4.os,e4.output,e4.size,fun b hb=>e4.frame b hb (fun r h=>h.elim)⟩
theorem Still.kept {W W' : World} (h:Still W W') (may:MemPlace→Prop):W.keptBut W' may:=by
 refine ⟨h.1,h.2.1,fun i hi=>?_⟩
 rw [h.2.2.2 i hi]
 cases hh:W.heap[i]? with
 | none=>rfl
 | some o=>cases o <;> simp
theorem Still.same {W W' : World} (h:Still W W') {p:MemPlace} (hp:p.block<W.heap.size):W.sameAt W' p:=by
 cases p with
 | cell b off =>
  show W'.cell? ⟨b,off,none⟩=W.cell? ⟨b,off,none⟩
  unfold World.cell?
  rw [h.2.2.2 b hp]
 | map b=>exact h.2.2.2 b hp
theorem kids:Kids Tryz.prog (· < Tryz.prog.types.size):=kids_rows (by kernel_rfl) (by kernel_rfl)
theorem full:∀ t e,t<Tryz.prog.types.size→Tryz.prog.underlying t=some (.slice e)→0<Tryz.prog.cellsOf e:=slices_full_of Tryz.prog (by kernel_rfl)
theorem carry {H:Type} {enc:TypeId × Value→H} {W W' : World} (h:Still W W'):∀ {ts:List TypeId} {vs:List Value} {ds:List (DataW H)} {ps:List MemPlace},DataW.TrodAll enc Tryz.prog W 0 (fun _=>true) true ts vs ds ps→DataW.TrodAll enc Tryz.prog W' 0 (fun _=>true) true ts vs ds ps
 | [],[],[],_,e=>e
 | t :: ts,v :: vs,d :: ds,ps,k=>by
  have hlt:=k.lt
  obtain ⟨p,q,⟨n,h1⟩,h2,rfl⟩:=k
  exact ⟨p,q,⟨n,DataW.trod_carry n _ _ _ h1 (fun x hx=>h.same (hlt x (List.mem_append_left _ hx)))⟩,carry h h2,rfl⟩
 | [],[],_ :: _,_,k=>k.elim
 | [],_ :: _,_,_,k=>k.elim
 | _ :: _,[],_,_,k=>k.elim
 | _ :: _,_ :: _,[],_,k=>k.elim
theorem post_true {H:Type} {enc:TypeId × Value→H} {W W' : World} {f:Func} {s:ChangeSpec} {args:Array Value} {ds:List (DataW H)} {before:List MemPlace} (hst:Still W W') (hv:s.vars=[])
  (hW:DataW.Whole enc Tryz.prog f.params.toList s.vars false W args.toList ds [] before) (hr:f.resultTypes=#[4]) (hT:∀ t ∈ f.params.toList,t<Tryz.prog.types.size) (hs:s.fn H ds={ results:=[.lit (.bool true)],args:=ds }) :
  s.post enc Tryz.prog f false true false false W args (.bool true) W':=by
 have hW0:=hW
 obtain ⟨p,q,hA,hV,rfl,hz,_⟩:=hW
 rw [hv] at hV
 have hq:q=[]:=hV
 subst hq
 have hlt:=hW0.lt
 have hs2:s.fn H (ds++[])={ results:=[.lit (.bool true)],args:=ds }:=by rw [List.append_nil]; exact hs
 refine ⟨ds,[],p++[],[],p,[],hW0,?_,?_,?_,hst.kept _,fun h=>by cases h⟩
 ·rw [hs2,hr]
  exact ⟨[],[],⟨1,by rw [show (Value.bool true).cells.toList=[.bool true] from rfl,DataW.trod_step]; unfold DataW.trodStep; rw [Tryz.underlying4]⟩,rfl,rfl⟩
 ·rw [hs2]
  exact (carry hst hA).respare kids full hT (fun x hx=>by simpa using hlt x (List.mem_append_left _ hx))
 ·rw [hs2,hv]; rfl
end Go.Proofs.YtpgfieopnnkpfaaGreatDoor.joins
