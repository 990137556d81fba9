/- Lemmas for the claims of this seat, without a condition: part 20 (C47, C48, C49, C50, C51, C52, C53, C54, C55, C65, C66). -/
import Derived.Test.YtpgfieopnnkpfaaGreatDoorNA19
namespace Go.Eng
open Go.Proofs
theorem reqs_few {l:List Rq} (h:checkRqs l=0):l.length≤16:=by
 unfold checkRqs at h;split at h
 ·cases h
 ·omega
theorem ix_few {x:List Rl} (h:checkIx x=0):x.length≤256∧∀ r ∈ x,r.reqs.length≤16:=by
 have h1:x.length≤256:=by
  unfold checkIx at h;split at h
  ·cases h
  ·omega
 exact ⟨h1,fun r hr=>reqs_few ((checkIx_ok h).1 r hr).reqs⟩
theorem flat_few {x:List Rl} (h:∀ r ∈ x,r.reqs.length≤16):((x.map (·.reqs)).flatten).length≤x.length*16:=by
 induction x with
 | nil=>simp
 | cons r x ih =>
  rw [List.map_cons,List.flatten_cons,List.length_append,List.length_cons]
  have:=h r (List.mem_cons_self ..)
  have:=ih fun s hs=>h s (List.mem_cons_of_mem _ hs)
  omega
theorem pathsU_few {x:List Rl} {roots:List Rq} {l:List Nf} (h1:checkIx x=0) (h2:checkRqs roots=0) (h3:l.length≤65536):(pathsU x roots l).length≤100000:=by
 obtain ⟨a,b⟩:=ix_few h1
 have:=flat_few b
 have:=reqs_few h2
 unfold pathsU;simp only [List.length_append,Lm];omega
theorem InU.fewI {U:List ByteArray} {t:List Tm} (h:InU U t) (hu:U.length≤100000):FewI t :=
 ⟨by have:=h.len; omega,fun u hu=>few_can (h.1.canon u hu)⟩
abbrev ckRes (x:List Rl) (ifs:List (List AV)) (roots:List Rq) (l:List Nf):AV :=
 if (deriveP x roots l).2=0 then .tup [.cptr (encCk x (.slice .none ifs) roots (deriveP x roots l).1),vi 0] else .tup [.v (.pointer none),vi (deriveP x roots l).2]
theorem ckRes_err {x:List Rl} {ifs:List (List AV)} {roots:List Rq} {l:List Nf} {e:Int} {d:List (List Tm)} (h:deriveP x roots l=(d,e)) (he:e≠0):AV.tup [.v (.pointer none),vi e]=ckRes x ifs roots l:=by
 unfold ckRes; rw [h,if_neg he]
theorem ckRes_ok {x:List Rl} {ifs:List (List AV)} {roots:List Rq} {l:List Nf} {d:List (List Tm)} (h:deriveP x roots l=(d,0)):AV.tup [.cptr (encCk x (.slice .none ifs) roots d),vi 0]=ckRes x ifs roots l:=by
 unfold ckRes; rw [h,if_pos rfl]
theorem go_take {x:List Rl} {roots:List Rq} {l:List Nf} {d:List (List Tm)} {i:Nat} (h:i<l.length) (hg:deriveGo x roots (l.take i) []=some d) :
  deriveGo x roots (l.take (i+1)) []=match inferP x roots d l[i] with | none=>none | some t=>some (d++[t]):=by
 rw [List.take_add_one,Ge h];show deriveGo x roots (l.take i++[l[i]]) []=_;rw [deriveGo_append,hg]
 rfl
theorem go_none {x:List Rl} {roots:List Rq} {l:List Nf} {i:Nat} (h:deriveGo x roots (l.take i) []=none):deriveGo x roots l []=none:=by
 rw [← List.take_append_drop i l,deriveGo_append,h]
abbrev pl36:Pol:=⟨[],[],[],[],[25],[],[],[(26,(25,3,901,1))],[],[],[3,5,9]⟩
theorem c36 (x:List Rl) (ifs:List (List AV)) (roots:List Rq) (l:List Nf) (hx:∀ r ∈ x,FewR r) (hr:∀ q ∈ roots,FewQ q) (h165:checkIx x=0→C165 x ifs roots):PC 62 [.agg (Ic x ifs),sl encRq roots,sl encNf l] (ckRes x ifs roots l):=by
 have ed:deriveP x roots l=if checkIx x≠0∨checkRqs roots≠0 then ([],(1:Int)) else if 65536<l.length then ([],(7:Int)) else match deriveGo x roots l [] with | none=>([],(18:Int)) | some d=>(d,(0:Int)):=rfl
 refine Ps pl36 Tryz.func62 rfl (Nz rfl) ?_;refine Yi (Nz rfl) ?_;refine Xi .pure (Xi _ (Yi (c64 c155 x ifs hx) ?_));refine Yi ?_ ?_
 ·intro h;have h:checkIx x≠0:=h;exact .of_eq (ckRes_err (by rw [ed,if_pos (.inl h)]) (by decide))
 intro h1;have h1:¬ checkIx x≠0:=h1;refine Xi .pure (Xi _ (Yi (c65 c155 roots hr) ?_));refine Yi ?_ ?_
 ·intro h;have h:checkRqs roots≠0:=h;exact .of_eq (ckRes_err (by rw [ed,if_pos (.inr h)]) (by decide))
 intro h2;have h2:¬ checkRqs roots≠0:=h2;have e1:=Decidable.of_not_not h1;have e2:=Decidable.of_not_not h2;refine Xi ⟨[(1,sl encRq roots),(2,sl encNf l),(3,.ref 3 0)],[(3,.cells (Ic x ifs))],hfree⟩ (Yi ⟨Z3,Z1,Fh,Tv⟩ ?_)
 refine Yi ?_ ?_
 ·intro h;have h:(65536:Int)<(l.map encNf).length:=h;exact .of_eq (ckRes_err (by rw [ed,if_neg (by omega),if_pos (by rw [Lm] at h; omega)]) (by decide))
 intro h;have h:¬ (65536:Int)<(l.map encNf).length:=h;have h3:l.length≤65536:=by rw [Lm] at h; omega
 have ed2:deriveP x roots l=match deriveGo x roots l [] with | none=>([],(18:Int)) | some d=>(d,(0:Int)):=by rw [ed,if_neg (by omega),if_neg (by omega)]
 have hU:=pathsU_few (x:=x) (roots:=roots) (l:=l) e1 e2 h3;have hfew:=ix_few e1;refine Xi ⟨[(1,sl encRq roots),(2,sl encNf l),(3,.ref 3 0)],[(3,.cells (Ic x ifs))],hfree⟩ (Yi ⟨Z3,Z1,Fh,Tv⟩ ?_)
 refine Yi (Nz rfl) ?_;refine Xi {p:Nat × List (List Tm) // p.1≤l.length∧deriveGo x roots (l.take p.1) []=some p.2∧p.2.length=p.1∧∀ t ∈ p.2,InU (pathsU x roots l) t} (Xi (fun p=>⟨[(8,.ref 25 0),(26,sl encNf l),(27,vi (l.map encNf).length),(28,vi p.1.1)],[(25,.cells [sl encRl x,.slice .none ifs,sl encRq roots,.slice (.id 901 1) (p.1.2.map encInc)]),(901,.tok 1 (p.1.2.map encInc).length)],hfree⟩) (Xi (fun p=>l.length - p.1.1) (Yi (Xi ⟨(0,[]),Nat.zero_le _,rfl,rfl,fun t ht=>by cases ht⟩ ?_) ?_)))
 ·exact ⟨Z4,Z2,Fh,Tv⟩
 intro ⟨⟨i,d⟩,i1,i2,i3,i4⟩;have i1:i≤l.length:=i1;have i2:deriveGo x roots (l.take i) []=some d:=i2;have i3:d.length=i:=i3;have i4:∀ t ∈ d,InU (pathsU x roots l) t:=i4;refine Yi ?_ ?_
 ·intro h;have h:(i:Int)<(l.map encNf).length:=h;have h:i<l.length:=by simpa using h
  have hg:l[i]?=some l[i]:=Ge h;refine Xi (encNf l[i]) (Yi (Yi (Nn i) (by simp [hg])) (Yi rfl ?_));refine Yi (Nz rfl) (Yi (Nz rfl) ?_);refine Xi ⟨[(8,.ref 25 0),(10,.ref 10 0),(26,sl encNf l),(27,vi (l.map encNf).length),(28,vi i)],[(10,.cells (encNf l[i])),(25,.cells [sl encRl x,.slice .none ifs,sl encRq roots,.slice (.id 901 1) (d.map encInc)]),(901,.tok 1 (d.map encInc).length)],hfree⟩ (Yi ⟨Z5,Z3,Fh,Tv⟩ ?_)
  refine Yi (Nz rfl) ?_;have hcall:=c66 x ifs roots d l[i] (by omega) (fun q hq=>(hr q hq).1) (by unfold Few; omega) (fun r hr' q hq=>((hx r hr').2 q hq).1) (h165 e1) (fun t ht=>(i4 t ht).fewI hU);have hgt:=go_take h i2;cases hinf:inferP x roots d l[i] with
  | none =>
   refine Xi (.gen [(25,1000),(901,1001)] 0) (Yi rfl (hcall.imp ?_));intro v g q;have q1:v=vb false:=by rw [q.1,hinf]; rfl
   refine Exists.elim q.2 (fun d' q2=>?_);have q21:=q2.1;subst q1;subst q21;rw [hinf] at hgt;have hn:deriveGo x roots l []=none:=go_none hgt;exact .of_eq (ckRes_err (by rw [ed2,hn]) (by decide))
  | some t =>
   refine Xi (.gen [(25,1000),(901,1001)] 0) (Yi rfl (hcall.imp ?_));intro v g q;have q1:v=vb true:=by rw [q.1,hinf]; rfl
   refine Exists.elim q.2 (fun d' q2=>?_);have q21:=q2.1;have q22:=q2.2 t hinf;subst q1;subst q21;rw [hinf] at hgt;refine Yi (Ii i (by omega)) ?_;have hin:=inferP_in (List.getElem_mem h) i4 hinf;refine Xi ⟨(i+1,d'),by show i+1≤_; omega,by rw [q22]; exact hgt,by show d'.length=i+1; rw [q22,List.length_append,List.length_singleton,i3],fun u hu=>?_⟩ ?_
   ·have hu:u ∈ d':=hu;rw [q22] at hu;rcases List.mem_append.1 hu with hu | hu
    ·exact i4 u hu
    ·rw [List.mem_singleton.1 hu]; exact hin
   ·exact ⟨Dl l.length i (by omega),Z4,Z2,Fh,Tv⟩
 ·intro h;have h:¬ (i:Int)<(l.map encNf).length:=h;have h:¬ i<l.length:=by simpa using h
  have hn:deriveGo x roots l []=some d:=by rw [List.take_of_length_le (by omega)] at i2; exact i2
  exact .of_eq (ckRes_ok (by rw [ed2,hn]))
end Go.Eng

namespace Go.Eng
open Go.Proofs
theorem derive_err {x:List Rl} {roots:List Rq} {l:List Nf} (h:(deriveP x roots l).2≠0):(deriveP x roots l).1=[]:=by
 unfold deriveP at h ⊢
 by_cases c:checkIx x≠0∨checkRqs roots≠0
 ·rw [if_pos c]
 ·rw [if_neg c] at h ⊢
  by_cases c2:65536<l.length
  ·rw [if_pos c2]
  ·rw [if_neg c2] at h ⊢;cases e:deriveGo x roots l [] with
   | none=>rfl
   | some d=>rw [e] at h; exact absurd rfl h
theorem derive_few {x:List Rl} {roots:List Rq} {l:List Nf} : (deriveP x roots l).1.length≤65536:=by
 by_cases h:(deriveP x roots l).2=0
 ·obtain ⟨_,_,h3,h4⟩:=deriveP_ok h
  have:=deriveGo_len h4
  simp only [List.length_nil] at this; omega
 ·rw [derive_err h]; simp
abbrev Ck (x:List Rl) (ifs:List (List AV)) (roots:List Rq):Prop:=(∀ r ∈ x,FewR r)∧(∀ q ∈ roots,FewQ q)∧(checkIx x=0→C165 x ifs roots)
abbrev ixV (x:List Rl) (ifs:List (List AV)):AV:=.agg (Ic x ifs)
theorem c12 (x:List Rl) (ifs:List (List AV)) (roots:List Rq) (l:List Nf) (hk:Ck x ifs roots):PC 27 [ixV x ifs,sl encRq roots,sl encNf l] (.tup [sl encInc (deriveP x roots l).1,vi (deriveP x roots l).2]):=by
 have hc:=c36 x ifs roots l hk.1 hk.2.1 hk.2.2;unfold ckRes at hc
 by_cases h:(deriveP x roots l).2=0
 ·rw [if_pos h] at hc;refine Ps pl0 Tryz.func27 rfl (Nz rfl) ?_;refine Yi (Nz rfl) ?_;refine Xi .pure (Xi _ (Yi (hc) ?_));refine Yi ?_ ?_
  ·intro h; exact absurd rfl h
  intro _;exact .of_eq (show AV.tup [sl encInc (deriveP x roots l).1,vi 0]=.tup [sl encInc (deriveP x roots l).1,vi (deriveP x roots l).2] by rw [h])
 ·rw [if_neg h] at hc;have e:AV.tup [.slice .none [],vi (deriveP x roots l).2]=.tup [sl encInc (deriveP x roots l).1,vi (deriveP x roots l).2]:=by rw [derive_err h]; rfl
  have e0:Sub (.tup [.v (.slice none 0 0),vi (deriveP x roots l).2]) (.tup [.slice .none [],vi (deriveP x roots l).2]):=Sub.tup ⟨.nil,.refl _,trivial⟩;refine Ps pl0 Tryz.func27 rfl (Nz rfl) ?_;refine Yi (Nz rfl) ?_;refine Xi .pure (Xi _ (Yi (hc) ?_));refine Yi ?_ ?_
  ·intro _;exact e0.trans (.of_eq e)
  ·intro h2; exact absurd h h2
end Go.Eng

namespace Go.Eng
open Go.Proofs
abbrev shK:Shape:=⟨true,[.str,.int .i64,.int .i64,.int .i64]⟩
abbrev keyVl (y:Sl):Value:=.agg #[.string y.path,.int .i64 y.ver.a,.int .i64 y.ver.b,.int .i64 y.ver.c]
abbrev kvR (r:Rl):Value × AV:=(keyVl (keyR r),.agg (encRl r))
def pathsIx:List Rl→List ByteArray→List ByteArray
 | [],acc=>acc
 | r :: x,acc=>pathsIx x (if acc.any (fun p=>decide (p=r.path)) then acc else acc++[r.path])
abbrev kvP (x:List Rl) (p:ByteArray):Value × AV:=(.string p,sl encRl (x.filter fun r=>decide (r.path=p)))
abbrev tblV (x:List Rl):AV:=if checkIx x=0 then .tup [.agg [.cmap shK (x.map kvR),.cmap shS ((pathsIx x []).map (kvP x))],vi 0] else .tup [.agg [.cmap shK [],.cmap shS []],vi (checkIx x)]
abbrev H84 (x:List Rl) (ifs:List (List AV)):Prop:=PC 138 [ixV x ifs] (tblV x)
theorem c98z:PC 213 [.agg zRl] (.agg zRl):=by
 refine Ps pl0 Tryz.func213 rfl (Nz rfl) ?_;refine Yi (Nz rfl) ?_;refine Xi Unit (Xi (fun _=>⟨[(1,.ref 1 0),(2,.ref 2 0),(10,vi 0),(11,vi 0)],[(1,.cells zRl),(2,.cells zRl)],hfree⟩) (Xi (fun _=>0) (Yi (Xi () ?_) ?_)))
 ·exact ⟨Z4,Z2,Fh,Tv⟩
 intro _;refine Yi ?_ ?_
 ·intro h; exact absurd (show (0:Int)<0 from h) (by decide)
 ·intro _;refine Yi (Nz rfl) (Yi (Nz rfl) (Yi (Nz rfl) ?_));exact .refl _
theorem key_inj {y z:Sl} (h:keyVl y=keyVl z):y=z:=by
 obtain ⟨p,⟨a,b,c⟩⟩:=y;obtain ⟨q,⟨d,e,f⟩⟩:=z;simp only [keyVl,Value.agg.injEq,Array.mk.injEq,List.cons.injEq,Value.string.injEq,Value.int.injEq,true_and,and_true] at h;obtain ⟨rfl,rfl,rfl,rfl⟩:=h
 rfl
theorem kvR_mem {x:List Rl} {y:Sl} {a:AV} (h:(keyVl y,a) ∈ x.map kvR):∃ r ∈ x,keyR r=y∧a=.agg (encRl r):=by
 obtain ⟨r,h1,h2⟩:=List.mem_map.1 h;simp only [kvR,Prod.mk.injEq] at h2;exact ⟨r,h1,key_inj h2.1,h2.2.symm⟩
theorem find_key {x:List Rl} (hx:checkIx x=0) {r:Rl} (hr:r ∈ x):findRl x (keyR r)=some r:=by
 unfold findRl;rw [if_neg (by omega)];cases h:x.find? (fun s=>decide (keyR s=keyR r)) with
 | none =>
  rw [List.find?_eq_none] at h;exact absurd (by simp) (h r hr)
 | some s =>
  have h1:=List.find?_some h;simp only [decide_eq_true_eq] at h1;have hs:=List.mem_of_find?_eq_some h;have hp:=(checkIx_ok hx).2;rcases List.mem_iff_getElem.1 hr with ⟨i,hi,e1⟩;rcases List.mem_iff_getElem.1 hs with ⟨j,hj,e2⟩;rcases Nat.lt_trichotomy i j with hij | hij | hij
  ·have:=(List.pairwise_iff_getElem.1 hp) i j hi hj hij
   rw [e1,e2] at this;exact (ltR_irrefl this h1.symm).elim
  ·subst hij; rw [← e1,← e2]
  ·have:=(List.pairwise_iff_getElem.1 hp) j i hj hi hij
   rw [e1,e2] at this;exact (ltR_irrefl this h1).elim
theorem c53 (x:List Rl) (ifs:List (List AV)) (p:ByteArray) (v:Ver) (h84:H84 x ifs) (hx:∀ r ∈ x,FewR r):PC 148 [ixV x ifs,vs p,.agg (encVer v)] (optRl (findRl x ⟨p,v⟩)):=by
 have hz:=c98z
 by_cases h0:checkIx x=0
 ·have h84:PC 138 [ixV x ifs] (.tup [.agg [.cmap shK (x.map kvR),.cmap shS ((pathsIx x []).map (kvP x))],vi 0]):=by
   have:=h84; unfold H84 tblV at this; rw [if_pos h0] at this; exact this
  refine Ps (plcut [2,3]) Tryz.func148 rfl (Nz rfl) ?_;refine Yi (Nz rfl) ?_;refine Xi .pure (Xi _ (Yi (h84) ?_));refine Yi (Nz rfl) ?_;refine Xi ⟨[(1,vs p),(5,.ref 5 0),(6,.ref 6 0),(8,.ref 8 0)],[(5,.cells (encVer v)),(6,.cells zRl),(8,.cells [.cmap shK (x.map kvR),.cmap shS ((pathsIx x []).map (kvP x))])],hfree⟩ (Yi ⟨Z4,Z3,Fh,Tv⟩ ?_)
  refine Yi (Nz rfl) ?_;refine Yi ?_ ?_
  ·intro a ha;refine Exists.elim (kvR_mem (y:=⟨p,v⟩) ha) (fun r hr=>?_);have e:=hr.2.2;subst e;have hf:findRl x ⟨p,v⟩=some r:=by rw [← hr.2.1]; exact find_key h0 hr.1
   have hrq:=(ix_few h0).2 r hr.1;have hc:=c98 r (by omega) (fun q hq=>((hx r hr.1).2 q hq).1);refine Yi (Nz rfl) ?_;refine Xi ⟨[(6,.ref 6 0),(10,.ref 10 0),(11,vb true)],[(6,.cells zRl),(10,.cells (encRl r))],hfree⟩ (Yi ⟨Z3,Z2,Fh,Tv⟩ ?_)
   refine Yi (Nz rfl) ?_;refine Xi .pure (Xi _ (Yi (hc) ?_));refine Yi (Nz rfl) (Yi (Nz rfl) ?_);exact .of_eq (show AV.tup [.agg (encRl r),vb true]=optRl (findRl x ⟨p,v⟩) by rw [hf])
  ·intro hn;have hf:findRl x ⟨p,v⟩=none:=by
    cases h:findRl x ⟨p,v⟩ with
    | none=>rfl
    | some r =>
     obtain ⟨_,h2,h3⟩:=findRl_ok h;exact absurd (List.mem_map.2 ⟨r,h2,by rw [show kvR r=(keyVl (keyR r),AV.agg (encRl r)) from rfl,h3]⟩) (hn (.agg (encRl r)))
   refine Yi (Nz rfl) ?_;refine Xi ⟨[(6,.ref 6 0),(10,.ref 10 0),(11,vb false)],[(6,.cells zRl),(10,.cells zRl)],hfree⟩ (Yi ⟨Z3,Z2,Fh,Tv⟩ ?_)
   refine Yi (Nz rfl) ?_;refine Xi .pure (Xi _ (Yi (hz) ?_));refine Yi (Nz rfl) (Yi (Nz rfl) ?_);exact .of_eq (show AV.tup [.agg zRl,vb false]=optRl (findRl x ⟨p,v⟩) by rw [hf])
 ·have h84:PC 138 [ixV x ifs] (.tup [.agg [.cmap shK [],.cmap shS []],vi (checkIx x)]):=by
   have:=h84; unfold H84 tblV at this; rw [if_neg h0] at this; exact this
  have hf:findRl x ⟨p,v⟩=none:=by unfold findRl; rw [if_pos h0]
  refine Ps (plcut [2,3]) Tryz.func148 rfl (Nz rfl) ?_;refine Yi (Nz rfl) ?_;refine Xi .pure (Xi _ (Yi (h84) ?_));refine Yi (Nz rfl) ?_;refine Xi ⟨[(1,vs p),(5,.ref 5 0),(6,.ref 6 0),(8,.ref 8 0)],[(5,.cells (encVer v)),(6,.cells zRl),(8,.cells [.cmap shK [],.cmap shS []])],hfree⟩ (Yi ⟨Z4,Z3,Fh,Tv⟩ ?_)
  refine Yi (Nz rfl) ?_;refine Yi ?_ ?_
  ·intro a ha; cases ha
  ·intro _;refine Yi (Nz rfl) ?_;refine Xi ⟨[(6,.ref 6 0),(10,.ref 10 0),(11,vb false)],[(6,.cells zRl),(10,.cells zRl)],hfree⟩ (Yi ⟨Z3,Z2,Fh,Tv⟩ ?_)
   refine Yi (Nz rfl) ?_;refine Xi .pure (Xi _ (Yi (hz) ?_));refine Yi (Nz rfl) (Yi (Nz rfl) ?_);exact .of_eq (show AV.tup [.agg zRl,vb false]=optRl (findRl x ⟨p,v⟩) by rw [hf])
end Go.Eng

namespace Go.Eng
open Go.Proofs
abbrev spansA (l:List Rl):SpanL:=(l.filter fun r=>!r.yanked).map fun r=>(plc r.ver,plc r.ver+1)
theorem spansA_len (l:List Rl):(spansA l).length≤l.length:=by
 unfold spansA; rw [Lm]; exact List.length_filter_le _ _
theorem kvP_mem {x:List Rl} {ps:List ByteArray} {p:ByteArray} {a:AV} (h:(Value.string p,a) ∈ ps.map (kvP x)):a=sl encRl (x.filter fun r=>decide (r.path=p)):=by
 obtain ⟨q,_,h2⟩:=List.mem_map.1 h;simp only [kvP,Prod.mk.injEq,Value.string.injEq] at h2;rw [← h2.2,h2.1]
theorem any_path {acc:List ByteArray} {p:ByteArray} : (acc.any fun q=>decide (q=p))=true↔p ∈ acc:=by
 rw [List.any_eq_true];constructor
 ·rintro ⟨q,h1,h2⟩; rw [← of_decide_eq_true h2]; exact h1
 ·intro h; exact ⟨p,h,by simp⟩
theorem pathsIx_mem:∀ (x:List Rl) (acc:List ByteArray) (p:ByteArray),p ∈ pathsIx x acc↔p ∈ acc∨∃ r ∈ x,r.path=p
 | [],acc,p=>by simp [pathsIx]
 | r :: x,acc,p=>by
  rw [pathsIx,pathsIx_mem x];constructor
  ·rintro (h | ⟨s,h1,h2⟩)
   ·split at h
    ·exact .inl h
    ·rcases List.mem_append.1 h with h | h
     ·exact .inl h
     ·exact .inr ⟨r,List.mem_cons_self ..,(List.mem_singleton.1 h).symm⟩
   ·exact .inr ⟨s,List.mem_cons_of_mem _ h1,h2⟩
  ·rintro (h | ⟨s,h1,h2⟩)
   ·left
    split
    ·exact h
    ·exact List.mem_append_left _ h
   ·rcases List.mem_cons.1 h1 with rfl | h1
    ·left
     split
     ·rename_i hh; rw [← h2]; exact any_path.1 hh
     ·rw [← h2]; exact List.mem_append_right _ (List.mem_singleton.2 rfl)
    ·exact .inr ⟨s,h1,h2⟩
abbrev pl195:Pol:=⟨[],[(7,2)],[],[],[],[],[],[],[],[],[2,3,6,7,9]⟩
theorem c195_loop (L:List Rl) (i:Nat) (h:i<L.length):spansA (L.take (i+1))=spansA (L.take i)++(if L[i].yanked then [] else [(plc L[i].ver,plc L[i].ver+1)]):=by
 unfold spansA;rw [List.take_add_one,Ge h,List.filter_append,List.map_append]
 congr 1
 cases hy:L[i].yanked <;> simp [hy]
theorem c195 (x:List Rl) (ifs:List (List AV)) (p:ByteArray) (h84:H84 x ifs):PC 307 [ixV x ifs,vs p] (sl encSpan (availP x p)):=by
 by_cases h0:checkIx x=0
 ·have h84:PC 138 [ixV x ifs] (.tup [.agg [.cmap shK (x.map kvR),.cmap shS ((pathsIx x []).map (kvP x))],vi 0]):=by
   have:=h84; unfold H84 tblV at this; rw [if_pos h0] at this; exact this
  have hxl:=(ix_few h0).1;obtain ⟨L,hLd⟩ : ∃ L,L=x.filter fun r=>decide (r.path=p):=⟨_,rfl⟩;have hL:ofPath x p=L:=by unfold ofPath; rw [if_neg (by omega),hLd]
  have hLl:L.length≤256:=by have:=List.length_filter_le (fun r:Rl=>decide (r.path=p)) x; rw [hLd]; omega
  refine Ps pl195 Tryz.func307 rfl (Nz rfl) ?_;refine Yi (Nz rfl) ?_;refine Xi .pure (Xi _ (Yi (h84) ?_));refine Yi (Nz rfl) ?_;refine Xi ⟨[(1,vs p),(5,.ref 5 0)],[(5,.cells [.cmap shK (x.map kvR),.cmap shS ((pathsIx x []).map (kvP x))])],hfree⟩ (Yi ⟨Z2,Z1,Fh,Tv⟩ ?_)
  refine Xi ⟨[(1,vs p),(5,.ref 5 0),(7,.slice (.id 7 2) [])],[(5,.cells [.cmap shK (x.map kvR),.cmap shS ((pathsIx x []).map (kvP x))]),(7,.tok 2 0)],hfree⟩ (Yi ⟨Z3,Z2,Fh,Tv⟩ ?_)
  refine Yi ?_ ?_
  ·intro a ha;have ea:a=sl encRl L:=by rw [hLd]; exact kvP_mem ha
   subst ea;refine Xi {i:Nat // i≤L.length} (Xi (fun i=>⟨[(7,.slice (.id 7 2) ((spansA (L.take i.1)).map encSpan)),(18,sl encRl L),(19,vi (L.map encRl).length),(20,vi i.1)],[(7,.tok 2 ((spansA (L.take i.1)).map encSpan).length)],hfree⟩) (Xi (fun i=>L.length - i.1) (Yi (Xi ⟨0,Nat.zero_le _⟩ ?_) ?_)))
   ·exact ⟨Z4,Z1,Fh,Tv⟩
   intro ⟨i,i1⟩;have hsl:=spansA_len (L.take i);rw [List.length_take] at hsl;refine Yi ?_ ?_
   ·intro h;have h:(i:Int)<(L.map encRl).length:=h;have h:i<L.length:=by simpa using h
    have hg:L[i]?=some L[i]:=Ge h;refine Xi (encRl L[i]) (Yi (Yi (Nn i) (by simp [hg])) (Yi rfl ?_));refine Yi (Nz rfl) (Yi (Nz rfl) ?_);refine Xi ⟨[(7,.slice (.id 7 2) ((spansA (L.take i)).map encSpan)),(9,.ref 9 0),(18,sl encRl L),(19,vi (L.map encRl).length),(20,vi i)],[(7,.tok 2 ((spansA (L.take i)).map encSpan).length),(9,.cells (encRl L[i]))],hfree⟩ (Yi ⟨Z5,Z2,Fh,Tv⟩ ?_)
    refine Yi ?_ ?_
    ·intro hy;have hy:L[i].yanked=true:=hy;refine Yi (Ii i (by omega)) ?_;have es:spansA (L.take (i+1))=spansA (L.take i):=by rw [c195_loop L i h,hy]; simp
     have e1:AV.slice (.id 7 2) ((spansA (L.take i)).map encSpan)=.slice (.id 7 2) ((spansA (L.take (i+1))).map encSpan):=by rw [es]
     have e2:HO.tok 2 ((spansA (L.take i)).map encSpan).length=.tok 2 ((spansA (L.take (i+1))).map encSpan).length:=by rw [es]
     refine Xi ⟨i+1,by omega⟩ ?_;exact ⟨Dl L.length i (by omega),⟨⟨e1,rfl⟩,Zr,Zr,Zr,Tv⟩,⟨⟨e2,rfl⟩,Tv⟩,Fh,Tv⟩
    ·intro hy;have hy:L[i].yanked=false:=hy;have hpl:=plc_rng L[i].ver;refine Xi ⟨[(7,.slice (.id 7 2) ((spansA (L.take i)).map encSpan)),(9,.ref 9 0),(18,sl encRl L),(19,vi (L.map encRl).length),(20,vi i)],[(7,.tok 2 ((spansA (L.take i)).map encSpan).length),(9,.cells (encRl L[i]))],hfree⟩ (Yi ⟨Z5,Z2,Fh,Tv⟩ ?_)
     refine Yi (Nz rfl) ?_;refine Xi _ (Yi (c88 L[i]) ?_);refine Yi (Nz rfl) ?_;refine Xi _ (Yi (c88 L[i]) ?_);refine Yi (by show InI64 (plc L[i].ver+1); unfold InI64; omega) ?_;have bulk:AllLen 2 [[vi (plc L[i].ver),vi (plc L[i].ver+1)]]∧((spansA (L.take i)).map encSpan).length=((spansA (L.take i)).map encSpan).length∧(((spansA (L.take i)).map encSpan).length+[[vi (plc L[i].ver),vi (plc L[i].ver+1)]].length)*16≤140737488355328∧((spansA (L.take i)).map encSpan).length+[[vi (plc L[i].ver),vi (plc L[i].ver+1)]].length≤9223372036854775807 :=
      ⟨⟨rfl,trivial⟩,rfl,by rw [Lm,List.length_singleton]; omega,by rw [Lm,List.length_singleton]; omega⟩
     refine Yi bulk ?_;refine Yi (by kernel_rfl) ?_;refine Yi (Ii i (by omega)) ?_;have es:spansA (L.take (i+1))=spansA (L.take i)++[(plc L[i].ver,plc L[i].ver+1)]:=by rw [c195_loop L i h,hy]; simp
     have e1:AV.slice (.id 7 2) ((spansA (L.take i)).map encSpan++[[vi (plc L[i].ver),vi (plc L[i].ver+1)]])=.slice (.id 7 2) ((spansA (L.take (i+1))).map encSpan):=by rw [es,List.map_append]; rfl
     have e2:HO.tok 2 (((spansA (L.take i)).map encSpan).length+[[vi (plc L[i].ver),vi (plc L[i].ver+1)]].length)=.tok 2 ((spansA (L.take (i+1))).map encSpan).length:=by rw [es,List.map_append,List.length_append]; rfl
     refine Xi ⟨i+1,by omega⟩ ?_;exact ⟨Dl L.length i (by omega),⟨⟨e1,rfl⟩,Zr,Zr,Zr,Tv⟩,⟨⟨e2,rfl⟩,Tv⟩,Fh,Tv⟩
   ·intro h;have h:¬ (i:Int)<(L.map encRl).length:=h;have h:¬ i<L.length:=by simpa using h
    have et:L.take i=L:=List.take_of_length_le (by omega);refine Xi ⟨[(7,.slice (.id 7 2) ((spansA (L.take i)).map encSpan))],[(7,.tok 2 ((spansA (L.take i)).map encSpan).length)],hfree⟩ (Yi ⟨Z1,Z1,Fh,Tv⟩ ?_)
    have hc:PC 119 [sl encSpan (spansA (L.take i))] (sl encSpan (canon (spansA (L.take i)))):=c102 _ (by unfold Few; omega);refine Xi .pure (Xi _ (Yi (hc) ?_));exact .of_eq (show sl encSpan (canon (spansA (L.take i)))=sl encSpan (availP x p) by rw [et]; unfold availP; rw [hL])
  ·intro hn;have hL:ofPath x p=[]:=by
    rw [hL,hLd,List.filter_eq_nil_iff];intro r hr he;have he:=of_decide_eq_true he;exact hn _ (List.mem_map.2 ⟨p,(pathsIx_mem x [] p).2 (.inr ⟨r,hr,he⟩),rfl⟩)
   refine Xi Unit (Xi (fun _=>⟨[(7,.slice (.id 7 2) []),(19,vi 0),(20,vi 0)],[(7,.tok 2 0)],hfree⟩) (Xi (fun _=>0) (Yi (Xi () ?_) ?_)))
   ·exact ⟨Z3,Z1,Fh,Tv⟩
   intro _;refine Yi ?_ ?_
   ·intro h; exact absurd (show (0:Int)<0 from h) (by decide)
   intro _;refine Xi ⟨[(7,.slice (.id 7 2) [])],[(7,.tok 2 0)],hfree⟩ (Yi ⟨Z1,Z1,Fh,Tv⟩ ?_)
   have hc:PC 119 [sl encSpan []] (sl encSpan (canon [])):=c102 [] (by unfold Few; simp);refine Xi .pure (Xi _ (Yi (hc) ?_));exact .of_eq (show sl encSpan (canon [])=sl encSpan (availP x p) by unfold availP; rw [hL]; rfl)
 ·have h84:PC 138 [ixV x ifs] (.tup [.agg [.cmap shK [],.cmap shS []],vi (checkIx x)]):=by
   have:=h84; unfold H84 tblV at this; rw [if_neg h0] at this; exact this
  have hL:ofPath x p=[]:=by unfold ofPath; rw [if_pos h0]
  refine Ps pl195 Tryz.func307 rfl (Nz rfl) ?_;refine Yi (Nz rfl) ?_;refine Xi .pure (Xi _ (Yi (h84) ?_));refine Yi (Nz rfl) ?_;refine Xi ⟨[(1,vs p),(5,.ref 5 0)],[(5,.cells [.cmap shK [],.cmap shS []])],hfree⟩ (Yi ⟨Z2,Z1,Fh,Tv⟩ ?_)
  refine Xi ⟨[(1,vs p),(5,.ref 5 0),(7,.slice (.id 7 2) [])],[(5,.cells [.cmap shK [],.cmap shS []]),(7,.tok 2 0)],hfree⟩ (Yi ⟨Z3,Z2,Fh,Tv⟩ ?_)
  refine Yi ?_ ?_
  ·intro a ha; cases ha
  ·intro _;refine Xi Unit (Xi (fun _=>⟨[(7,.slice (.id 7 2) []),(19,vi 0),(20,vi 0)],[(7,.tok 2 0)],hfree⟩) (Xi (fun _=>0) (Yi (Xi () ?_) ?_)))
   ·exact ⟨Z3,Z1,Fh,Tv⟩
   intro _;refine Yi ?_ ?_
   ·intro h; exact absurd (show (0:Int)<0 from h) (by decide)
   intro _;refine Xi ⟨[(7,.slice (.id 7 2) [])],[(7,.tok 2 0)],hfree⟩ (Yi ⟨Z1,Z1,Fh,Tv⟩ ?_)
   have hc:PC 119 [sl encSpan []] (sl encSpan (canon [])):=c102 [] (by unfold Few; simp);refine Xi .pure (Xi _ (Yi (hc) ?_));exact .of_eq (show sl encSpan (canon [])=sl encSpan (availP x p) by unfold availP; rw [hL]; rfl)
end Go.Eng

namespace Go.Eng
open Go.Proofs
theorem availP_few (x:List Rl) (p:ByteArray):Few (availP x p):=by
 unfold availP Few
 have:=canon_len (canon_canon (((ofPath x p).filter fun r=>!r.yanked).map fun r=>(plc r.ver,plc r.ver+1))); omega
theorem c165 (x:List Rl) (ifs:List (List AV)) (roots:List Rq) (h84:H84 x ifs):C165 x ifs roots:=by
 intro d i;have h1:=c195 x ifs i.path h84;have h2:=c194 i.path (availP x i.path) (availP_few x i.path);refine acall_sub (cxe (plcut [2])) [(1000,1000),(1001,1001)] rfl tab_ok hm rfl Tryz.func254 (by kernel_rfl) rfl (Nz rfl) (by kernel_rfl) rfl ?_;refine Yi (Nz rfl) ?_;refine Xi _ (Yi (h1) ?_);refine Xi _ (Yi (h2) ?_);refine Yi (by kernel_rfl) ?_;refine Xi ⟨[(6,sl encTm (noneT i.path (availP x i.path)))],[(1000,ckO x ifs roots d),(1001,tkO d)],hfree⟩ (Yi ⟨Z1,Z2,Fh,ext_dec (by kernel_rfl)⟩ ?_)
 refine Yi ?_ ?_
 ·intro h3;have h3:(0:Int)<((noneT i.path (availP x i.path)).map encTm).length:=h3;have e:AV.tup [sl encTm (noneT i.path (availP x i.path)),vb true]=incV (ne0 (noneT i.path (availP x i.path))):=ne0_cons h3;exact Xi _ (Yi (.refl _) (Yi e rfl))
 ·intro h3;have h3:¬ (0:Int)<((noneT i.path (availP x i.path)).map encTm).length:=h3;have e:AV.tup [sl encTm (noneT i.path (availP x i.path)),vb false]=incV (ne0 (noneT i.path (availP x i.path))):=ne0_nil h3;exact Xi _ (Yi (.refl _) (Yi e rfl))
end Go.Eng

namespace Go.Eng
open Go.Proofs
theorem c77 (y:Sl) (q:Rq):PC 146 [.agg (encSl y),.cptr (encRq q)] (vb (decide (y.path=q.path))):=by
 refine Ps pl0 Tryz.func146 rfl (Nz rfl) ?_;refine Yi ?_ ?_
 ·intro h;have h:y.path=q.path:=h;exact .of_eq (congrArg vb (decide_eq_true h).symm)
 ·intro h;have h:¬ y.path=q.path:=h;exact .of_eq (congrArg vb (decide_eq_false h).symm)
theorem c79 (y:Sl) (p:ByteArray):PC 147 [.agg (encSl y),.cptr [vs p]] (vb (decide (y.path=p))):=by
 refine Ps pl0 Tryz.func147 rfl (Nz rfl) ?_;refine Yi ?_ ?_
 ·intro h;have h:y.path=p:=h;exact .of_eq (congrArg vb (decide_eq_true h).symm)
 ·intro h;have h:¬ y.path=p:=h;exact .of_eq (congrArg vb (decide_eq_false h).symm)
theorem c90 (q:Rq) (r:Rl) (pl:Int) (hq:Few q.set):PC 150 [.agg (encRq q),.cptr (encRl r),.cptr [vi pl]] (vb (decide (q.path=r.path)&&!has q.set pl)):=by
 have hc:=c87 q.set pl hq;cases hh:has q.set pl with
 | true =>
  rw [hh] at hc;refine Ps pl0 Tryz.func150 rfl (Nz rfl) ?_;refine Yi ?_ ?_
  ·intro h;have h:q.path=r.path:=h;refine Xi .pure (Xi _ (Yi (hc) ?_));exact .of_eq (congrArg vb (show false=(decide (q.path=r.path)&&!true) by rw [decide_eq_true h]; rfl))
  ·intro h;have h:¬ q.path=r.path:=h;exact .of_eq (congrArg vb (show false=(decide (q.path=r.path)&&!true) by rw [decide_eq_false h]; rfl))
 | false =>
  rw [hh] at hc;refine Ps pl0 Tryz.func150 rfl (Nz rfl) ?_;refine Yi ?_ ?_
  ·intro h;have h:q.path=r.path:=h;refine Xi .pure (Xi _ (Yi (hc) ?_));exact .of_eq (congrArg vb (show true=(decide (q.path=r.path)&&!false) by rw [decide_eq_true h]; rfl))
  ·intro h;have h:¬ q.path=r.path:=h;exact .of_eq (congrArg vb (show false=(decide (q.path=r.path)&&!false) by rw [decide_eq_false h]; rfl))
end Go.Eng

namespace Go.Eng
open Go.Proofs
abbrev selV (x:List Rl) (s:List Sl):AV:=if increasing s=false then .tup [sl encRl [],vi 1] else match selP x s with
 | none=>.tup [sl encRl [],vi 6]
 | some l=>.tup [sl encRl l,vi 0]
abbrev pl85:Pol:=⟨[],[(7,9)],[],[],[],[],[],[],[],[],[7,11,13]⟩
theorem nilE (e:Int):Sub (.tup [.v (.slice none 0 0),vi e]) (.tup [.slice .none [],vi e]):=Sub.tup ⟨.nil,.refl _,trivial⟩
theorem c85 (x:List Rl) (s:List Sl) (P:List (Value × AV)) (h0:checkIx x=0) (hs:Few s):PC 139 [.agg [.cmap shK (x.map kvR),.cmap shS P],sl encSl s] (selV x s):=by
 unfold Few at hs;refine Ps pl85 Tryz.func139 rfl (Nz rfl) ?_;refine Xi {i:Nat // 1≤i∧(s=[]∨i≤s.length)∧increasing s=(match s[i - 1]? with | none=>true | some y=>incGo (some y.path) (s.drop i))} (Xi (fun i=>⟨[(1,sl encSl s),(2,.ref 2 0),(6,vi i.1)],[(2,.cells [.cmap shK (x.map kvR),.cmap shS P])],hfree⟩) (Xi (fun i=>s.length - i.1) (Yi (Xi ⟨1,Nat.le_refl _,by cases s with | nil=>exact .inl rfl | cons _ _=>exact .inr (by simp),by cases s <;> rfl⟩ ?_) ?_)))
 ·exact ⟨Z3,Z1,Fh,Tv⟩
 intro ⟨i,h1,h2,h3⟩;refine Yi ?_ ?_
 ·intro h;have h:(i:Int)<(s.map encSl).length:=h;have h:i<s.length:=by simpa using h
  have hg:s[i]?=some s[i]:=Ge h;have h' : i - 1<s.length:=by omega
  have hg' : s[i - 1]?=some s[i - 1]:=Ge h';have e1:((i:Int) - 1).toNat=i - 1:=by omega
  have hstep:increasing s=(blt s[i - 1].path s[i].path&&incGo (some s[i].path) (s.drop (i+1))):=by
   rw [h3,hg']
   have:=incGo_at s (i - 1) (by omega)
   simp only [show i - 1+1=i by omega,show i - 1+2=i+1 by omega] at this;exact this
  refine Yi (by show InI64 ((i:Int) - 1); unfold InI64; omega) ?_;refine Xi (encSl s[i - 1]) (Yi (Yi (by show (0:Int)≤(i:Int) - 1; omega) (by show (s.map encSl)[((i:Int) - 1).toNat]?=_; rw [e1]; simp [hg'])) (Yi rfl ?_));refine Xi (encSl s[i]) (Yi (Yi (Nn i) (by simp [hg])) (Yi rfl ?_));refine Yi ?_ ?_
  ·intro h4;have h4:Op.bytesLess s[i - 1].path.toList s[i].path.toList=false:=h4;rw [← blt_eq] at h4;refine Yi (by kernel_rfl) ?_;have e:AV.tup [.slice .none [],vi 1]=selV x s:=by unfold selV; rw [if_pos (by rw [hstep,h4]; rfl)]; rfl
   exact (nilE 1).trans (.of_eq e)
  ·intro h4;have h4:¬ Op.bytesLess s[i - 1].path.toList s[i].path.toList=false:=h4;rw [← blt_eq,Bool.not_eq_false] at h4;refine Yi (by kernel_rfl) ?_;refine Yi (Ii i (by omega)) ?_;refine Xi ⟨i+1,by omega,.inr (by omega),by rw [hstep,h4,show i+1 - 1=i by omega,hg]; rfl⟩ ?_;exact ⟨Dl s.length i (by omega),Z3,Z1,Fh,Tv⟩
 intro h;have h:¬ (i:Int)<(s.map encSl).length:=h;have h:¬ i<s.length:=by simpa using h
 have hinc:increasing s=true:=by
  rcases h2 with h2 | h2
  ·rw [h2]; rfl
  ·have e:i=s.length:=by omega
   rw [h3,e,List.drop_length];cases s[s.length - 1]? <;> rfl
 have es:selV x s=match selP x s with
  | none=>.tup [sl encRl [],vi 6]
  | some l=>.tup [sl encRl l,vi 0]:=by unfold selV; rw [if_neg (by rw [hinc]; decide)]
 refine Xi ⟨[(1,sl encSl s),(2,.ref 2 0),(7,.slice (.id 7 9) [])],[(2,.cells [.cmap shK (x.map kvR),.cmap shS P]),(7,.tok 9 0)],hfree⟩ (Yi ⟨Z3,Z2,Fh,Tv⟩ ?_)
 refine Xi {p:Nat × List Rl // p.1≤s.length∧p.2.length=p.1∧selP x s=(selP x (s.drop p.1)).map (p.2++·)} (Xi (fun p=>⟨[(2,.ref 2 0),(7,.slice (.id 7 9) (p.1.2.map encRl)),(30,sl encSl s),(31,vi (s.map encSl).length),(32,vi p.1.1)],[(2,.cells [.cmap shK (x.map kvR),.cmap shS P]),(7,.tok 9 (p.1.2.map encRl).length)],hfree⟩) (Xi (fun p=>s.length - p.1.1) (Yi (Xi ⟨(0,[]),Nat.zero_le _,rfl,by show selP x s=(selP x s).map _; cases selP x s <;> rfl⟩ ?_) ?_)))
 ·exact ⟨Z5,Z2,Fh,Tv⟩
 intro ⟨⟨j,l⟩,j1,j2,j3⟩;have j1:j≤s.length:=j1;have j2:l.length=j:=j2;have j3:selP x s=(selP x (s.drop j)).map (l++·):=j3;refine Yi ?_ ?_
 ·intro hj;have hj:(j:Int)<(s.map encSl).length:=hj;have hj:j<s.length:=by simpa using hj
  have hg:s[j]?=some s[j]:=Ge hj;have hd:s.drop j=s[j] :: s.drop (j+1):=List.drop_eq_getElem_cons hj;refine Xi (encSl s[j]) (Yi (Yi (Nn j) (by simp [hg])) (Yi rfl ?_));refine Yi (Nz rfl) (Yi (Nz rfl) ?_);refine Yi (Nz rfl) ?_;refine Yi ?_ ?_
  ·intro a ha;refine Exists.elim (kvR_mem (y:=s[j]) ha) (fun r hr=>?_);have e:=hr.2.2;subst e;have hf:findRl x s[j]=some r:=by rw [← hr.2.1]; exact find_key h0 hr.1
   have j4:selP x s=(selP x (s.drop (j+1))).map ((l++[r])++·):=by
    rw [j3,hd,selP,hf];cases selP x (s.drop (j+1)) with
    | none=>rfl
    | some m=>simp
   refine Yi (Nz rfl) ?_;refine Xi ⟨[(2,.ref 2 0),(7,.slice (.id 7 9) (l.map encRl)),(10,.ref 10 0),(11,vb true),(30,sl encSl s),(31,vi (s.map encSl).length),(32,vi j)],[(2,.cells [.cmap shK (x.map kvR),.cmap shS P]),(7,.tok 9 (l.map encRl).length),(10,.cells (encRl r))],hfree⟩ (Yi ⟨Z7,Z3,Fh,Tv⟩ ?_)
   refine Xi ⟨[(2,.ref 2 0),(7,.slice (.id 7 9) (l.map encRl)),(10,.ref 10 0),(30,sl encSl s),(31,vi (s.map encSl).length),(32,vi j)],[(2,.cells [.cmap shK (x.map kvR),.cmap shS P]),(7,.tok 9 (l.map encRl).length),(10,.cells (encRl r))],hfree⟩ (Yi ⟨Z6,Z3,Fh,Tv⟩ ?_)
   refine Yi (Nz rfl) ?_;have bulk:AllLen 9 [encRl r]∧(l.map encRl).length=(l.map encRl).length∧((l.map encRl).length+[encRl r].length)*120≤140737488355328∧(l.map encRl).length+[encRl r].length≤9223372036854775807 :=
    ⟨⟨rfl,trivial⟩,rfl,by rw [Lm,List.length_singleton]; omega,by rw [Lm,List.length_singleton]; omega⟩
   refine Yi bulk ?_;refine Yi (Ii j (by omega)) ?_;have e1:AV.slice (.id 7 9) (l.map encRl++[encRl r])=.slice (.id 7 9) ((l++[r]).map encRl):=by rw [List.map_append]; rfl
   have e2:HO.tok 9 ((l.map encRl).length+[encRl r].length)=.tok 9 ((l++[r]).map encRl).length:=by rw [List.map_append,List.length_append]; rfl
   refine Xi ⟨(j+1,l++[r]),by show j+1≤_; omega,by show (l++[r]).length=j+1; rw [List.length_append,List.length_singleton,j2],j4⟩ ?_;exact ⟨Dl s.length j (by omega),⟨Zr,⟨e1,rfl⟩,Zr,Zr,Zr,Tv⟩,⟨Zr,⟨e2,rfl⟩,Tv⟩,Fh,Tv⟩
  ·intro hn;have hf:findRl x s[j]=none:=by
    cases h:findRl x s[j] with
    | none=>rfl
    | some r =>
     obtain ⟨_,h2,h3⟩:=findRl_ok h;exact absurd (List.mem_map.2 ⟨r,h2,by rw [show kvR r=(keyVl (keyR r),AV.agg (encRl r)) from rfl,h3]⟩) (hn (.agg (encRl r)))
   have j4:selP x s=none:=by rw [j3,hd,selP,hf]; rfl
   refine Yi (Nz rfl) ?_;refine Xi ⟨[(11,vb false)],[],hfree⟩ (Yi ⟨Z1,Tv,Fh,Tv⟩ ?_)
   have e:AV.tup [.slice .none [],vi 6]=selV x s:=by rw [es,j4]; rfl
   exact (nilE 6).trans (.of_eq e)
 ·intro hj;have hj:¬ (j:Int)<(s.map encSl).length:=hj;have hj:¬ j<s.length:=by simpa using hj
  have j4:selP x s=some l:=by rw [j3,List.drop_eq_nil_of_le (by omega)]; simp [selP]
  have e:AV.tup [sl encRl l,vi 0]=selV x s:=by rw [es,j4]
  exact .of_eq e
end Go.Eng

namespace Go.Eng
open Go.Proofs
end Go.Eng

namespace Go.Eng
open Go.Proofs
end Go.Eng

namespace Go.Eng
open Go.Proofs
theorem pathsIx_snoc:∀ (y:List Rl) (acc:List ByteArray) (r:Rl),pathsIx (y++[r]) acc=if (pathsIx y acc).any (fun p=>decide (p=r.path)) then pathsIx y acc else pathsIx y acc++[r.path]
 | [],acc,r=>rfl
 | s :: y,acc,r=>by rw [List.cons_append,pathsIx,pathsIx,pathsIx_snoc y]
theorem pathsIx_nodup:∀ (y:List Rl) (acc:List ByteArray),acc.Nodup→(pathsIx y acc).Nodup
 | [],_,h=>h
 | s :: y,acc,h=>by
  rw [pathsIx];refine pathsIx_nodup y _ ?_;split
  ·exact h
  ·rename_i hn;rw [List.nodup_append];refine ⟨h,by simp,fun a ha b hb e=>?_⟩;rw [List.mem_singleton] at hb;exact hn (any_path.2 (by rw [← hb,← e]; exact ha))
abbrev ofP (y:List Rl) (p:ByteArray):List (List AV):=(y.filter fun r=>decide (r.path=p)).map encRl
abbrev grpE (y:List Rl) (q:ByteArray × Nat):Value × AV:=(.string q.1,.slice (.id (q.2+50) 9) (ofP y q.1))
abbrev grp (y:List Rl):List (Value × AV):=(pathsIx y []).zipIdx.map (grpE y)
def tokG (y:List Rl) (l:Nat):HO:=match (pathsIx y [])[l]? with
 | some q=>.tok 9 (ofP y q).length
 | none=>.free
def hbG (y:List Rl) (j:Nat):HO:=bif Nat.ble 50 j then tokG y (j - 50) else .free
theorem hbG_at (y:List Rl) (l:Nat):hbG y (l+50)=tokG y l:=by
 unfold hbG;rw [show Nat.ble 50 (l+50)=true by rw [Nat.ble_eq]; omega,Nat.add_sub_cancel]; rfl
theorem hbG_lt (y:List Rl) {j:Nat} (h:j<50):hbG y j=.free:=by
 unfold hbG;rw [show Nat.ble 50 j=false by rw [Bool.eq_false_iff]; intro hc; rw [Nat.ble_eq] at hc; omega]; rfl
theorem ofP_snoc (y:List Rl) (r:Rl) (q:ByteArray):ofP (y++[r]) q=if r.path=q then ofP y q++[encRl r] else ofP y q:=by
 unfold ofP;rw [List.filter_append]
 by_cases h:r.path=q
 ·rw [if_pos h,List.filter_cons_of_pos (by simpa using h)]; simp
 ·rw [if_neg h,List.filter_cons_of_neg (by simpa using h)]; simp
theorem zip_get {l:List ByteArray} {q:ByteArray × Nat} (h:q ∈ l.zipIdx):l[q.2]?=some q.1:=by
 obtain ⟨a,b⟩:=q;exact List.mem_zipIdx_iff_getElem?.1 h
open Classical in
theorem mput_app {kvs:List (Value × AV)} {k:Value} {a:AV} (h:∀ a',(k,a') ∉ kvs):mput kvs k a=kvs++[(k,a)]:=by
 unfold mput;rw [if_neg (fun ⟨a',h'⟩=>h a' h')]
open Classical in
theorem mput_map {kvs:List (Value × AV)} {k:Value} {a a' : AV} (h:(k,a') ∈ kvs):mput kvs k a=kvs.map fun p=>if p.1=k then (k,a) else p:=by
 unfold mput;rw [if_pos ⟨a',h⟩]
section
variable {y:List Rl} {r:Rl} {k:Nat}
theorem paths_old (h:(pathsIx y [])[k]?=some r.path):pathsIx (y++[r]) []=pathsIx y []:=by
 rw [pathsIx_snoc,if_pos (any_path.2 (List.mem_of_getElem? h))]
theorem paths_new (h:r.path ∉ pathsIx y []):pathsIx (y++[r]) []=pathsIx y []++[r.path]:=by
 rw [pathsIx_snoc,if_neg (fun hc=>h (any_path.1 hc))]
theorem nodup_get {l:List ByteArray} (hd:l.Nodup) {i j:Nat} {p:ByteArray} (h1:l[i]?=some p) (h2:l[j]?=some p):i=j:=by
 obtain ⟨a1,a2⟩:=List.getElem?_eq_some_iff.1 h1;obtain ⟨b1,b2⟩:=List.getElem?_eq_some_iff.1 h2;exact (List.getElem_inj hd).1 (a2.trans b2.symm)
open Classical in
theorem grp_old (h:(pathsIx y [])[k]?=some r.path):mput (grp y) (.string r.path) (.slice (.id (k+50) 9) (ofP y r.path++[encRl r]))=grp (y++[r]):=by
 have hd:=pathsIx_nodup y [] List.nodup_nil;have hm:grpE y (r.path,k) ∈ grp y:=List.mem_map.2 ⟨_,List.mem_zipIdx_iff_getElem?.2 h,rfl⟩;rw [mput_map (a':=.slice (.id (k+50) 9) (ofP y r.path)) hm];unfold grp;rw [paths_old h,List.map_map];refine List.map_congr_left fun q hq=>?_;have hg:=zip_get hq;obtain ⟨q,j⟩:=q;show (if Value.string q=Value.string r.path then _ else _)=grpE (y++[r]) (q,j);have hg:(pathsIx y [])[j]?=some q:=hg
 by_cases he:q=r.path
 ·subst he
  have:j=k:=nodup_get hd hg h
  subst this;rw [if_pos rfl];show _=(Value.string r.path,AV.slice (.id (j+50) 9) (ofP (y++[r]) r.path));rw [ofP_snoc,if_pos rfl]
 ·rw [if_neg (fun e=>he (by simpa using e))];show (Value.string q,AV.slice (.id (j+50) 9) (ofP y q))=(Value.string q,AV.slice (.id (j+50) 9) (ofP (y++[r]) q));rw [ofP_snoc,if_neg (fun e=>he e.symm)]
theorem ofP_new (h:r.path ∉ pathsIx y []):ofP y r.path=[]:=by
 have:y.filter (fun s=>decide (s.path=r.path))=[]:=by
  rw [List.filter_eq_nil_iff];intro s hs he;exact h ((pathsIx_mem y [] r.path).2 (.inr ⟨s,hs,of_decide_eq_true he⟩))
 unfold ofP;rw [this]; rfl
theorem grp_none (h:r.path ∉ pathsIx y []) (a:AV):(Value.string r.path,a) ∉ grp y:=by
 intro hc;obtain ⟨q,h1,h2⟩:=List.mem_map.1 hc;simp only [grpE,Prod.mk.injEq,Value.string.injEq] at h2;exact h (by rw [← h2.1]; exact List.mem_of_getElem? (zip_get h1))
theorem grp_new (h:r.path ∉ pathsIx y []):mput (grp y) (.string r.path) (.slice (.id ((pathsIx y []).length+50) 9) [encRl r])=grp (y++[r]):=by
 rw [mput_app (fun a=>grp_none h a)];unfold grp;rw [paths_new h,List.zipIdx_append,List.map_append]
 congr 1
 ·refine List.map_congr_left fun q hq=>?_;have hg:=zip_get hq
  have:q.1≠r.path:=fun e=>h (by rw [← e]; exact List.mem_of_getElem? hg)
  show (Value.string q.1,AV.slice (.id (q.2+50) 9) (ofP y q.1))=(Value.string q.1,AV.slice (.id (q.2+50) 9) (ofP (y++[r]) q.1));rw [ofP_snoc,if_neg (fun e=>this e.symm)]
 ·show [_]=[(Value.string r.path,AV.slice (.id (0+(pathsIx y []).length+50) 9) (ofP (y++[r]) r.path))];rw [ofP_snoc,if_pos rfl,ofP_new h,Nat.zero_add]; rfl
theorem grp_uniq {p:ByteArray} {j:Nat} (h:(pathsIx y [])[j]?=some p):(Value.string p,AV.slice (.id (j+50) 9) (ofP y p)) ∈ grp y∧∀ b,(Value.string p,b) ∈ grp y→b=AV.slice (.id (j+50) 9) (ofP y p):=by
 refine ⟨List.mem_map.2 ⟨(p,j),List.mem_zipIdx_iff_getElem?.2 h,rfl⟩,fun b hb=>?_⟩;obtain ⟨q,h1,h2⟩:=List.mem_map.1 hb;simp only [grpE,Prod.mk.injEq,Value.string.injEq] at h2;have hg:=zip_get h1;rw [h2.1] at hg
 have:=nodup_get (pathsIx_nodup y [] List.nodup_nil) hg h
 rw [← h2.2,h2.1,this]
theorem tok_at {p:ByteArray} {j:Nat} (h:(pathsIx y [])[j]?=some p):tokG y j=.tok 9 (ofP y p).length:=by
 unfold tokG; rw [h]
theorem tok_old (h:(pathsIx y [])[k]?=some r.path) (l:Nat):(bif Nat.beq (l+50) (k+50) then HO.tok 9 ((ofP y r.path).length+1) else tokG y l)=tokG (y++[r]) l:=by
 by_cases he:l=k
 ·subst he;rw [show Nat.beq (l+50) (l+50)=true from Nat.beq_refl _];unfold tokG;rw [paths_old h,h];show HO.tok 9 _=HO.tok 9 (ofP (y++[r]) r.path).length;rw [ofP_snoc,if_pos rfl,List.length_append]; rfl
 ·rw [show Nat.beq (l+50) (k+50)=false by rw [Bool.eq_false_iff]; intro hc; have:=Nat.eq_of_beq_eq_true hc; omega];show tokG y l=_;unfold tokG;rw [paths_old h];cases hq:(pathsIx y [])[l]? with
  | none=>rfl
  | some q =>
   show HO.tok 9 (ofP y q).length=HO.tok 9 (ofP (y++[r]) q).length;rw [ofP_snoc,if_neg];intro e;subst e;exact he (nodup_get (pathsIx_nodup y [] List.nodup_nil) hq h)
theorem tok_new (h:r.path ∉ pathsIx y []) (l:Nat):(bif Nat.beq (l+50) ((pathsIx y []).length+50) then HO.tok 9 1 else tokG y l)=tokG (y++[r]) l:=by
 by_cases he:l=(pathsIx y []).length
 ·subst he;rw [show Nat.beq ((pathsIx y []).length+50) ((pathsIx y []).length+50)=true from Nat.beq_refl _];unfold tokG;rw [paths_new h];simp only [List.getElem?_append_right (Nat.le_refl _),Nat.sub_self,List.getElem?_cons_zero];show HO.tok 9 1=HO.tok 9 (ofP (y++[r]) r.path).length;rw [ofP_snoc,if_pos rfl,ofP_new h]; rfl
 ·rw [show Nat.beq (l+50) ((pathsIx y []).length+50)=false by rw [Bool.eq_false_iff]; intro hc; have:=Nat.eq_of_beq_eq_true hc; omega];show tokG y l=_;unfold tokG;rw [paths_new h]
  by_cases hl:l<(pathsIx y []).length
  ·rw [List.getElem?_append_left hl,Ge hl];show HO.tok 9 (ofP y (pathsIx y [])[l]).length=HO.tok 9 (ofP (y++[r]) (pathsIx y [])[l]).length;rw [ofP_snoc,if_neg];intro e;exact h (by rw [e]; exact List.getElem_mem hl)
  ·rw [List.getElem?_eq_none (by omega),List.getElem?_eq_none (by rw [List.length_append]; simp; omega)]
end
theorem idsKV_all {h:Nat→HO} : ∀ {kvs:List (Value × AV)},(∀ p ∈ kvs,idsB h p.2=true)→idsKV h kvs=true
 | [],_=>rfl
 | p :: r,hk=>by
  unfold idsKV;rw [hk p (List.mem_cons_self ..)];exact idsKV_all (fun q hq=>hk q (List.mem_cons_of_mem _ hq))
theorem grp_ids (y:List Rl) {h:Nat→HO} (hh:∀ l,h (l+50)=tokG y l):idsKV h (grp y)=true:=by
 refine idsKV_all fun p hp=>?_;obtain ⟨q,h1,rfl⟩:=List.mem_map.1 hp;show idIn h (q.2+50)=true;unfold idIn;rw [hh,tok_at (zip_get h1)]
theorem hbG_step {y:List Rl} {h h' : Nat→HO} (hh:∀ l,h (l+50)=tokG y l) (j:Nat):hbG y j=.free∨(h j=hbG y j∧idsH h' (hbG y j)=true):=by
 by_cases hj:j<50
 ·exact .inl (hbG_lt y hj)
 ·obtain ⟨l,rfl⟩ : ∃ l,j=l+50:=⟨j - 50,by omega⟩
  right
  rw [hbG_at];refine ⟨hh l,?_⟩;unfold tokG;cases (pathsIx y [])[l]? <;> rfl
theorem rel_new {x:List Rl} (hx:checkIx x=0) {i:Nat} (hi:i<x.length):mput ((x.take i).map kvR) (keyVl (keyR x[i])) (.agg (encRl x[i]))=(x.take (i+1)).map kvR:=by
 rw [mput_app]
 ·rw [List.take_add_one,Ge hi,List.map_append]; rfl
 intro a ha;obtain ⟨r,hr,he,_⟩:=kvR_mem ha;obtain ⟨j,hj,e2⟩:=List.mem_iff_getElem.1 hr;rw [List.length_take] at hj;rw [List.getElem_take] at e2;have hp:=(checkIx_ok hx).2
 have:=(List.pairwise_iff_getElem.1 hp) j i (by omega) hi (by omega)
 rw [e2] at this;exact ltR_irrefl this he
abbrev pl84:Pol:=⟨[],[],[],[],[8,9],[9],[40],[],[],[],[8,9,10,11]⟩
abbrev zT:List AV:=[.v (.map none),.v (.map none)]
theorem c84_bad (x:List Rl) (ifs:List (List AV)) (h64:PC 115 [ixV x ifs] (vi (checkIx x))) (h0:checkIx x≠0):H84 x ifs:=by
 have ht:tblV x=.tup [.agg [.cmap shK [],.cmap shS []],vi (checkIx x)]:=by unfold tblV; rw [if_neg h0]
 unfold H84;rw [ht];refine Ps pl84 Tryz.func138 rfl (Nz rfl) ?_;refine Xi 0 ?_;refine Xi 0 ?_;refine Yi (Nz rfl) ?_;refine Xi 0 ?_;refine Yi (Nz rfl) ?_;refine Xi .pure (Xi _ (Yi (h64) ?_));refine Xi 0 ?_;refine Yi ?_ ?_
 ·intro _;refine Xi 0 ?_;refine Yi (Nz rfl) ?_;refine Yi (Nz rfl) ?_;refine Yi (Nz rfl) ?_;exact .refl _
 ·intro h;exact absurd h (fun hc=>hc h0)
theorem pathsIx_len:∀ (y:List Rl) (acc:List ByteArray),(pathsIx y acc).length≤acc.length+y.length
 | [],acc=>by simp [pathsIx]
 | r :: y,acc=>by
  rw [pathsIx];refine Nat.le_trans (pathsIx_len y _) ?_;split
  ·simp only [List.length_cons]; omega
  ·simp only [List.length_append,List.length_cons,List.length_nil]; omega
section
attribute [local irreducible] appendK
theorem c84_ok (x:List Rl) (ifs:List (List AV)) (h64:PC 115 [ixV x ifs] (vi (checkIx x))) (h0:checkIx x=0) (hlen:x.length≤256):H84 x ifs:=by
 have ht:tblV x=.tup [.agg [.cmap shK (x.map kvR),.cmap shS ((pathsIx x []).map (kvP x))],vi 0]:=by unfold tblV; rw [if_pos h0]
 unfold H84;rw [ht];rw [h0] at h64;refine Ps pl84 Tryz.func138 rfl (Nz rfl) ?_;refine Xi 0 ?_;refine Xi 0 ?_;refine Yi (Nz rfl) ?_;refine Xi 0 ?_;refine Yi (Nz rfl) ?_;refine Xi .pure (Xi _ (Yi (h64) ?_));refine Xi 0 ?_;refine Yi ?_ ?_
 ·intro hc;exact absurd (show (0:Int)≠0 from hc) (by decide)
 intro _;refine Xi 0 ?_;refine Xi {i:Nat // i≤x.length} (Xi (fun i=>⟨[(2,.ref 2 0),(4,.ref 4 0),(18,sl encRl x),(19,vi (x.map encRl).length),(20,vi i.1)],[(2,.cells zT),(4,.cells [.mref 8,.mref 9]),(8,.map shK ((x.take i.1).map kvR)),(9,.mapU shS (grp (x.take i.1)))],hbG (x.take i.1)⟩) (Xi (fun i=>x.length - i.1) (Yi (Xi ⟨0,Nat.zero_le _⟩ ?_) ?_)))
 ·refine ⟨Z5,Z4,fun j=>.inl ?_,Tv⟩;show hbG [] j=.free;unfold hbG;cases Nat.ble 50 j <;> rfl
 intro ⟨i,i1⟩;have i1:i≤x.length:=i1;refine Xi 0 ?_;refine Yi ?_ ?_
 ·intro h;have h:(i:Int)<(x.map encRl).length:=h;have h:i<x.length:=by simpa using h
  have hg:x[i]?=some x[i]:=Ge h;have htake:x.take (i+1)=x.take i++[x[i]]:=by rw [List.take_add_one,hg]; rfl
  refine Xi 0 ?_;refine Xi (encRl x[i]) (Yi (Yi (Nn i) (by simp [hg])) (Yi rfl ?_));refine Yi (Nz rfl) (Yi (Nz rfl) ?_);refine Xi ⟨[(2,.ref 2 0),(4,.ref 4 0),(7,.ref 7 0),(18,sl encRl x),(19,vi (x.map encRl).length),(20,vi i)],[(2,.cells zT),(4,.cells [.mref 8,.mref 9]),(7,.cells (encRl x[i])),(8,.map shK ((x.take i).map kvR)),(9,.mapU shS (grp (x.take i)))],hbG (x.take i)⟩ (Yi ?_ ?_)
  ·exact ⟨Z6,⟨Zr,Zr,Zr,Zr,⟨rfl,grp_ids _ (hbG_at _)⟩,Tv⟩,hbG_step (hbG_at _),Tv⟩
  refine Xi 0 ?_;refine Yi (Nz rfl) ?_;refine Xi _ (Yi (c108 x[i]) ?_);refine Yi (Nz rfl) ?_;refine Yi (by kernel_rfl) ?_;have e8:mput ((x.take i).map kvR) (keyVl (keyR x[i])) (.agg (encRl x[i]))=(x.take (i+1)).map kvR:=rel_new h0 h;refine Xi ⟨[(2,.ref 2 0),(4,.ref 4 0),(7,.ref 7 0),(18,sl encRl x),(19,vi (x.map encRl).length),(20,vi i)],[(2,.cells zT),(4,.cells [.mref 8,.mref 9]),(7,.cells (encRl x[i])),(8,.map shK ((x.take (i+1)).map kvR)),(9,.mapU shS (grp (x.take i)))],hbG (x.take i)⟩ (Yi ?_ ?_)
  ·exact ⟨Z6,⟨Zr,Zr,Zr,⟨congrArg (HO.map shK) e8,rfl⟩,⟨rfl,grp_ids _ (hbG_at _)⟩,Tv⟩,hbG_step (hbG_at _),Tv⟩
  have hL:((x.take i).filter (fun r=>decide (r.path=x[i].path))).length≤256:=by
   have:=List.length_filter_le (fun r:Rl=>decide (r.path=x[i].path)) (x.take i)
   rw [List.length_take] at this; omega
  have hP:∀ l,hbG (x.take i) (l+50)=tokG (x.take i) l:=hbG_at _;refine Or.elim (Classical.em (x[i].path ∈ pathsIx (x.take i) [])) (fun hp=>?_) (fun hp=>?_)
  ·refine Exists.elim (List.mem_iff_getElem?.1 hp) (fun k hk=>?_);have hu:=grp_uniq hk;refine Xi 0 ?_;refine Or.inl (Xi (.slice (.id (k+50) 9) (ofP (x.take i) x[i].path)) (Yi hu ?_));refine Yi (Nz rfl) ?_;have hr:hbG (x.take i) (k+50)=.tok 9 (ofP (x.take i) x[i].path).length:=by rw [hP,tok_at hk]
   have hl:(ofP (x.take i) x[i].path).length≤256:=by rw [Lm]; exact hL
   refine appendK_tok (e:=89) (m:=8) (es2:=[encRl x[i]]) rfl rfl rfl (fun _ h=>h) hr ⟨rfl,trivial⟩ (by show (_+1)*120≤_; omega) (by show _+1≤_; omega) ?_;have hk256:k<256:=by
    have:=(List.getElem?_eq_some_iff.1 hk).1
    have:=pathsIx_len (x.take i) []
    rw [List.length_take] at this;simp only [List.length_nil] at this;omega
   have hp':=hk;refine Yi (drawOk_small ⟨smallF_none _,smallF_none _,smallF_none _,smallF_none _,smallF_none _,smallF_none _,smallF_none _,smallF_none _,smallF_none _,smallF_none _,smallF_some (show 39<10000000 by decide),smallF_some (by show _+50<10000000; omega),smallF_some (show 9<10000000 by decide),trivial⟩ (by kernel_rfl)) ?_;have e9:mput (grp (x.take i)) (.string x[i].path) (.slice (.id (k+50) 9) (ofP (x.take i) x[i].path++[encRl x[i]]))=grp (x.take (i+1)):=by rw [htake]; exact grp_old hp'
   have hG:∀ l,(bif Nat.beq (l+50) (k+50) then HO.tok 9 ((ofP (x.take i) x[i].path).length+1) else tokG (x.take i) l)=tokG (x.take (i+1)) l:=by rw [htake]; exact tok_old hp'
   refine Xi ⟨[(2,.ref 2 0),(4,.ref 4 0),(18,sl encRl x),(19,vi (x.map encRl).length),(20,vi i)],[(2,.cells zT),(4,.cells [.mref 8,.mref 9]),(8,.map shK ((x.take (i+1)).map kvR)),(9,.mapU shS (grp (x.take (i+1))))],hbG (x.take (i+1))⟩ (Yi ?_ ?_)
   ·refine ⟨Z5,⟨Zr,Zr,Zr,⟨congrArg (HO.mapU shS) e9,grp_ids _ (hbG_at _)⟩,Tv⟩,hbG_step (fun l=>?_),Tv⟩;show (bif Nat.beq (l+50) (k+50) then HO.tok 9 ((ofP (x.take i) x[i].path).length+1) else hbG (x.take i) (l+50))=_;rw [hP]; exact hG l
   refine Xi 0 ?_;refine Yi (Ii i (by omega)) ?_;refine Xi ⟨i+1,by omega⟩ ?_;exact ⟨Dl x.length i (by omega),Z5,⟨Zr,Zr,Zr,⟨rfl,grp_ids _ (hbG_at _)⟩,Tv⟩,hbG_step (hbG_at _),Tv⟩
  ·have hp':=hp;have hlen2:(pathsIx (x.take i) []).length≤256:=by
    have:=pathsIx_len (x.take i) []
    rw [List.length_take] at this;simp only [List.length_nil] at this;omega
   have hn:=grp_none hp;refine Xi ((pathsIx (x.take i) []).length+50) ?_;refine Or.inr (Yi hn ?_);refine Yi (Nz rfl) ?_;have hr:hbG (x.take i) ((pathsIx (x.take i) []).length+50)=.free:=by
    rw [hP]; unfold tokG; rw [List.getElem?_eq_none (Nat.le_refl _)]
   refine appendK_new (e:=89) (m:=8) (es2:=[encRl x[i]]) rfl rfl rfl (fun _ h=>h) hr rfl ⟨rfl,trivial⟩ (by show 1*120≤_; omega) (by show 1≤_; omega) ?_;refine Yi (drawOk_small ⟨smallF_none _,smallF_none _,smallF_none _,smallF_none _,smallF_none _,smallF_none _,smallF_none _,smallF_none _,smallF_none _,smallF_none _,smallF_some (show 39<10000000 by decide),smallF_some (by show _+50<10000000; omega),smallF_some (show 9<10000000 by decide),trivial⟩ (by kernel_rfl)) ?_;have e9:mput (grp (x.take i)) (.string x[i].path) (.slice (.id ((pathsIx (x.take i) []).length+50) 9) [encRl x[i]])=grp (x.take (i+1)):=by rw [htake]; exact grp_new hp'
   have hG:∀ l,(bif Nat.beq (l+50) ((pathsIx (x.take i) []).length+50) then HO.tok 9 1 else tokG (x.take i) l)=tokG (x.take (i+1)) l:=by rw [htake]; exact tok_new hp'
   refine Xi ⟨[(2,.ref 2 0),(4,.ref 4 0),(18,sl encRl x),(19,vi (x.map encRl).length),(20,vi i)],[(2,.cells zT),(4,.cells [.mref 8,.mref 9]),(8,.map shK ((x.take (i+1)).map kvR)),(9,.mapU shS (grp (x.take (i+1))))],hbG (x.take (i+1))⟩ (Yi ?_ ?_)
   ·refine ⟨Z5,⟨Zr,Zr,Zr,⟨congrArg (HO.mapU shS) e9,grp_ids _ (hbG_at _)⟩,Tv⟩,hbG_step (fun l=>?_),Tv⟩;show (bif Nat.beq (l+50) ((pathsIx (x.take i) []).length+50) then HO.tok 9 1 else hbG (x.take i) (l+50))=_;rw [hP]; exact hG l
   refine Xi 0 ?_;refine Yi (Ii i (by omega)) ?_;refine Xi ⟨i+1,by omega⟩ ?_;exact ⟨Dl x.length i (by omega),Z5,⟨Zr,Zr,Zr,⟨rfl,grp_ids _ (hbG_at _)⟩,Tv⟩,hbG_step (hbG_at _),Tv⟩
 ·intro h;have h:¬ (i:Int)<(x.map encRl).length:=h;have h:¬ i<x.length:=by simpa using h
  have et:x.take i=x:=List.take_of_length_le (by omega);refine Xi ⟨[(2,.ref 2 0),(4,.ref 4 0)],[(2,.cells zT),(4,.cells [.mref 8,.mref 9]),(8,.map shK ((x.take i).map kvR)),(9,.mapU shS (grp (x.take i)))],hbG (x.take i)⟩ (Yi ?_ ?_)
  ·exact ⟨Z2,⟨Zr,Zr,Zr,⟨rfl,grp_ids _ (hbG_at _)⟩,Tv⟩,hbG_step (hbG_at _),Tv⟩
  refine Xi 0 ?_;refine Yi (Nz rfl) ?_;refine Yi (Nz rfl) ?_;refine Yi (Nz rfl) ?_;have es:∀ h:Nat→HO,strM h (grp (x.take i))=(pathsIx x []).map (kvP x):=fun h=>by
   rw [et];unfold strM grp;rw [List.map_map];refine List.ext_getElem? fun j=>?_;rw [List.getElem?_map,List.getElem?_map,List.getElem?_zipIdx];cases (pathsIx x [])[j]? <;> rfl
  have e1:(x.take i).map kvR=x.map kvR:=by rw [et]
  exact .of_eq (show AV.tup [.agg [.cmap shK ((x.take i).map kvR),.cmap shS (strM _ (grp (x.take i)))],vi 0]=_ by rw [e1,es])
end
theorem c84 (x:List Rl) (ifs:List (List AV)) (hx:∀ r ∈ x,FewR r):H84 x ifs:=by
 by_cases h0:checkIx x=0
 ·exact c84_ok x ifs (c64 c155 x ifs hx) h0 (ix_few h0).1
 ·exact c84_bad x ifs (c64 c155 x ifs hx) h0
end Go.Eng

namespace Go.Eng
open Go.Proofs
abbrev plT (n:Nat):Pol:=⟨[],[(2,n)],[],[],[],[],[5],[],[],[],[2,3]⟩
theorem c76t (l:List Rq) (hl:Few l):ACall Tryz.prog 144 [sl encRq l] (heapOf [] hfree) fun r h'=>r=.slice (.id 2000 2) (l.map encRq)∧h'=heapOf [(2000,.tok 2 (l.map encRq).length)] hfree:=by
 refine acall_sub (cxe (plT 2)) [(2,2000)] rfl tab_ok hm rfl Tryz.func144 (by kernel_rfl) rfl (Nz rfl) (by kernel_rfl) rfl ?_;have bulk:AllLen 2 (l.map encRq)∧([]:List (List AV)).length=0∧(([]:List (List AV)).length+(l.map encRq).length)*40≤140737488355328∧([]:List (List AV)).length+(l.map encRq).length≤9223372036854775807:=by
  refine ⟨allLen_map (enc:=encRq) (n:=2) (fun _=>rfl) l,rfl,?_,?_⟩ <;> simp only [List.length_nil,Lm] <;> unfold Few at hl <;> omega
 have e2:HO.tok 2 (([]:List (List AV)).length+(l.map encRq).length)=.tok 2 (l.map encRq).length:=by rw [List.length_nil,Nat.zero_add]
 have e3:AV.slice (.id 2000 2) ([]++l.map encRq)=.slice (.id 2000 2) (l.map encRq):=rfl;have full:∀ st:St,(∃ s:LS,St.le (cxe (plT 2)) st s∧True)→True:=fun _ _=>trivial;refine Xi 0 ?_;refine Xi 0 ?_;refine Yi ?_ ?_
 ·intro _;refine Xi ⟨[(0,sl encRq l)],[],hfree⟩ (Yi ⟨Z1,Tv,Fh,ext_dec (by kernel_rfl)⟩ ?_)
  refine Xi 2 ?_;refine Yi bulk ?_;exact Xi _ (Yi (.refl _) (Yi e3 (congrArg (fun o=>heapOf [(2000,o)] hfree) e2)))
 ·intro h;have h:l.map encRq=[]:=h;refine Yi ?_ ?_
  ·refine Xi ⟨[],[],hfree⟩ (Yi ⟨trivial,trivial,fun _=>.inl rfl,ext_dec (by kernel_rfl)⟩ ?_)
   refine Xi 0 ?_;exact Xi _ (Yi (.refl _) (Yi (show AV.slice (.id 2000 2) []=_ by rw [h]) (show heapOf [(2000,HO.tok 2 0)] hfree=_ by rw [h]; rfl)))
  ·refine Xi ⟨[(0,sl encRq l)],[],hfree⟩ (Yi ⟨Z1,Tv,Fh,ext_dec (by kernel_rfl)⟩ ?_)
   refine Xi 2 ?_;refine Yi bulk ?_;exact Xi _ (Yi (.refl _) (Yi e3 (congrArg (fun o=>heapOf [(2000,o)] hfree) e2)))
end Go.Eng
