/- Lemmas for the claims of this seat, without a condition: part 21 (C67, C68, C69, C56, C57, C58, C59, C70, C71, C72, C73). -/
import Derived.Test.YtpgfieopnnkpfaaGreatDoorNA20
namespace Go.Eng
open Go.Proofs
theorem c32t (l:List Sl) (hl:Few l):ACall Tryz.prog 151 [sl encSl l] (heapOf [] hfree) fun r h'=>r=.slice (.id 2000 4) (l.map encSl)∧h'=heapOf [(2000,.tok 4 (l.map encSl).length)] hfree:=by
 refine acall_sub (cxe (plT 4)) [(2,2000)] rfl tab_ok hm rfl Tryz.func151 (by kernel_rfl) rfl (Nz rfl) (by kernel_rfl) rfl ?_;have bulk:AllLen 4 (l.map encSl)∧([]:List (List AV)).length=0∧(([]:List (List AV)).length+(l.map encSl).length)*40≤140737488355328∧([]:List (List AV)).length+(l.map encSl).length≤9223372036854775807:=by
  refine ⟨allLen_map (enc:=encSl) (n:=4) (fun _=>rfl) l,rfl,?_,?_⟩ <;> simp only [List.length_nil,Lm] <;> unfold Few at hl <;> omega
 have e2:HO.tok 4 (([]:List (List AV)).length+(l.map encSl).length)=.tok 4 (l.map encSl).length:=by rw [List.length_nil,Nat.zero_add]
 have e3:AV.slice (.id 2000 4) ([]++l.map encSl)=.slice (.id 2000 4) (l.map encSl):=rfl;refine Xi 0 ?_;refine Xi 0 ?_;refine Yi ?_ ?_
 ·intro _;refine Xi ⟨[(0,sl encSl l)],[],hfree⟩ (Yi ⟨Z1,Tv,Fh,ext_dec (by kernel_rfl)⟩ ?_)
  refine Xi 2 ?_;refine Yi bulk ?_;exact Xi _ (Yi (.refl _) (Yi e3 (congrArg (fun o=>heapOf [(2000,o)] hfree) e2)))
 ·intro h;have h:l.map encSl=[]:=h;refine Yi ?_ ?_
  ·refine Xi ⟨[],[],hfree⟩ (Yi ⟨trivial,trivial,fun _=>.inl rfl,ext_dec (by kernel_rfl)⟩ ?_)
   refine Xi 0 ?_;exact Xi _ (Yi (.refl _) (Yi (show AV.slice (.id 2000 4) []=_ by rw [h]) (show heapOf [(2000,HO.tok 4 0)] hfree=_ by rw [h]; rfl)))
  ·refine Xi ⟨[(0,sl encSl l)],[],hfree⟩ (Yi ⟨Z1,Tv,Fh,ext_dec (by kernel_rfl)⟩ ?_)
   refine Xi 2 ?_;refine Yi bulk ?_;exact Xi _ (Yi (.refl _) (Yi e3 (congrArg (fun o=>heapOf [(2000,o)] hfree) e2)))
abbrev pl47:Pol:=⟨[9,16],[],[],[],[],[],[],[],[(98,3)],[],[5,6,7,8,10,11,13,14]⟩
abbrev skV (p:List Sk × Bool):AV:=.tup [sl encSk p.1,vb p.2]
def skipAt (d:List (List Tm)) (v:Vis) (o:Rl) (x:List Rl) (k:List Sk):List Sk × Bool:=match k with
  | []=>([],false)
  | y :: k'=>if !decide (y.path=v.rel.path)||!decide (y.place=plc o.ver) then ([],false) else match nthZ d y.inf with
   | none=>([],false)
   | some t=>if entailed t (v.before++[keyR o]) then skipGo d v x k' else ([],false)
theorem skip_cons (d:List (List Tm)) (v:Vis) (o:Rl) (x:List Rl) (k:List Sk):skipGo d v (o :: x) k =
  if !decide (o.path=v.rel.path)||o.yanked||!decide (plc o.ver<plc v.rel.ver) then skipGo d v x k else
  if v.needs.any (fun q=>decide (q.path=v.rel.path)&&!has q.set (plc o.ver)) then skipGo d v x k else skipAt d v o x k:=by
 cases k <;> rfl
theorem skip_next {d:List (List Tm)} {v:Vis} {x:List Rl} {i:Nat} (h:i<x.length) {k:List Sk} {p:List Sk × Bool} (e:p=skipGo d v (x.drop i) k)
  (hs:(!decide (x[i].path=v.rel.path)||x[i].yanked||!decide (plc x[i].ver<plc v.rel.ver))=true∨v.needs.any (fun q=>decide (q.path=v.rel.path)&&!has q.set (plc x[i].ver))=true):p=skipGo d v (x.drop (i+1)) k:=by
 rw [e,List.drop_eq_getElem_cons h,skip_cons];rcases hs with hs | hs
 ·rw [if_pos hs]
 ·split
  ·rfl
  ·first | rfl | rw [if_pos hs]
theorem skip_at {d:List (List Tm)} {v:Vis} {x:List Rl} {i:Nat} (h:i<x.length) {k:List Sk} {p:List Sk × Bool} (e:p=skipGo d v (x.drop i) k)
  (h1:x[i].path=v.rel.path) (h2:x[i].yanked=false) (h3:plc x[i].ver<plc v.rel.ver) (h4:v.needs.any (fun q=>decide (q.path=v.rel.path)&&!has q.set (plc x[i].ver))=false):p=skipAt d v x[i] (x.drop (i+1)) k:=by
 rw [e,List.drop_eq_getElem_cons h,skip_cons,if_neg (by simp [h1,h2,h3]),if_neg (by rw [h4]; decide)]
theorem skip_bad:Sub (.tup [.v (.slice none 0 0),vb false]) (skV ([],false)):=Sub.tup ⟨.nil,.refl _,trivial⟩
theorem skip_tail (k:List Sk):(((k.map encSk).take ((k.map encSk).length:Int).toNat).drop (1:Int).toNat)=(k.drop 1).map encSk:=by
 rw [Int.toNat_natCast,List.take_length,List.map_drop]; rfl
theorem c47 (x:List Rl) (ifs:AV) (roots:List Rq) (d:List (List Tm)) (k:List Sk) (before:List Sl) (needs:List Rq) (r:Rl) (hx:x.length≤256) (_hd:d.length≤65536) (ht:∀ t ∈ d,FewT t) (hb:before.length≤1000) (hn:Few needs) (hq:∀ q ∈ needs,Few q.set) :
  PC 86 [.cptr (encCk x ifs roots d),sl encSk k,sl encSl before,sl encRq needs,.agg (encRl r)] (skV (skipGo d ⟨before,needs,r⟩ x k)):=by
 have hbf:Few before:=by unfold Few; omega
 obtain ⟨P,hP⟩ : ∃ P,P=skipGo d ⟨before,needs,r⟩ x k:=⟨_,rfl⟩;rw [← hP];refine Ps pl47 Tryz.func86 rfl (Nz rfl) ?_;refine Yi (Nz rfl) ?_;refine Xi .pure (Xi _ (Yi (c56 r.ver) ?_));refine Xi {p:Nat × List Sk // p.1≤x.length∧P=skipGo d ⟨before,needs,r⟩ (x.drop p.1) p.2} (Xi (fun p=>⟨[(0,.cptr (encCk x ifs roots d)),(1,sl encSk p.1.2),(2,sl encSl before),(3,sl encRq needs),(9,.ref 9 0),(12,vi (plc r.ver)),(29,sl encRl x),(30,vi (x.map encRl).length),(31,vi p.1.1)],[(9,.ro (encRl r))],hfree⟩) (Xi (fun p=>x.length - p.1.1) (Yi (Xi ⟨(0,k),Nat.zero_le _,hP⟩ ?_) ?_)))
 ·exact ⟨Z9,Z1,Fh,Tv⟩
 intro ⟨⟨i,k⟩,i1,i2⟩;have i1:i≤x.length:=i1;have i2:P=skipGo d ⟨before,needs,r⟩ (x.drop i) k:=i2;refine Yi ?_ ?_
 ·intro h;have h:(i:Int)<(x.map encRl).length:=h;have h:i<x.length:=by simpa using h
  have hg:x[i]?=some x[i]:=Ge h;refine Xi (encRl x[i]) (Yi (Yi (Nn i) (by simp [hg])) (Yi rfl ?_));refine Yi (Nz rfl) (Yi (Nz rfl) ?_);refine Xi ⟨[(0,.cptr (encCk x ifs roots d)),(1,sl encSk k),(2,sl encSl before),(3,sl encRq needs),(9,.ref 9 0),(12,vi (plc r.ver)),(15,.ref 15 0),(29,sl encRl x),(30,vi (x.map encRl).length),(31,vi i)],[(9,.ro (encRl r)),(15,.cells (encRl x[i]))],hfree⟩ (Yi ⟨Z10,Z2,Fh,Tv⟩ ?_)
  refine Yi (Nz rfl) ?_;refine Xi .pure (Xi _ (Yi (c56 x[i].ver) ?_));refine Yi (Nz rfl) ?_;refine Xi ⟨[(0,.cptr (encCk x ifs roots d)),(1,sl encSk k),(2,sl encSl before),(3,sl encRq needs),(9,.ref 9 0),(12,vi (plc r.ver)),(15,.ref 15 0),(16,.ref 16 0),(29,sl encRl x),(30,vi (x.map encRl).length),(31,vi i)],[(9,.ro (encRl r)),(15,.cells (encRl x[i])),(16,.ro [vi (plc x[i].ver)])],hfree⟩ (Yi ⟨Z11,Z3,Fh,Tv⟩ ?_)
  refine Yi ?_ ?_
  ·intro h1;have h1:x[i].path≠r.path:=h1;have i3:=skip_next h i2 (.inl (by simp [h1]));refine Xi ⟨[(0,.cptr (encCk x ifs roots d)),(1,sl encSk k),(2,sl encSl before),(3,sl encRq needs),(9,.ref 9 0),(12,vi (plc r.ver)),(29,sl encRl x),(30,vi (x.map encRl).length),(31,vi i)],[(9,.ro (encRl r))],hfree⟩ (Yi ⟨Z9,Z1,Fh,Tv⟩ ?_)
   refine Yi (Ii i (by omega)) ?_;refine Xi ⟨(i+1,k),by show i+1≤_; omega,i3⟩ ?_;exact ⟨Dl x.length i (by omega),Z9,Z1,Fh,Tv⟩
  intro h1;have h1:¬ x[i].path≠r.path:=h1;have h1:x[i].path=r.path:=Classical.not_not.1 h1;refine Yi ?_ ?_
  ·intro h2;have h2:x[i].yanked=true:=h2;have i3:=skip_next h i2 (.inl (by simp [h2]));refine Xi ⟨[(0,.cptr (encCk x ifs roots d)),(1,sl encSk k),(2,sl encSl before),(3,sl encRq needs),(9,.ref 9 0),(12,vi (plc r.ver)),(29,sl encRl x),(30,vi (x.map encRl).length),(31,vi i)],[(9,.ro (encRl r))],hfree⟩ (Yi ⟨Z9,Z1,Fh,Tv⟩ ?_)
   refine Yi (Ii i (by omega)) ?_;refine Xi ⟨(i+1,k),by show i+1≤_; omega,i3⟩ ?_;exact ⟨Dl x.length i (by omega),Z9,Z1,Fh,Tv⟩
  intro h2;have h2:x[i].yanked=false:=h2;refine Yi ?_ ?_
  ·intro h3;have h3:plc r.ver≤plc x[i].ver:=h3;have i3:=skip_next h i2 (.inl (by simp; omega));refine Xi ⟨[(0,.cptr (encCk x ifs roots d)),(1,sl encSk k),(2,sl encSl before),(3,sl encRq needs),(9,.ref 9 0),(12,vi (plc r.ver)),(29,sl encRl x),(30,vi (x.map encRl).length),(31,vi i)],[(9,.ro (encRl r))],hfree⟩ (Yi ⟨Z9,Z1,Fh,Tv⟩ ?_)
   refine Yi (Ii i (by omega)) ?_;refine Xi ⟨(i+1,k),by show i+1≤_; omega,i3⟩ ?_;exact ⟨Dl x.length i (by omega),Z9,Z1,Fh,Tv⟩
  intro h3;have h3:¬ plc r.ver≤plc x[i].ver:=h3;have h3:plc x[i].ver<plc r.ver:=by omega
  refine Xi ⟨[(0,.cptr (encCk x ifs roots d)),(1,sl encSk k),(2,sl encSl before),(3,sl encRq needs),(9,.ref 9 0),(12,vi (plc r.ver)),(15,.ref 15 0),(16,.ref 16 0),(29,sl encRl x),(30,vi (x.map encRl).length),(31,vi i)],[(9,.ro (encRl r)),(15,.cells (encRl x[i])),(16,.ro [vi (plc x[i].ver)])],hfree⟩ (Yi ⟨Z11,Z3,Fh,Tv⟩ ?_)
  have hc90:∀ q ∈ needs,PC 150 ([.agg (encRq q)]++[.cptr (encRl r),.cptr [vi (plc x[i].ver)]]) (vb (decide (q.path=r.path)&&!has q.set (plc x[i].ver))):=fun q hh=>c90 q r (plc x[i].ver) (hq q hh);have hc89:=c89 (fF:=150) (caps:=[.cptr (encRl r),.cptr [vi (plc x[i].ver)]]) (fun c hc=>by
   rcases List.mem_cons.1 hc with rfl | hc
   ·intro h; rfl
   ·obtain rfl:=List.mem_singleton.1 hc;intro h; rfl) needs (fun q=>decide (q.path=r.path)&&!has q.set (plc x[i].ver)) hc90 hn
  refine Or.elim (Bt (needs.any fun q=>decide (q.path=r.path)&&!has q.set (plc x[i].ver))) (fun h4=>?_) (fun h4=>?_)
  ·rw [h4] at hc89;refine Xi .pure (Xi _ (Yi (hc89) ?_));have i3:=skip_next h i2 (.inr h4);refine Xi ⟨[(0,.cptr (encCk x ifs roots d)),(1,sl encSk k),(2,sl encSl before),(3,sl encRq needs),(9,.ref 9 0),(12,vi (plc r.ver)),(29,sl encRl x),(30,vi (x.map encRl).length),(31,vi i)],[(9,.ro (encRl r))],hfree⟩ (Yi ⟨Z9,Z1,Fh,Tv⟩ ?_)
   refine Yi (Ii i (by omega)) ?_;refine Xi ⟨(i+1,k),by show i+1≤_; omega,i3⟩ ?_;exact ⟨Dl x.length i (by omega),Z9,Z1,Fh,Tv⟩
  rw [h4] at hc89;refine Xi .pure (Xi _ (Yi (hc89) ?_));have i4:P=skipAt d ⟨before,needs,r⟩ x[i] (x.drop (i+1)) k:=skip_at h i2 h1 h2 h3 h4;refine Xi ⟨[(0,.cptr (encCk x ifs roots d)),(1,sl encSk k),(2,sl encSl before),(3,sl encRq needs),(9,.ref 9 0),(12,vi (plc r.ver)),(15,.ref 15 0),(16,.ref 16 0),(29,sl encRl x),(30,vi (x.map encRl).length),(31,vi i)],[(9,.ro (encRl r)),(15,.cells (encRl x[i])),(16,.ro [vi (plc x[i].ver)])],hfree⟩ (Yi ⟨Z11,Z3,Fh,Tv⟩ ?_)
  refine Yi ?_ ?_
  ·intro hh;have hh:((k.map encSk).length:Int)=0:=hh;refine Yi (by kernel_rfl) ?_;have e:P=([],false):=by rw [i4,show k=[] from List.eq_nil_of_length_eq_zero (by simpa using hh)]; rfl
   exact skip_bad.trans (.of_eq (show skV ([],false)=skV P by rw [e]))
  intro hk;have hk:¬ ((k.map encSk).length:Int)=0:=hk;refine Exists.elim (show ∃ y k',k=y :: k' by cases k with | nil=>exact absurd rfl hk | cons y k'=>exact ⟨y,k',rfl⟩) (fun y hy=>?_);refine Exists.elim hy (fun k' hy=>?_);have hg0:(k.map encSk)[(0:Int).toNat]?=some (encSk y):=by rw [hy]; rfl
  have i5:P=skipAt d ⟨before,needs,r⟩ x[i] (x.drop (i+1)) (y :: k'):=by rw [← hy]; exact i4
  refine Xi (encSk y) (Yi (Yi (by decide) hg0) (Yi rfl ?_));refine Yi ?_ ?_
  ·intro hh;have hh:y.path≠r.path:=hh;refine Yi (by kernel_rfl) ?_;have e:P=([],false):=by rw [i5]; show (if _ then _ else _)=_; rw [if_pos (by simp [hh])]
   exact skip_bad.trans (.of_eq (show skV ([],false)=skV P by rw [e]))
  intro h5;have h5:¬ y.path≠r.path:=h5;have h5:y.path=r.path:=Classical.not_not.1 h5;refine Xi (encSk y) (Yi (Yi (by decide) hg0) (Yi rfl ?_));refine Yi ?_ ?_
  ·intro hh;have hh:y.place≠plc x[i].ver:=hh;refine Yi (by kernel_rfl) ?_;have e:P=([],false):=by rw [i5]; show (if _ then _ else _)=_; rw [if_pos (by simp [hh])]
   exact skip_bad.trans (.of_eq (show skV ([],false)=skV P by rw [e]))
  intro h6;have h6:¬ y.place≠plc x[i].ver:=h6;have h6:y.place=plc x[i].ver:=Classical.not_not.1 h6;have i6:P=match nthZ d y.inf with | none=>([],false) | some t=>if entailed t (before++[keyR x[i]]) then skipGo d ⟨before,needs,r⟩ (x.drop (i+1)) k' else ([],false):=by
   rw [i5]; show (if _ then _ else _)=_; rw [if_neg (by simp [h5,h6])]
  refine Xi (encSk y) (Yi (Yi (by decide) hg0) (Yi rfl ?_));refine Yi ?_ ?_
  ·intro hh;have hh:y.inf<0:=hh;refine Yi (by kernel_rfl) ?_;have e:P=([],false):=by rw [i6]; unfold nthZ; rw [if_pos hh]
   exact skip_bad.trans (.of_eq (show skV ([],false)=skV P by rw [e]))
  intro h7;have h7:¬ y.inf<0:=h7;refine Xi (encSk y) (Yi (Yi (by decide) hg0) (Yi rfl ?_));refine Yi ?_ ?_
  ·intro hh;have hh:((d.map encInc).length:Int)≤y.inf:=hh;refine Yi (by kernel_rfl) ?_;have e:P=([],false):=by rw [i6]; unfold nthZ; rw [if_neg h7,List.getElem?_eq_none (by rw [Lm] at hh; omega)]
   exact skip_bad.trans (.of_eq (show skV ([],false)=skV P by rw [e]))
  intro h8;have h8:¬ ((d.map encInc).length:Int)≤y.inf:=h8;rw [Lm] at h8;refine Yi (by kernel_rfl) ?_;refine Exists.elim (show ∃ j:Nat,y.inf=j from ⟨y.inf.toNat,by omega⟩) (fun j hj=>?_);have hj2:j<d.length:=by omega
  have hdg:d[j]?=some d[j]:=Ge hj2;have hnth:nthZ d y.inf=some d[j]:=by unfold nthZ; rw [if_neg h7,hj,Int.toNat_natCast,hdg]
  rw [hnth] at i6;have i6:P=if entailed d[j] (before++[keyR x[i]]) then skipGo d ⟨before,needs,r⟩ (x.drop (i+1)) k' else ([],false):=i6
  refine Xi ⟨[(0,.cptr (encCk x ifs roots d)),(1,sl encSk k),(2,sl encSl before),(3,sl encRq needs),(9,.ref 9 0),(12,vi (plc r.ver)),(15,.ref 15 0),(29,sl encRl x),(30,vi (x.map encRl).length),(31,vi i)],[(9,.ro (encRl r)),(15,.cells (encRl x[i]))],hfree⟩ (Yi ⟨Z10,Z2,Fh,Tv⟩ ?_)
  refine Xi 4 (Xi (before.map encSl) (Yi rfl (Yi (c32t before hbf) ?_)));refine Yi (Nz rfl) ?_;have bulk:AllLen 4 [[vs x[i].path,vi x[i].ver.a,vi x[i].ver.b,vi x[i].ver.c]]∧(before.map encSl).length=(before.map encSl).length∧((before.map encSl).length+[[vs x[i].path,vi x[i].ver.a,vi x[i].ver.b,vi x[i].ver.c]].length)*40≤140737488355328∧(before.map encSl).length+[[vs x[i].path,vi x[i].ver.a,vi x[i].ver.b,vi x[i].ver.c]].length≤9223372036854775807 :=
   ⟨⟨rfl,trivial⟩,rfl,by rw [Lm,List.length_singleton]; omega,by rw [Lm,List.length_singleton]; omega⟩
  refine Yi bulk ?_;refine Yi (by kernel_rfl) ?_;refine Xi ⟨[(0,.cptr (encCk x ifs roots d)),(1,sl encSk k),(2,sl encSl before),(3,sl encRq needs),(9,.ref 9 0),(12,vi (plc r.ver)),(18,.slice (.id 19800 4) (before.map encSl++[[vs x[i].path,vi x[i].ver.a,vi x[i].ver.b,vi x[i].ver.c]])),(29,sl encRl x),(30,vi (x.map encRl).length),(31,vi i)],[(9,.ro (encRl r)),(19800,.tok 4 ((before.map encSl).length+[[vs x[i].path,vi x[i].ver.a,vi x[i].ver.b,vi x[i].ver.c]].length))],hfree⟩ (Yi ⟨Z10,Z2,Fh,Tv⟩ ?_)
  have hent:PC 152 [sl encTm d[j],.slice .none (before.map encSl++[[vs x[i].path,vi x[i].ver.a,vi x[i].ver.b,vi x[i].ver.c]])] (vb (entailed d[j] (before++[keyR x[i]]))):=by
   have:=c91 d[j] (before++[keyR x[i]]) (ht _ (List.getElem_mem hj2)) (by unfold Few; rw [List.length_append,List.length_singleton]; omega)
   have e:(before++[keyR x[i]]).map encSl=before.map encSl++[[vs x[i].path,vi x[i].ver.a,vi x[i].ver.b,vi x[i].ver.c]]:=by rw [List.map_append]; rfl
   unfold sl at this;rw [e] at this;exact this
  have hgd:(d.map encInc)[y.inf.toNat]?=some (encInc d[j]):=by rw [hj,Int.toNat_natCast,List.getElem?_map,hdg]; rfl
  refine Xi (encSk y) (Yi (Yi (by decide) hg0) (Yi rfl ?_));refine Xi (encInc d[j]) (Yi (Yi (by show 0≤y.inf; omega) hgd) (Yi rfl ?_));refine Or.elim (Bt (entailed d[j] (before++[keyR x[i]]))) (fun h9=>?_) (fun h9=>?_)
  ·rw [h9] at hent;refine Xi _ (Yi (hent) ?_);refine Yi (by kernel_rfl) ?_;rw [if_pos h9] at i6;have hkl:1≤(k.map encSk).length:=by rw [hy]; simp
   refine Xi ⟨[(0,.cptr (encCk x ifs roots d)),(1,sl encSk k),(2,sl encSl before),(3,sl encRq needs),(9,.ref 9 0),(12,vi (plc r.ver)),(29,sl encRl x),(30,vi (x.map encRl).length),(31,vi i)],[(9,.ro (encRl r))],hfree⟩ (Yi ⟨Z9,Z1,Fh,Tv⟩ ?_)
   refine Yi (by show (0:Int)≤1∧(1:Int)≤((k.map encSk).length:Int)∧((k.map encSk).length:Int)≤((k.map encSk).length:Int); omega) (Yi (fun c hc=>by
    obtain ⟨z,_,rfl⟩:=List.mem_map.1 hc; rfl) ?_)
   have ek:AV.slice .none (((k.map encSk).take ((k.map encSk).length:Int).toNat).drop (1:Int).toNat)=sl encSk k':=by rw [skip_tail,hy]; rfl
   refine Xi ⟨[(0,.cptr (encCk x ifs roots d)),(1,sl encSk k'),(2,sl encSl before),(3,sl encRq needs),(9,.ref 9 0),(12,vi (plc r.ver)),(29,sl encRl x),(30,vi (x.map encRl).length),(31,vi i)],[(9,.ro (encRl r))],hfree⟩ (Yi ⟨⟨Zr,⟨ek,rfl⟩,Zr,Zr,Zr,Zr,Zr,Zr,Zr,Tv⟩,Z1,Fh,Tv⟩ ?_)
   refine Yi (Ii i (by omega)) ?_;refine Xi ⟨(i+1,k'),by show i+1≤_; omega,i6⟩ ?_;exact ⟨Dl x.length i (by omega),Z9,Z1,Fh,Tv⟩
  ·rw [h9] at hent;refine Xi _ (Yi (hent) ?_);refine Yi (by kernel_rfl) ?_;have e:P=([],false):=by rw [i6,h9]; rfl
   exact skip_bad.trans (.of_eq (show skV ([],false)=skV P by rw [e]))
 ·intro h;have h:¬ (i:Int)<(x.map encRl).length:=h;have h:¬ i<x.length:=by simpa using h
  have e:P=(k,true):=by rw [i2,List.drop_eq_nil_of_le (by omega)]; rfl
  exact .of_eq (show skV (k,true)=skV P by rw [e])
end Go.Eng

namespace Go.Eng
open Go.Proofs
abbrev sH (a:Bool × List Sk):List (Nat × HO):=[(1000,.cells [sl encSk a.2]),(1001,.cells [vb a.1])]
theorem c46 (x:List Rl) (ifs:AV) (roots:List Rq) (d:List (List Tm)) (a:Bool × List Sk) (before:List Sl) (needs:List Rq) (r:Rl)
  (hx:x.length≤256) (hd:d.length≤65536) (ht:∀ t ∈ d,FewT t) (hb:before.length≤1000) (hn:Few needs) (hq:∀ q ∈ needs,Few q.set) :
  ACall Tryz.prog 85 [sl encSl before,sl encRq needs,.agg (encRl r),.cptr [.cptr (encCk x ifs roots d)],.ref 1000 0,.ref 1001 0] (heapOf (sH a) hfree) fun v h'=>v=.tup []∧h'=heapOf (sH (skipStep x d a ⟨before,needs,r⟩)) hfree:=by
 obtain ⟨b,k⟩:=a;have hc:=c47 x ifs roots d k before needs r hx hd ht hb hn hq;obtain ⟨p,hp⟩ : ∃ p,p=skipGo d ⟨before,needs,r⟩ x k:=⟨_,rfl⟩;have es:skipStep x d (b,k) ⟨before,needs,r⟩=(b&&p.2&&!r.yanked,p.1):=by unfold skipStep; rw [← hp]
 rw [← hp] at hc;rw [es];obtain ⟨k2,ok⟩:=p;have fin:∀ z:Bool,z=(b&&ok&&!r.yanked)→heapOf (sH (z,k2)) hfree=heapOf (sH (b&&(k2,ok).2&&!r.yanked,(k2,ok).1)) hfree:=fun z hz=>by rw [hz]
 cases ok with
 | false =>
  refine acall_sub (cxe pl0) [(1000,1000),(1001,1001)] rfl tab_ok hm rfl Tryz.func85 (by kernel_rfl) rfl (Nz rfl) (by kernel_rfl) rfl ?_;refine Yi (Nz rfl) ?_;refine Xi .pure (Xi _ (Yi (hc) ?_));refine Yi ?_ ?_
  ·intro h1;refine Yi (Nz rfl) ?_;refine Yi (Nz rfl) ?_;exact Xi _ (Yi (.refl _) (Yi rfl (fin false (by rw [Bool.and_false]; rfl))))
  ·intro h1;refine Yi (Nz rfl) ?_;refine Yi (Nz rfl) ?_;exact Xi _ (Yi (.refl _) (Yi rfl (fin false (by rw [Bool.and_false]; rfl))))
 | true =>
  refine acall_sub (cxe pl0) [(1000,1000),(1001,1001)] rfl tab_ok hm rfl Tryz.func85 (by kernel_rfl) rfl (Nz rfl) (by kernel_rfl) rfl ?_;refine Yi (Nz rfl) ?_;refine Xi .pure (Xi _ (Yi (hc) ?_));refine Yi ?_ ?_
  ·intro h1;have h1:b=true:=h1;refine Yi ?_ ?_
   ·intro h2;have h2:r.yanked=true:=h2;refine Yi (Nz rfl) ?_;refine Yi (Nz rfl) ?_;exact Xi _ (Yi (.refl _) (Yi rfl (fin false (by rw [h1,h2]; rfl))))
   ·intro h2;have h2:r.yanked=false:=h2;refine Yi (Nz rfl) ?_;refine Yi (Nz rfl) ?_;exact Xi _ (Yi (.refl _) (Yi rfl (fin true (by rw [h1,h2]; rfl))))
  ·intro h1;have h1:b=false:=h1;refine Yi (Nz rfl) ?_;refine Yi (Nz rfl) ?_;exact Xi _ (Yi (.refl _) (Yi rfl (fin false (by rw [h1]; rfl))))
end Go.Eng

namespace Go.Eng
open Go.Proofs
def nextStep (before:List Sl) (acc:Option ByteArray) (q:Rq):Option ByteArray:=if hasPath before q.path then acc else match acc with
  | none=>some q.path
  | some p=>if blt q.path p then some q.path else some p
theorem nextGo_append (before:List Sl):∀ (a b:List Rq) (acc:Option ByteArray),nextGo before (a++b) acc=nextGo before b (nextGo before a acc)
 | [],_,_=>rfl
 | q :: a,b,acc=>nextGo_append before a b (if hasPath before q.path then acc else match acc with | none=>some q.path | some p=>if blt q.path p then some q.path else some p)
theorem nextGo_take (before:List Sl) (l:List Rq) (acc:Option ByteArray) {j:Nat} (h:j<l.length):nextGo before (l.take (j+1)) acc=nextStep before (nextGo before (l.take j) acc) l[j]:=by
 rw [List.take_add_one,Ge h];show nextGo before (l.take j++[l[j]]) acc=_;rw [nextGo_append]; rfl
structure DI {S:Type} (x:List Rl) (roots:List Rq) (s:List Sl) (step:S→Vis→S) (st0:S) (before:List Sl) (needs:List Rq) (n:Nat) (st:S):Prop where
 nd:(before.map (·.path)).Nodup
 sub:∀ y ∈ before,y ∈ s
 fuel:before.length+n=s.length+1
 few:∀ q ∈ needs,Few q.set
 len:needs.length≤roots.length+16*before.length
 ok:(visits x roots s).2=(decideP x s n before needs).2
 fold:(visits x roots s).1.foldl step st0=(decideP x s n before needs).1.foldl step st
section
variable {S:Type} {x:List Rl} {roots:List Rq} {s:List Sl} {step:S→Vis→S} {st0:S} {before:List Sl} {needs:List Rq} {n:Nat} {st:S}
theorem DI.start (hq:∀ q ∈ roots,Few q.set) (st0:S):DI x roots s step st0 [] roots (s.length+1) st0 :=
 ⟨by simp,fun _ h=>(by cases h),by simp,hq,by simp,rfl,rfl⟩
theorem DI.lt (h:DI x roots s step st0 before needs n st):before.length≤s.length:=by
 have:=nodup_sub_len (m:=s.map (·.path)) h.nd fun p hp=>by
  obtain ⟨y,hy,e⟩:=List.mem_map.1 hp;exact List.mem_map.2 ⟨y,h.sub y hy,e⟩
 simpa using this
theorem DI.pos (h:DI x roots s step st0 before needs n st):∃ m,n=m+1:=by
 have:=h.lt
 have:=h.fuel
 exact ⟨n - 1,by omega⟩
theorem DI.stop {m:Nat} (h:DI x roots s step st0 before needs (m+1) st) (hp:nextP needs before=none):(visits x roots s).2=true∧(visits x roots s).1.foldl step st0=st:=by
 have h1:=h.ok;have h2:=h.fold;unfold decideP at h1 h2;rw [hp] at h1 h2;exact ⟨h1,h2⟩
theorem DI.lost {m:Nat} (h:DI x roots s step st0 before needs (m+1) st) {p:ByteArray} (hp:nextP needs before=some p) (hf:findSl s p=none):(visits x roots s).2=false∧(visits x roots s).1.foldl step st0=st:=by
 have h1:=h.ok;have h2:=h.fold;unfold decideP at h1 h2;rw [hp] at h1 h2;simp only [hf] at h1 h2;exact ⟨h1,h2⟩
theorem DI.gone {m:Nat} (h:DI x roots s step st0 before needs (m+1) st) {p:ByteArray} {y:Sl} (hp:nextP needs before=some p) (hf:findSl s p=some y) (hr:findRl x y=none):(visits x roots s).2=false∧(visits x roots s).1.foldl step st0=st:=by
 have h1:=h.ok;have h2:=h.fold;unfold decideP at h1 h2;rw [hp] at h1 h2;simp only [hf,hr] at h1 h2;exact ⟨h1,h2⟩
theorem DI.next {m:Nat} (h:DI x roots s step st0 before needs (m+1) st) {p:ByteArray} {y:Sl} {r:Rl} (hp:nextP needs before=some p) (hf:findSl s p=some y) (hr:findRl x y=some r) (hl:r.reqs.length≤16) (hq:∀ q ∈ r.reqs,Few q.set) :
  DI x roots s step st0 (before++[y]) (needs++r.reqs) m (step st ⟨before,needs,r⟩):=by
 have h1:=h.ok;have h2:=h.fold;unfold decideP at h1 h2;rw [hp] at h1 h2;simp only [hf,hr] at h1 h2;obtain ⟨g1,g2⟩:=nextP_some hp;have hy:=findSl_mem hf;have hyp:=findSl_path hf;refine ⟨?_,fun z hz=>?_,?_,fun q hq'=>?_,?_,h1,h2⟩
 ·rw [List.map_append,List.nodup_append];refine ⟨h.nd,by simp,fun a ha b hb=>?_⟩;have hb:b=y.path:=by simpa using hb
  intro e;subst e
  have:=hasPath_mem.2 ha
  rw [hb,hyp,g1] at this; cases this
 ·rcases List.mem_append.1 hz with hz | hz
  ·exact h.sub z hz
  ·rw [List.mem_singleton.1 hz]; exact hy
 ·have:=h.fuel; rw [List.length_append,List.length_singleton]; omega
 ·rcases List.mem_append.1 hq' with hq' | hq'
  ·exact h.few q hq'
  ·exact hq q hq'
 ·have:=h.len; rw [List.length_append,List.length_append,List.length_singleton]; omega
end
theorem idx_find1 (s:List Sl) (p:ByteArray):(idx (fun y:Sl=>decide (y.path=p)) s 0=-1∧findSl s p=none)∨∃ i y,idx (fun y:Sl=>decide (y.path=p)) s 0=(i:Nat)∧s[i]?=some y∧findSl s p=some y:=by
 rcases idx_find (p:=fun y:Sl=>decide (y.path=p)) s 0 with h | ⟨i,y,h1,h2,h3⟩
 ·exact .inl h
 ·exact .inr ⟨i,y,by omega,h2,h3⟩
abbrev pl42:Pol:=⟨[12],[(8,4)],[],[(49,[9])],[],[],[],[],[],[],[3,8,9,11,12,14,15,17,18,20,21]⟩
theorem c42c (x:List Rl) (ifs:List (List AV)) (roots:List Rq) (d:List (List Tm)) (s:List Sl)  (st0:Bool × List Sk) (h84:H84 x ifs) (h0:checkIx x=0) (hx:∀ r ∈ x,FewR r) (hrl:roots.length≤1000) (hrq:∀ q ∈ roots,Few q.set) (hs:s.length≤500) (hd:d.length≤65536) (ht:∀ t ∈ d,FewT t) :
  ACall Tryz.prog 84 [.cptr (encCk x (.slice .none ifs) roots d),sl encSl s,.clo 85 [.cptr [.cptr (encCk x (.slice .none ifs) roots d)],.ref 1000 0,.ref 1001 0]] (heapOf (sH st0) hfree) fun r h'=>r=vb (visits x roots s).2∧h'=heapOf (sH ((visits x roots s).1.foldl (skipStep x d) st0)) hfree:=by
 have hxr:=(ix_few h0).2;have hrf:Few roots:=by unfold Few; omega
 refine acall_sub (cxe pl42) [(1000,1000),(1001,1001)] rfl tab_ok hm rfl Tryz.func84 (by kernel_rfl) rfl (Nz rfl) (by kernel_rfl) rfl ?_;refine Xi (.gen [] 1) (Yi rfl ((c76t roots hrf).imp ?_));intro v g q;have q1:=q.1;have q2:=q.2;subst q1;subst q2
 clear q
 refine Xi {p:List Sl × List Rq × Nat × Bool × List Sk // DI x roots s (skipStep x d) st0 p.1 p.2.1 p.2.2.1 p.2.2.2} (Xi (fun p=>⟨[(0,.cptr (encCk x (.slice .none ifs) roots d)),(1,sl encSl s),(2,.clo 85 [.cptr [.cptr (encCk x (.slice .none ifs) roots d)],.ref 1000 0,.ref 1001 0]),(7,.slice (.id 12100 2) (p.1.2.1.map encRq)),(8,.slice (.id 8 4) (p.1.1.map encSl))],[(8,.tok 4 (p.1.1.map encSl).length),(12100,.tok 2 (p.1.2.1.map encRq).length),(1000,.cells [sl encSk p.1.2.2.2.2]),(1001,.cells [vb p.1.2.2.2.1])],hfree⟩) (Xi (fun p=>p.1.2.2.1) (Yi (Xi ⟨([],roots,s.length+1,st0),DI.start hrq st0⟩ ?_) ?_)))
 ·exact ⟨Z5,Z4,Fh,ext_dec (by kernel_rfl)⟩
 intro ⟨⟨before,needs,n,st⟩,inv⟩;have inv:DI x roots s (skipStep x d) st0 before needs n st:=inv;refine Exists.elim inv.pos (fun m hm'=>?_);have inv:DI x roots s (skipStep x d) st0 before needs (m+1) st:=hm'▸inv;have hbl:=inv.lt;have hnl:=inv.len;have hnf:Few needs:=by unfold Few; omega
 have hbf:Few before:=by unfold Few; omega
 refine Xi ⟨[(0,.cptr (encCk x (.slice .none ifs) roots d)),(1,sl encSl s),(2,.clo 85 [.cptr [.cptr (encCk x (.slice .none ifs) roots d)],.ref 1000 0,.ref 1001 0]),(7,.slice (.id 12100 2) (needs.map encRq)),(8,.slice (.id 8 4) (before.map encSl))],[(8,.tok 4 (before.map encSl).length),(12100,.tok 2 (needs.map encRq).length),(1000,.cells [sl encSk st.2]),(1001,.cells [vb st.1])],hfree⟩ (Yi ⟨Z5,Z4,Fh,ext_dec (by kernel_rfl)⟩ ?_)
 refine Yi (Nz rfl) ?_;refine Xi {p:Nat × Option ByteArray // p.1≤needs.length∧p.2=nextGo before (needs.take p.1) none} (Xi (fun p=>⟨[(0,.cptr (encCk x (.slice .none ifs) roots d)),(1,sl encSl s),(2,.clo 85 [.cptr [.cptr (encCk x (.slice .none ifs) roots d)],.ref 1000 0,.ref 1001 0]),(7,.slice (.id 12100 2) (needs.map encRq)),(8,.slice (.id 8 4) (before.map encSl)),(9,.ref 9 0),(10,vb p.1.2.isSome),(22,.slice (.id 12100 2) (needs.map encRq)),(23,vi (needs.map encRq).length),(24,vi p.1.1)],[(8,.tok 4 (before.map encSl).length),(12100,.tok 2 (needs.map encRq).length),(1000,.cells [sl encSk st.2]),(1001,.cells [vb st.1]),(9,.cells [vs (p.1.2.getD mt)])],hfree⟩) (Xi (fun p=>needs.length - p.1.1) (Yi (Xi ⟨(0,none),Nat.zero_le _,rfl⟩ ?_) ?_)))
 ·exact ⟨Z10,Z5,Fh,ext_dec (by kernel_rfl)⟩
 intro ⟨⟨j,acc⟩,j1,j2⟩;have j1:j≤needs.length:=j1;have j2:acc=nextGo before (needs.take j) none:=j2;refine Yi ?_ ?_
 ·intro h;have h:(j:Int)<(needs.map encRq).length:=h;have h:j<needs.length:=by simpa using h
  have hg:needs[j]?=some needs[j]:=Ge h;have hnx:=nextGo_take before needs none h;rw [← j2] at hnx;refine Xi (encRq needs[j]) (Yi (Yi (Nn j) (by simp [hg])) (Yi rfl ?_));refine Yi (Nz rfl) (Yi (Nz rfl) ?_);refine Xi ⟨[(0,.cptr (encCk x (.slice .none ifs) roots d)),(1,sl encSl s),(2,.clo 85 [.cptr [.cptr (encCk x (.slice .none ifs) roots d)],.ref 1000 0,.ref 1001 0]),(7,.slice (.id 12100 2) (needs.map encRq)),(8,.slice (.id 8 4) (before.map encSl)),(9,.ref 9 0),(10,vb acc.isSome),(12,.ref 12 0),(22,.slice (.id 12100 2) (needs.map encRq)),(23,vi (needs.map encRq).length),(24,vi j)],[(8,.tok 4 (before.map encSl).length),(12100,.tok 2 (needs.map encRq).length),(1000,.cells [sl encSk st.2]),(1001,.cells [vb st.1]),(9,.cells [vs (acc.getD mt)]),(12,.ro (encRq needs[j]))],hfree⟩ (Yi ⟨Z11,Z6,Fh,ext_dec (by kernel_rfl)⟩ ?_)
  have hc51:PC 145 [sl encSl before,.clo 146 [.cptr (encRq needs[j])]] (vb (hasPath before needs[j].path)):=c51 (fF:=146) (caps:=[.cptr (encRq needs[j])]) (fun c hc=>by
   obtain rfl:=List.mem_singleton.1 hc;intro h; rfl) before (fun y=>decide (y.path=needs[j].path)) (fun y _=>c77 y needs[j]) hbf
  refine Or.elim (Bt (hasPath before needs[j].path)) (fun hd=>?_) (fun hd=>?_)
  ·rw [hd] at hc51;refine Xi .pure (Xi _ (Yi (hc51) ?_));have hst:nextStep before acc needs[j]=acc:=by unfold nextStep; rw [if_pos hd]
   refine Xi ⟨[(0,.cptr (encCk x (.slice .none ifs) roots d)),(1,sl encSl s),(2,.clo 85 [.cptr [.cptr (encCk x (.slice .none ifs) roots d)],.ref 1000 0,.ref 1001 0]),(7,.slice (.id 12100 2) (needs.map encRq)),(8,.slice (.id 8 4) (before.map encSl)),(9,.ref 9 0),(10,vb acc.isSome),(13,vb true),(22,.slice (.id 12100 2) (needs.map encRq)),(23,vi (needs.map encRq).length),(24,vi j)],[(8,.tok 4 (before.map encSl).length),(12100,.tok 2 (needs.map encRq).length),(1000,.cells [sl encSk st.2]),(1001,.cells [vb st.1]),(9,.cells [vs (acc.getD mt)])],hfree⟩ (Yi ⟨Z11,Z5,Fh,ext_dec (by kernel_rfl)⟩ ?_)
   refine Xi ⟨[(0,.cptr (encCk x (.slice .none ifs) roots d)),(1,sl encSl s),(2,.clo 85 [.cptr [.cptr (encCk x (.slice .none ifs) roots d)],.ref 1000 0,.ref 1001 0]),(7,.slice (.id 12100 2) (needs.map encRq)),(8,.slice (.id 8 4) (before.map encSl)),(9,.ref 9 0),(10,vb (nextStep before acc needs[j]).isSome),(22,.slice (.id 12100 2) (needs.map encRq)),(23,vi (needs.map encRq).length),(24,vi j)],[(8,.tok 4 (before.map encSl).length),(12100,.tok 2 (needs.map encRq).length),(1000,.cells [sl encSk st.2]),(1001,.cells [vb st.1]),(9,.cells [vs ((nextStep before acc needs[j]).getD mt)])],hfree⟩ (Yi ⟨⟨Zr,Zr,Zr,Zr,Zr,Zr,⟨congrArg vb (congrArg Option.isSome hst.symm),rfl⟩,Zr,Zr,Zr,Tv⟩,⟨Zr,Zr,Zr,Zr,⟨congrArg (fun a=>HO.cells [vs (Option.getD a mt)]) hst.symm,rfl⟩,Tv⟩,Fh,ext_dec (by kernel_rfl)⟩ ?_)
   refine Yi (Ii j (by omega)) ?_;refine Xi ⟨(j+1,nextStep before acc needs[j]),by show j+1≤_; omega,hnx.symm⟩ ?_;exact ⟨Dl needs.length j (by omega),Z10,Z5,Fh,ext_dec (by kernel_rfl)⟩
  rw [hd] at hc51;refine Xi .pure (Xi _ (Yi (hc51) ?_));refine Or.elim (show acc=none∨∃ p,acc=some p by cases acc with | none=>exact .inl rfl | some p=>exact .inr ⟨p,rfl⟩) (fun ha=>?_) (fun ha=>?_)
  ·have hst:nextStep before acc needs[j]=some needs[j].path:=by unfold nextStep; rw [if_neg (by rw [hd]; decide),ha]
   refine Xi ⟨[(0,.cptr (encCk x (.slice .none ifs) roots d)),(1,sl encSl s),(2,.clo 85 [.cptr [.cptr (encCk x (.slice .none ifs) roots d)],.ref 1000 0,.ref 1001 0]),(7,.slice (.id 12100 2) (needs.map encRq)),(8,.slice (.id 8 4) (before.map encSl)),(9,.ref 9 0),(10,vb false),(12,.ref 12 0),(13,vb false),(22,.slice (.id 12100 2) (needs.map encRq)),(23,vi (needs.map encRq).length),(24,vi j)],[(8,.tok 4 (before.map encSl).length),(12100,.tok 2 (needs.map encRq).length),(1000,.cells [sl encSk st.2]),(1001,.cells [vb st.1]),(9,.cells [vs mt]),(12,.ro (encRq needs[j]))],hfree⟩ (Yi ⟨⟨Zr,Zr,Zr,Zr,Zr,Zr,⟨by show vb acc.isSome=vb false; rw [ha]; rfl,rfl⟩,Zr,Zr,Zr,Zr,Zr,Tv⟩,⟨Zr,Zr,Zr,Zr,⟨by show HO.cells [vs (acc.getD mt)]=HO.cells [vs mt]; rw [ha]; rfl,rfl⟩,Zr,Tv⟩,Fh,ext_dec (by kernel_rfl)⟩ ?_)
   refine Yi (Nz rfl) ?_;refine Xi ⟨[(0,.cptr (encCk x (.slice .none ifs) roots d)),(1,sl encSl s),(2,.clo 85 [.cptr [.cptr (encCk x (.slice .none ifs) roots d)],.ref 1000 0,.ref 1001 0]),(7,.slice (.id 12100 2) (needs.map encRq)),(8,.slice (.id 8 4) (before.map encSl)),(9,.ref 9 0),(10,vb (nextStep before acc needs[j]).isSome),(22,.slice (.id 12100 2) (needs.map encRq)),(23,vi (needs.map encRq).length),(24,vi j)],[(8,.tok 4 (before.map encSl).length),(12100,.tok 2 (needs.map encRq).length),(1000,.cells [sl encSk st.2]),(1001,.cells [vb st.1]),(9,.cells [vs ((nextStep before acc needs[j]).getD mt)])],hfree⟩ (Yi ⟨⟨Zr,Zr,Zr,Zr,Zr,Zr,⟨by show vb true=_; rw [hst]; rfl,rfl⟩,Zr,Zr,Zr,Tv⟩,⟨Zr,Zr,Zr,Zr,⟨by show HO.cells [vs needs[j].path]=_; rw [hst]; rfl,rfl⟩,Tv⟩,Fh,ext_dec (by kernel_rfl)⟩ ?_)
   refine Yi (Ii j (by omega)) ?_;refine Xi ⟨(j+1,nextStep before acc needs[j]),by show j+1≤_; omega,hnx.symm⟩ ?_;exact ⟨Dl needs.length j (by omega),Z10,Z5,Fh,ext_dec (by kernel_rfl)⟩
  refine Exists.elim ha (fun p ha=>?_);refine Xi ⟨[(0,.cptr (encCk x (.slice .none ifs) roots d)),(1,sl encSl s),(2,.clo 85 [.cptr [.cptr (encCk x (.slice .none ifs) roots d)],.ref 1000 0,.ref 1001 0]),(7,.slice (.id 12100 2) (needs.map encRq)),(8,.slice (.id 8 4) (before.map encSl)),(9,.ref 9 0),(10,vb true),(12,.ref 12 0),(13,vb false),(22,.slice (.id 12100 2) (needs.map encRq)),(23,vi (needs.map encRq).length),(24,vi j)],[(8,.tok 4 (before.map encSl).length),(12100,.tok 2 (needs.map encRq).length),(1000,.cells [sl encSk st.2]),(1001,.cells [vb st.1]),(9,.cells [vs p]),(12,.ro (encRq needs[j]))],hfree⟩ (Yi ⟨⟨Zr,Zr,Zr,Zr,Zr,Zr,⟨by show vb acc.isSome=vb true; rw [ha]; rfl,rfl⟩,Zr,Zr,Zr,Zr,Zr,Tv⟩,⟨Zr,Zr,Zr,Zr,⟨by show HO.cells [vs (acc.getD mt)]=HO.cells [vs p]; rw [ha]; rfl,rfl⟩,Zr,Tv⟩,Fh,ext_dec (by kernel_rfl)⟩ ?_)
  refine Yi ?_ ?_
  ·intro hb;have hb:Op.bytesLess needs[j].path.toList p.toList=true:=hb;rw [← blt_eq] at hb;have hst:nextStep before acc needs[j]=some needs[j].path:=by unfold nextStep; rw [if_neg (by rw [hd]; decide),ha]; show (if _ then _ else _)=_; rw [if_pos hb]
   refine Yi (Nz rfl) ?_;refine Xi ⟨[(0,.cptr (encCk x (.slice .none ifs) roots d)),(1,sl encSl s),(2,.clo 85 [.cptr [.cptr (encCk x (.slice .none ifs) roots d)],.ref 1000 0,.ref 1001 0]),(7,.slice (.id 12100 2) (needs.map encRq)),(8,.slice (.id 8 4) (before.map encSl)),(9,.ref 9 0),(10,vb (nextStep before acc needs[j]).isSome),(22,.slice (.id 12100 2) (needs.map encRq)),(23,vi (needs.map encRq).length),(24,vi j)],[(8,.tok 4 (before.map encSl).length),(12100,.tok 2 (needs.map encRq).length),(1000,.cells [sl encSk st.2]),(1001,.cells [vb st.1]),(9,.cells [vs ((nextStep before acc needs[j]).getD mt)])],hfree⟩ (Yi ⟨⟨Zr,Zr,Zr,Zr,Zr,Zr,⟨by show vb true=_; rw [hst]; rfl,rfl⟩,Zr,Zr,Zr,Tv⟩,⟨Zr,Zr,Zr,Zr,⟨by show HO.cells [vs needs[j].path]=_; rw [hst]; rfl,rfl⟩,Tv⟩,Fh,ext_dec (by kernel_rfl)⟩ ?_)
   refine Yi (Ii j (by omega)) ?_;refine Xi ⟨(j+1,nextStep before acc needs[j]),by show j+1≤_; omega,hnx.symm⟩ ?_;exact ⟨Dl needs.length j (by omega),Z10,Z5,Fh,ext_dec (by kernel_rfl)⟩
  ·intro hb;have hb:¬ Op.bytesLess needs[j].path.toList p.toList=true:=hb;rw [← blt_eq] at hb;have hst:nextStep before acc needs[j]=some p:=by unfold nextStep; rw [if_neg (by rw [hd]; decide),ha]; show (if _ then _ else _)=_; rw [if_neg hb]
   refine Xi ⟨[(0,.cptr (encCk x (.slice .none ifs) roots d)),(1,sl encSl s),(2,.clo 85 [.cptr [.cptr (encCk x (.slice .none ifs) roots d)],.ref 1000 0,.ref 1001 0]),(7,.slice (.id 12100 2) (needs.map encRq)),(8,.slice (.id 8 4) (before.map encSl)),(9,.ref 9 0),(10,vb (nextStep before acc needs[j]).isSome),(22,.slice (.id 12100 2) (needs.map encRq)),(23,vi (needs.map encRq).length),(24,vi j)],[(8,.tok 4 (before.map encSl).length),(12100,.tok 2 (needs.map encRq).length),(1000,.cells [sl encSk st.2]),(1001,.cells [vb st.1]),(9,.cells [vs ((nextStep before acc needs[j]).getD mt)])],hfree⟩ (Yi ⟨⟨Zr,Zr,Zr,Zr,Zr,Zr,⟨by show vb true=_; rw [hst]; rfl,rfl⟩,Zr,Zr,Zr,Tv⟩,⟨Zr,Zr,Zr,Zr,⟨by show HO.cells [vs p]=_; rw [hst]; rfl,rfl⟩,Tv⟩,Fh,ext_dec (by kernel_rfl)⟩ ?_)
   refine Yi (Ii j (by omega)) ?_;refine Xi ⟨(j+1,nextStep before acc needs[j]),by show j+1≤_; omega,hnx.symm⟩ ?_;exact ⟨Dl needs.length j (by omega),Z10,Z5,Fh,ext_dec (by kernel_rfl)⟩
 intro h;have h:¬ (j:Int)<(needs.map encRq).length:=h;have h:¬ j<needs.length:=by simpa using h
 have hac:nextP needs before=acc:=by rw [j2,List.take_of_length_le (by omega)]; rfl
 refine Or.elim (show acc=none∨∃ p,acc=some p by cases acc with | none=>exact .inl rfl | some p=>exact .inr ⟨p,rfl⟩) (fun ha=>?_) (fun ha=>?_)
 ·have hend:=inv.stop (hac.trans ha);refine Xi ⟨[(10,vb false)],[(1000,.cells [sl encSk st.2]),(1001,.cells [vb st.1])],hfree⟩ (Yi ⟨⟨⟨by show vb acc.isSome=vb false; rw [ha]; rfl,rfl⟩,Tv⟩,Z2,Fh,ext_dec (by kernel_rfl)⟩ ?_)
  exact Xi _ (Yi (.refl _) (Yi (congrArg vb hend.1.symm) (congrArg (fun a=>heapOf (sH a) hfree) hend.2.symm)))
 refine Exists.elim ha (fun p ha=>?_);have hac:nextP needs before=some p:=hac.trans ha;refine Xi ⟨[(0,.cptr (encCk x (.slice .none ifs) roots d)),(1,sl encSl s),(2,.clo 85 [.cptr [.cptr (encCk x (.slice .none ifs) roots d)],.ref 1000 0,.ref 1001 0]),(7,.slice (.id 12100 2) (needs.map encRq)),(8,.slice (.id 8 4) (before.map encSl)),(9,.ref 9 0),(10,vb true)],[(8,.tok 4 (before.map encSl).length),(12100,.tok 2 (needs.map encRq).length),(1000,.cells [sl encSk st.2]),(1001,.cells [vb st.1]),(9,.cells [vs p])],hfree⟩ (Yi ⟨⟨Zr,Zr,Zr,Zr,Zr,Zr,⟨by show vb acc.isSome=vb true; rw [ha]; rfl,rfl⟩,Tv⟩,⟨Zr,Zr,Zr,Zr,⟨by show HO.cells [vs (acc.getD mt)]=HO.cells [vs p]; rw [ha]; rfl,rfl⟩,Tv⟩,Fh,ext_dec (by kernel_rfl)⟩ ?_)
 refine Xi ⟨[(0,.cptr (encCk x (.slice .none ifs) roots d)),(1,sl encSl s),(2,.clo 85 [.cptr [.cptr (encCk x (.slice .none ifs) roots d)],.ref 1000 0,.ref 1001 0]),(7,.slice (.id 12100 2) (needs.map encRq)),(8,.slice (.id 8 4) (before.map encSl)),(9,.ref 9 0)],[(8,.tok 4 (before.map encSl).length),(12100,.tok 2 (needs.map encRq).length),(1000,.cells [sl encSk st.2]),(1001,.cells [vb st.1]),(9,.cells [vs p])],hfree⟩ (Yi ⟨Z6,Z5,Fh,ext_dec (by kernel_rfl)⟩ ?_)
 have hc78:=c78 (fF:=147) (caps:=[.cptr [vs p]]) (fun c hc=>by
  obtain rfl:=List.mem_singleton.1 hc;intro h; rfl) s (fun y=>decide (y.path=p)) (fun y _=>c79 y p) (by omega)
 refine Or.elim (idx_find1 s p) (fun hi=>?_) (fun hi=>?_)
 ·rw [hi.1] at hc78;have hend:=inv.lost hac hi.2;refine Xi .pure (Xi _ (Yi (hc78) ?_));refine Xi ⟨[(14,vi (-1))],[(1000,.cells [sl encSk st.2]),(1001,.cells [vb st.1])],hfree⟩ (Yi ⟨Z1,Z2,Fh,ext_dec (by kernel_rfl)⟩ ?_)
  refine Yi ?_ ?_
  ·intro _;exact Xi _ (Yi (.refl _) (Yi (congrArg vb hend.1.symm) (congrArg (fun a=>heapOf (sH a) hfree) hend.2.symm)))
  ·intro hc;exact absurd (show ((-1:Int)<0) by decide) hc
 refine Exists.elim hi (fun i hi=>?_);refine Exists.elim hi (fun y hi=>?_);have hi2:=hi.2.1;have hi3:=hi.2.2;rw [hi.1] at hc78;refine Xi .pure (Xi _ (Yi (hc78) ?_));refine Xi ⟨[(0,.cptr (encCk x (.slice .none ifs) roots d)),(1,sl encSl s),(2,.clo 85 [.cptr [.cptr (encCk x (.slice .none ifs) roots d)],.ref 1000 0,.ref 1001 0]),(7,.slice (.id 12100 2) (needs.map encRq)),(8,.slice (.id 8 4) (before.map encSl)),(14,vi i)],[(8,.tok 4 (before.map encSl).length),(12100,.tok 2 (needs.map encRq).length),(1000,.cells [sl encSk st.2]),(1001,.cells [vb st.1])],hfree⟩ (Yi ⟨Z6,Z4,Fh,ext_dec (by kernel_rfl)⟩ ?_)
 refine Yi ?_ ?_
 ·intro hc;exact absurd (show ((i:Int)<0) from hc) (by omega)
 intro _;refine Xi ⟨[(0,.cptr (encCk x (.slice .none ifs) roots d)),(1,sl encSl s),(2,.clo 85 [.cptr [.cptr (encCk x (.slice .none ifs) roots d)],.ref 1000 0,.ref 1001 0]),(7,.slice (.id 12100 2) (needs.map encRq)),(8,.slice (.id 8 4) (before.map encSl)),(14,vi i)],[(8,.tok 4 (before.map encSl).length),(12100,.tok 2 (needs.map encRq).length),(1000,.cells [sl encSk st.2]),(1001,.cells [vb st.1])],hfree⟩ (Yi ⟨Z6,Z4,Fh,ext_dec (by kernel_rfl)⟩ ?_)
 have hgy:(s.map encSl)[(i:Int).toNat]?=some (encSl y):=by rw [Int.toNat_natCast,List.getElem?_map,hi2]; rfl
 have hc53:PC 148 [ixV x ifs,vs y.path,.agg (encVer y.ver)] (optRl (findRl x y)):=c53 x ifs y.path y.ver h84 hx;refine Yi (Nz rfl) ?_;refine Xi (encSl y) (Yi (Yi (Nn i) hgy) (Yi rfl ?_));refine Xi (encSl y) (Yi (Yi (Nn i) hgy) (Yi rfl ?_));refine Yi (Nz rfl) ?_;refine Or.elim (show findRl x y=none∨∃ r,findRl x y=some r by cases findRl x y with | none=>exact .inl rfl | some r=>exact .inr ⟨r,rfl⟩) (fun hr=>?_) (fun hr=>?_)
 ·rw [hr] at hc53;have hend:=inv.gone hac hi3 hr;refine Xi _ (Yi (hc53) ?_);refine Yi (Nz rfl) ?_;refine Yi (by kernel_rfl) ?_;refine Xi ⟨[(16,vb false)],[(1000,.cells [sl encSk st.2]),(1001,.cells [vb st.1])],hfree⟩ (Yi ⟨Z1,Z2,Fh,ext_dec (by kernel_rfl)⟩ ?_)
  exact Xi _ (Yi (.refl _) (Yi (congrArg vb hend.1.symm) (congrArg (fun a=>heapOf (sH a) hfree) hend.2.symm)))
 refine Exists.elim hr (fun r hr=>?_);rw [hr] at hc53;refine Xi _ (Yi (hc53) ?_);refine Yi (Nz rfl) ?_;refine Yi (by kernel_rfl) ?_;have hrx:r ∈ x:=(findRl_ok hr).2.1;have hinv:=inv.next hac hi3 hr (hxr r hrx) (fun q hq=>((hx r hrx).2 q hq).1)
 refine Xi ⟨[(0,.cptr (encCk x (.slice .none ifs) roots d)),(1,sl encSl s),(2,.clo 85 [.cptr [.cptr (encCk x (.slice .none ifs) roots d)],.ref 1000 0,.ref 1001 0]),(7,.slice (.id 12100 2) (needs.map encRq)),(8,.slice (.id 8 4) (before.map encSl)),(14,vi i),(15,.ref 15 0),(16,vb true)],[(8,.tok 4 (before.map encSl).length),(12100,.tok 2 (needs.map encRq).length),(1000,.cells [sl encSk st.2]),(1001,.cells [vb st.1]),(15,.cells (encRl r))],hfree⟩ (Yi ⟨Z8,Z5,Fh,ext_dec (by kernel_rfl)⟩ ?_)
 refine Xi ⟨[(0,.cptr (encCk x (.slice .none ifs) roots d)),(1,sl encSl s),(2,.clo 85 [.cptr [.cptr (encCk x (.slice .none ifs) roots d)],.ref 1000 0,.ref 1001 0]),(7,.slice (.id 12100 2) (needs.map encRq)),(8,.slice (.id 8 4) (before.map encSl)),(14,vi i),(15,.ref 15 0)],[(8,.tok 4 (before.map encSl).length),(12100,.tok 2 (needs.map encRq).length),(1000,.cells [sl encSk st.2]),(1001,.cells [vb st.1]),(15,.cells (encRl r))],hfree⟩ (Yi ⟨Z7,Z5,Fh,ext_dec (by kernel_rfl)⟩ ?_)
 refine Yi (Nz rfl) ?_;have hvis:=c46 x (.slice .none ifs) roots d st before needs r (ix_few h0).1 hd ht (by omega) hnf inv.few;refine Xi (.gen [(1000,1000),(1001,1001)] 0) (Yi rfl (hvis.imp ?_));intro v g q;have q1:=q.1;have q2:=q.2;subst q1;subst q2
 clear q
 refine Xi ⟨[(0,.cptr (encCk x (.slice .none ifs) roots d)),(1,sl encSl s),(2,.clo 85 [.cptr [.cptr (encCk x (.slice .none ifs) roots d)],.ref 1000 0,.ref 1001 0]),(7,.slice (.id 12100 2) (needs.map encRq)),(8,.slice (.id 8 4) (before.map encSl)),(14,vi i),(15,.ref 15 0)],[(8,.tok 4 (before.map encSl).length),(12100,.tok 2 (needs.map encRq).length),(1000,.cells [sl encSk (skipStep x d st ⟨before,needs,r⟩).2]),(1001,.cells [vb (skipStep x d st ⟨before,needs,r⟩).1]),(15,.cells (encRl r))],hfree⟩ (Yi ⟨Z7,Z5,Fh,ext_dec (by kernel_rfl)⟩ ?_)
 refine Xi (encSl y) (Yi (Yi (Nn i) hgy) (Yi rfl ?_));refine Yi (Nz rfl) ?_;have bulk:AllLen 4 [encSl y]∧(before.map encSl).length=(before.map encSl).length∧((before.map encSl).length+[encSl y].length)*40≤140737488355328∧(before.map encSl).length+[encSl y].length≤9223372036854775807 :=
  ⟨⟨rfl,trivial⟩,rfl,by rw [Lm,List.length_singleton]; omega,by rw [Lm,List.length_singleton]; omega⟩
 refine Yi bulk ?_;have hxl:=hxr r hrx;have bulk2:AllLen 2 (r.reqs.map encRq)∧(needs.map encRq).length=(needs.map encRq).length∧((needs.map encRq).length+(r.reqs.map encRq).length)*40≤140737488355328∧(needs.map encRq).length+(r.reqs.map encRq).length≤9223372036854775807 :=
  ⟨allLen_map (enc:=encRq) (n:=2) (fun _=>rfl) r.reqs,rfl,by rw [Lm,Lm]; omega,by rw [Lm,Lm]; omega⟩
 refine Yi bulk2 ?_;have e7:AV.slice (.id 12100 2) (needs.map encRq++r.reqs.map encRq)=.slice (.id 12100 2) ((needs++r.reqs).map encRq):=by rw [List.map_append]
 have e8:AV.slice (.id 8 4) (before.map encSl++[encSl y])=.slice (.id 8 4) ((before++[y]).map encSl):=by rw [List.map_append]; rfl
 have o7:HO.tok 2 ((needs.map encRq).length+(r.reqs.map encRq).length)=.tok 2 ((needs++r.reqs).map encRq).length:=by rw [List.map_append,List.length_append]
 have o8:HO.tok 4 ((before.map encSl).length+[encSl y].length)=.tok 4 ((before++[y]).map encSl).length:=by rw [List.map_append,List.length_append]; rfl
 refine Xi ⟨(before++[y],needs++r.reqs,m,(skipStep x d) st ⟨before,needs,r⟩),hinv⟩ ?_;exact ⟨by show m<n; omega,⟨Zr,Zr,Zr,⟨e7,rfl⟩,⟨e8,rfl⟩,Tv⟩,⟨⟨o8,rfl⟩,⟨o7,rfl⟩,Zr,Zr,Tv⟩,Fh,ext_dec (by kernel_rfl)⟩
end Go.Eng

namespace Go.Eng
open Go.Proofs
def smallQ (q:Rq):Bool:=decide (q.path.size≤100)&&decide (q.set.length≤8)
def smallQs (l:List Rq):Bool:=l.all smallQ&&decide (l.length≤20)
theorem c35 (l:List Rq) (hl:Few l):PC 57 [sl encRq l] (vb (smallQs l)):=by
 unfold Few at hl;refine Ps pl0 Tryz.func57 rfl (Nz rfl) ?_;refine Xi {i:Nat // i≤l.length∧∀ j (hj:j<l.length),j<i→smallQ l[j]=true} (Xi (fun i=>⟨[(0,sl encRq l),(3,vi i.1)],[],hfree⟩) (Xi (fun i=>l.length - i.1) (Yi (Xi ⟨0,Nat.zero_le _,fun j _ h=>by omega⟩ ?_) ?_)))
 ·exact ⟨Z2,Tv,Fh,Tv⟩
 intro ⟨i,h1,h2⟩;refine Yi ?_ ?_
 ·intro h;have h:(i:Int)<(l.map encRq).length:=h;have h:i<l.length:=by simpa using h
  have hg:l[i]?=some l[i]:=Ge h;have no:smallQ l[i]=false→false=smallQs l:=fun e=>by
   unfold smallQs
   have:l.all smallQ=false:=by
    rw [Bool.eq_false_iff]; intro ha
    have:=List.all_eq_true.1 ha _ (List.getElem_mem h)
    rw [e] at this; cases this
   rw [this]; rfl
  refine Xi (encRq l[i]) (Yi (Yi (Nn i) (by simp [hg])) (Yi rfl ?_));refine Yi ?_ ?_
  ·intro h3;have h3:(100:Int)<((l[i].path.size:Nat):Int):=h3;exact .of_eq (congrArg vb (no (by unfold smallQ; rw [decide_eq_false (by omega)]; rfl)))
  intro h3;have h3:¬ (100:Int)<((l[i].path.size:Nat):Int):=h3;refine Xi (encRq l[i]) (Yi (Yi (Nn i) (by simp [hg])) (Yi rfl ?_));refine Yi ?_ ?_
  ·intro h4;have h4:(8:Int)<((l[i].set.map encSpan).length:Int):=h4;rw [Lm] at h4;exact .of_eq (congrArg vb (no (by unfold smallQ; rw [decide_eq_false (by omega:¬ l[i].set.length≤8),Bool.and_false])))
  intro h4;have h4:¬ (8:Int)<((l[i].set.map encSpan).length:Int):=h4;have h5:l[i].set.length≤8:=by rw [Lm] at h4; omega
  refine Yi (Ii i (by omega)) ?_;refine Xi ⟨i+1,by omega,fun j hj hji=>?_⟩ ?_
  ·rcases Nat.lt_or_ge j i with z | z
   ·exact h2 j hj z
   ·have:j=i:=by omega
    subst this; unfold smallQ; rw [decide_eq_true (by omega),decide_eq_true h5]; rfl
  ·exact ⟨Dl l.length i (by omega),Z2,Tv,Fh,Tv⟩
 ·intro h;have h:¬ (i:Int)<(l.map encRq).length:=h;have h:¬ i<l.length:=by simpa using h
  have ha:l.all smallQ=true:=List.all_eq_true.2 fun q hq=>by
   obtain ⟨j,hj,rfl⟩:=List.getElem_of_mem hq;exact h2 j hj (by omega)
  refine Yi ?_ ?_
  ·intro h3;have h3:((l.map encRq).length:Int)≤20:=h3;rw [Lm] at h3;exact .of_eq (congrArg vb (show true=smallQs l by unfold smallQs; rw [ha,decide_eq_true (by omega)]; rfl))
  ·intro h3;have h3:¬ ((l.map encRq).length:Int)≤20:=h3;rw [Lm] at h3;exact .of_eq (congrArg vb (show false=smallQs l by unfold smallQs; rw [decide_eq_false (by omega),Bool.and_false]))
end Go.Eng

namespace Go.Eng
open Go.Proofs
def smallR (r:Rl):Bool:=decide (r.path.size≤100)&&decide (r.arch.size≤100)&&decide (r.ifc.size≤100)&&decide (r.cert.size≤100)&&smallQs r.reqs
def smallX (x:List Rl) (n:Nat):Bool:=x.all smallR&&decide (x.length≤n)
theorem c34 (x:List Rl) (n:Nat) (hl:Few x) (hr:∀ r ∈ x,Few r.reqs):PC 56 [sl encRl x,vi n] (vb (smallX x n)):=by
 unfold Few at hl;refine Ps pl0 Tryz.func56 rfl (Nz rfl) ?_;refine Xi {i:Nat // i≤x.length∧∀ j (hj:j<x.length),j<i→smallR x[j]=true} (Xi (fun i=>⟨[(0,sl encRl x),(1,vi n),(5,vi i.1)],[],hfree⟩) (Xi (fun i=>x.length - i.1) (Yi (Xi ⟨0,Nat.zero_le _,fun j _ h=>by omega⟩ ?_) ?_)))
 ·exact ⟨Z3,Tv,Fh,Tv⟩
 intro ⟨i,h1,h2⟩;refine Yi ?_ ?_
 ·intro h;have h:(i:Int)<(x.map encRl).length:=h;have h:i<x.length:=by simpa using h
  have hg:x[i]?=some x[i]:=Ge h;have no:smallR x[i]=false→false=smallX x n:=fun e=>by
   unfold smallX
   have:x.all smallR=false:=by
    rw [Bool.eq_false_iff]; intro ha
    have:=List.all_eq_true.1 ha _ (List.getElem_mem h)
    rw [e] at this; cases this
   rw [this]; rfl
  have hc:=c35 x[i].reqs (hr _ (List.getElem_mem h));refine Xi (encRl x[i]) (Yi (Yi (Nn i) (by simp [hg])) (Yi rfl ?_));refine Yi ?_ ?_
  ·intro h3;have h3:(100:Int)<((x[i].path.size:Nat):Int):=h3;exact .of_eq (congrArg vb (no (by unfold smallR; rw [decide_eq_false (by omega:¬ x[i].path.size≤100)]; simp)))
  intro h3;have h3:¬ (100:Int)<((x[i].path.size:Nat):Int):=h3;refine Xi (encRl x[i]) (Yi (Yi (Nn i) (by simp [hg])) (Yi rfl ?_));refine Yi ?_ ?_
  ·intro h4;have h4:(100:Int)<((x[i].arch.size:Nat):Int):=h4;exact .of_eq (congrArg vb (no (by unfold smallR; rw [decide_eq_false (by omega:¬ x[i].arch.size≤100)]; simp)))
  intro h4;have h4:¬ (100:Int)<((x[i].arch.size:Nat):Int):=h4;refine Xi (encRl x[i]) (Yi (Yi (Nn i) (by simp [hg])) (Yi rfl ?_));refine Yi ?_ ?_
  ·intro h5;have h5:(100:Int)<((x[i].ifc.size:Nat):Int):=h5;exact .of_eq (congrArg vb (no (by unfold smallR; rw [decide_eq_false (by omega:¬ x[i].ifc.size≤100)]; simp)))
  intro h5;have h5:¬ (100:Int)<((x[i].ifc.size:Nat):Int):=h5;refine Xi (encRl x[i]) (Yi (Yi (Nn i) (by simp [hg])) (Yi rfl ?_));refine Yi ?_ ?_
  ·intro h6;have h6:(100:Int)<((x[i].cert.size:Nat):Int):=h6;exact .of_eq (congrArg vb (no (by unfold smallR; rw [decide_eq_false (by omega:¬ x[i].cert.size≤100)]; simp)))
  intro h6;have h6:¬ (100:Int)<((x[i].cert.size:Nat):Int):=h6;refine Xi (encRl x[i]) (Yi (Yi (Nn i) (by simp [hg])) (Yi rfl ?_));refine Or.elim (Bt (smallQs x[i].reqs)) (fun e=>?_) (fun e=>?_)
  rotate_left
  ·rw [e] at hc;refine Xi .pure (Xi _ (Yi (hc) ?_));exact .of_eq (congrArg vb (no (by unfold smallR; rw [e,Bool.and_false])))
  rw [e] at hc;refine Xi .pure (Xi _ (Yi (hc) ?_));refine Yi (Ii i (by omega)) ?_;refine Xi ⟨i+1,by omega,fun j hj hji=>?_⟩ ?_
  ·rcases Nat.lt_or_ge j i with z | z
   ·exact h2 j hj z
   ·have:j=i:=by omega
    subst this; unfold smallR;rw [decide_eq_true (by omega:x[j].path.size≤100),decide_eq_true (by omega:x[j].arch.size≤100),decide_eq_true (by omega:x[j].ifc.size≤100),decide_eq_true (by omega:x[j].cert.size≤100),e]; rfl
  ·exact ⟨Dl x.length i (by omega),Z3,Tv,Fh,Tv⟩
 ·intro h;have h:¬ (i:Int)<(x.map encRl).length:=h;have h:¬ i<x.length:=by simpa using h
  have ha:x.all smallR=true:=List.all_eq_true.2 fun q hq=>by
   obtain ⟨j,hj,rfl⟩:=List.getElem_of_mem hq;exact h2 j hj (by omega)
  refine Yi ?_ ?_
  ·intro h3;have h3:((x.map encRl).length:Int)≤n:=h3;rw [Lm] at h3;exact .of_eq (congrArg vb (show true=smallX x n by unfold smallX; rw [ha,decide_eq_true (by omega)]; rfl))
  ·intro h3;have h3:¬ ((x.map encRl).length:Int)≤n:=h3;rw [Lm] at h3;exact .of_eq (congrArg vb (show false=smallX x n by unfold smallX; rw [decide_eq_false (by omega),Bool.and_false]))
theorem c11 (x:List Rl) (ifs:List (List AV)) (roots:List Rq) (hl:Few x) (hr:∀ r ∈ x,Few r.reqs) (hq:Few roots):PC 23 [ixV x ifs,sl encRq roots] (vb (smallX x 16&&smallQs roots)):=by
 have h1:=c34 x 16 hl hr;have h2:=c35 roots hq;cases e:smallX x 16 with
 | true =>
  rw [e] at h1;refine Ps pl0 Tryz.func23 rfl (Nz rfl) ?_;refine Xi .pure (Xi _ (Yi (h1) ?_));refine Xi .pure (Xi _ (Yi (h2) ?_));exact .refl _
 | false =>
  rw [e] at h1;refine Ps pl0 Tryz.func23 rfl (Nz rfl) ?_;refine Xi .pure (Xi _ (Yi (h1) ?_));exact .refl _
end Go.Eng

namespace Go.Eng
open Go.Proofs
abbrev nilA:AV:=.v (.slice none 0 0)
end Go.Eng

namespace Go.Eng
open Go.Proofs
abbrev H45 (x:List Rl) (ifs:List (List AV)) (roots:List Rq) (s:List Sl):Prop:=PC 83 [ixV x ifs,sl encRq roots,sl encSl s] (vi (solvesP x roots s))
end Go.Eng

namespace Go.Eng
open Go.Proofs
theorem deriveGo_in {x:List Rl} {roots:List Rq} {l0:List Nf} : ∀ (l:List Nf) (d d' : List (List Tm)),(∀ i ∈ l,i ∈ l0)→(∀ t ∈ d,InU (pathsU x roots l0) t)→deriveGo x roots l d=some d'→∀ t ∈ d',InU (pathsU x roots l0) t
 | [],d,d',_,hd,h=>by
  have:d=d':=Option.some.inj h
  exact this▸hd
 | i :: l,d,d',hi,hd,h=>by
  unfold deriveGo at h;cases e:inferP x roots d i with
  | none=>rw [e] at h; cases h
  | some t =>
   rw [e] at h;refine deriveGo_in l (d++[t]) d' (fun j hj=>hi j (List.mem_cons_of_mem _ hj)) (fun u hu=>?_) h;rcases List.mem_append.1 hu with hu | hu
   ·exact hd u hu
   ·rw [List.mem_singleton.1 hu]; exact inferP_in (hi i (List.mem_cons_self ..)) hd e
theorem derived_few {x:List Rl} {roots:List Rq} {l:List Nf} (h:(deriveP x roots l).2=0):∀ t ∈ (deriveP x roots l).1,FewT t:=fun t ht=>by
 obtain ⟨h1,h2,h3,h4⟩:=deriveP_ok h
 have:=(deriveGo_in (l0:=l) l [] _ (fun _ h=>h) (fun _ h=>by cases h) h4 t ht).fewI (pathsU_few h1 h2 h3)
 exact ⟨by have:=this.1; unfold Few; omega,this.2⟩
abbrev pl21:Pol:=⟨[7],[],[],[],[],[],[],[],[],[],[2,4,8,10,11,12,13]⟩
theorem c21 (x:List Rl) (ifs:List (List AV)) (roots:List Rq) (a:An) (h84:H84 x ifs) (h45:H45 x ifs roots a.sel) (hx:∀ r ∈ x,FewR r) (hr:∀ q ∈ roots,FewQ q) (hs:a.sel.length≤500) (hk:Few a.skips):PC 35 [ixV x ifs,sl encRq roots,.agg (encAn a)] (vi (checkP x roots a)):=by
 obtain ⟨found,sel,infs,skips⟩:=a;have hs:sel.length≤500:=hs;have hc36:=c36 x ifs roots infs hx hr (fun _=>c165 x ifs roots h84);unfold ckRes at hc36;obtain ⟨D,hD⟩ : ∃ D,D=checkP x roots ⟨found,sel,infs,skips⟩:=⟨_,rfl⟩;rw [← hD];unfold checkP at hD
 by_cases he:(deriveP x roots infs).2=0
 ·rw [if_pos he] at hc36;rw [if_neg (by rw [he]; decide)] at hD;obtain ⟨h1,h2,h3,h4⟩:=deriveP_ok he;have hdf:=derived_few he;have hdl:(deriveP x roots infs).1.length≤65536:=derive_few;obtain ⟨d,hd⟩ : ∃ d,d=(deriveP x roots infs).1:=⟨_,rfl⟩;rw [← hd] at hD hc36 hdf hdl;have hc40:=c40 x (.slice .none ifs) roots d (by unfold Few; omega);refine Ps pl21 Tryz.func35 rfl (Nz rfl) ?_;refine Yi (Nz rfl) ?_;refine Xi .pure (Xi _ (Yi (hc36) ?_));refine Yi (Nz rfl) ?_;refine Xi ⟨[(1,sl encRq roots),(3,.ref 3 0),(5,.ref 5 0),(7,.ref 7 0),(8,vi 0)],[(3,.cells (Ic x ifs)),(5,.cells [vb found,sl encSl sel,sl encNf infs,sl encSk skips]),(7,.ro [.cptr (encCk x (.slice .none ifs) roots d)])],hfree⟩ (Yi ⟨Z5,Z3,Fh,Tv⟩ ?_)
  refine Yi ?_ ?_
  ·intro h; exact absurd rfl h
  intro _;refine Xi ⟨[(1,sl encRq roots),(3,.ref 3 0),(5,.ref 5 0),(7,.ref 7 0)],[(3,.cells (Ic x ifs)),(5,.cells [vb found,sl encSl sel,sl encNf infs,sl encSk skips]),(7,.ro [.cptr (encCk x (.slice .none ifs) roots d)])],hfree⟩ (Yi ⟨Z4,Z3,Fh,Tv⟩ ?_)
  refine Yi ?_ ?_
  ·intro hf;have hf:found=true:=hf;have hD:D=if solvesP x roots sel≠0 then 18 else if (((visits x roots sel).1.foldl (skipStep x d) (true,skips)).1&&((visits x roots sel).1.foldl (skipStep x d) (true,skips)).2.isEmpty) then 0 else 18:=by
    rw [hD,if_neg (by show ¬ found=false; rw [hf]; decide)]
   refine Xi ⟨[(1,sl encRq roots),(3,.ref 3 0),(5,.ref 5 0),(7,.ref 7 0)],[(3,.cells (Ic x ifs)),(5,.cells [vb found,sl encSl sel,sl encNf infs,sl encSk skips]),(7,.ro [.cptr (encCk x (.slice .none ifs) roots d)])],hfree⟩ (Yi ⟨Z4,Z3,Fh,Tv⟩ ?_)
   refine Yi (Nz rfl) ?_;refine Xi .pure (Xi _ (Yi (h45) ?_));refine Yi ?_ ?_
   ·intro hz;have hz:solvesP x roots sel≠0:=hz;exact .of_eq (congrArg vi (show (18:Int)=D by rw [hD,if_pos hz]))
   intro hz;have hz:¬ solvesP x roots sel≠0:=hz;have hD:D=if (((visits x roots sel).1.foldl (skipStep x d) (true,skips)).1&&((visits x roots sel).1.foldl (skipStep x d) (true,skips)).2.isEmpty) then 0 else 18:=by rw [hD,if_neg hz]
   have hcd:=c42c x ifs roots d sel (true,skips) h84 h1 hx (by have:=reqs_few h2; omega) (fun q hq=>(hr q hq).1) hs hdl hdf;refine Xi ⟨[(5,.ref 5 0),(7,.ref 7 0)],[(5,.cells [vb found,sl encSl sel,sl encNf infs,sl encSk skips]),(7,.ro [.cptr (encCk x (.slice .none ifs) roots d)])],hfree⟩ (Yi ⟨Z2,Z2,Fh,Tv⟩ ?_)
   refine Yi (Nz rfl) ?_;refine Xi ⟨[(5,.ref 5 0),(7,.ref 7 0),(9,.ref 9 0)],[(5,.cells [vb found,sl encSl sel,sl encNf infs,sl encSk skips]),(7,.ro [.cptr (encCk x (.slice .none ifs) roots d)]),(9,.cells [vb true])],hfree⟩ (Yi ⟨Z3,Z3,Fh,Tv⟩ ?_)
   refine Yi (Nz rfl) ?_;refine Xi ⟨[(5,.ref 5 0),(7,.ref 7 0),(9,.ref 9 0),(10,.ref 10 0)],[(5,.cells [vb found,sl encSl sel,sl encNf infs,sl encSk skips]),(7,.ro [.cptr (encCk x (.slice .none ifs) roots d)]),(9,.cells [vb true]),(10,.cells [sl encSk skips])],hfree⟩ (Yi ⟨Z4,Z4,Fh,Tv⟩ ?_)
   refine Xi (.gen [(10,1000),(9,1001)] 0) (Yi rfl (hcd.imp ?_));intro v g q;have q1:=q.1;have q2:=q.2;subst q1;subst q2;refine Exists.elim (show ∃ A,A=(visits x roots sel).1.foldl (skipStep x d) (true,skips) from ⟨_,rfl⟩) (fun A hA=>?_);refine Xi ⟨[(9,.ref 9 0),(10,.ref 10 0)],[(9,.cells [vb A.1]),(10,.cells [sl encSk A.2])],hfree⟩ (Yi ⟨Z2,⟨⟨congrArg (fun a:Bool × List Sk=>HO.cells [vb a.1]) hA.symm,rfl⟩,⟨congrArg (fun a:Bool × List Sk=>HO.cells [sl encSk a.2]) hA.symm,rfl⟩,Tv⟩,Fh,Tv⟩ ?_)
   rw [← hA] at hD;refine Yi ?_ ?_
   ·intro h5;have h5:A.1=true:=h5;refine Yi ?_ ?_
    ·intro h6;have h6:(0:Int)<(A.2.map encSk).length:=h6;have h6:A.2.isEmpty=false:=by
      cases e:A.2 with
      | nil=>rw [e] at h6; exact absurd h6 (by decide)
      | cons _ _=>rfl
     exact .of_eq (congrArg vi (show (18:Int)=D by rw [hD,h5,h6]; rfl))
    ·intro h6;have h6:¬ (0:Int)<(A.2.map encSk).length:=h6;have h6:A.2.isEmpty=true:=by
      cases e:A.2 with
      | nil=>rfl
      | cons _ _=>rw [e] at h6; exact absurd (by rw [List.map_cons,List.length_cons]; omega) h6
     exact .of_eq (congrArg vi (show (0:Int)=D by rw [hD,h5,h6]; rfl))
   ·intro h5;have h5:A.1=false:=h5;exact .of_eq (congrArg vi (show (18:Int)=D by rw [hD,h5]; rfl))
  ·intro hf;have hf:found=false:=hf;have hD:D=if (!sel.isEmpty||!skips.isEmpty||!refutedB d) then 18 else 0:=by
    rw [hD,if_pos hf]
   refine Yi ?_ ?_
   ·intro h5;have h5:(0:Int)<(sel.map encSl).length:=h5;have h5:sel.isEmpty=false:=by
     cases e:sel with
     | nil=>rw [e] at h5; exact absurd h5 (by decide)
     | cons _ _=>rfl
    exact .of_eq (congrArg vi (show (18:Int)=D by rw [hD,h5]; rfl))
   intro h5;have h5:¬ (0:Int)<(sel.map encSl).length:=h5;have h5:sel.isEmpty=true:=by
    cases e:sel with
    | nil=>rfl
    | cons _ _=>rw [e] at h5; exact absurd (by rw [List.map_cons,List.length_cons]; omega) h5
   refine Yi ?_ ?_
   ·intro h6;have h6:(0:Int)<(skips.map encSk).length:=h6;have h6:skips.isEmpty=false:=by
     cases e:skips with
     | nil=>rw [e] at h6; exact absurd h6 (by decide)
     | cons _ _=>rfl
    exact .of_eq (congrArg vi (show (18:Int)=D by rw [hD,h5,h6]; rfl))
   intro h6;have h6:¬ (0:Int)<(skips.map encSk).length:=h6;have h6:skips.isEmpty=true:=by
    cases e:skips with
    | nil=>rfl
    | cons _ _=>rw [e] at h6; exact absurd (by rw [List.map_cons,List.length_cons]; omega) h6
   refine Or.elim (Bt (refutedB d)) (fun h7=>?_) (fun h7=>?_)
   ·rw [h7] at hc40;refine Xi .pure (Xi _ (Yi (hc40) ?_));exact .of_eq (congrArg vi (show (0:Int)=D by rw [hD,h5,h6,h7]; rfl))
   ·rw [h7] at hc40;refine Xi .pure (Xi _ (Yi (hc40) ?_));exact .of_eq (congrArg vi (show (18:Int)=D by rw [hD,h5,h6,h7]; rfl))
 ·rw [if_neg he] at hc36;rw [if_pos he] at hD;refine Ps pl21 Tryz.func35 rfl (Nz rfl) ?_;refine Yi (Nz rfl) ?_;refine Xi .pure (Xi _ (Yi (hc36) ?_));refine Yi (Nz rfl) ?_;refine Xi ⟨[(8,vi (deriveP x roots infs).2)],[],hfree⟩ (Yi ⟨Z1,Tv,Fh,Tv⟩ ?_)
  refine Yi ?_ ?_
  ·intro _;exact .of_eq (congrArg vi hD.symm)
  ·intro h; exact absurd he h
end Go.Eng

namespace Go.Eng
open Go.Proofs
section
variable {l:List Rl} {roots t:List Rq} {d:List ByteArray} {n:Nat}
end
end Go.Eng

namespace Go.Eng
open Go.Proofs
theorem few_mt (s:ByteArray) (h:s.size≤10):FewS s:=by unfold FewS; omega
theorem ex_few:(∀ r ∈ exIx,FewR r)∧∀ q ∈ exRoots,FewQ q:=by
 have hq:∀ q ∈ exRoots,FewQ q:=fun q hq=>by
  obtain rfl:=List.mem_singleton.1 hq;exact ⟨by decide,few_mt _ (by decide)⟩
 refine ⟨fun r hr=>?_,hq⟩;unfold exIx at hr;simp only [List.mem_cons,List.mem_nil_iff,or_false] at hr;rcases hr with rfl | rfl | rfl
 ·refine ⟨few_mt _ (by decide),fun q hq=>?_⟩;obtain rfl:=List.mem_singleton.1 hq;exact ⟨by decide,few_mt _ (by decide)⟩
 ·exact ⟨few_mt _ (by decide),fun q hq=>by cases hq⟩
 ·exact ⟨few_mt _ (by decide),fun q hq=>by cases hq⟩
theorem ex_ck:Ck exIx [] exRoots:=⟨ex_few.1,ex_few.2,fun _=>c165 _ _ _ (c84 _ _ ex_few.1)⟩
end Go.Eng

namespace Go.Eng
open Go.Proofs
structure Lim (x:List Rl) (roots:List Rq):Prop where
 ix:Few x
 rs:Few roots
 rel:∀ r ∈ x,Few r.reqs∧FewR r
 rq:∀ q ∈ roots,FewQ q
theorem Lim.x {x:List Rl} {roots:List Rq} (h:Lim x roots):∀ r ∈ x,FewR r:=fun r hr=>(h.rel r hr).2
theorem Lim.c84 {x:List Rl} {roots:List Rq} (h:Lim x roots) (ifs:List (List AV)):H84 x ifs:=Go.Eng.c84 x ifs h.x
theorem Lim.ck {x:List Rl} {roots:List Rq} (h:Lim x roots) (ifs:List (List AV)):Ck x ifs roots:=⟨h.x,h.rq,fun _=>c165 _ _ _ (h.c84 ifs)⟩
theorem Lim.c11 {x:List Rl} {roots:List Rq} (h:Lim x roots) (ifs:List (List AV)):PC 23 [ixV x ifs,sl encRq roots] (vb (smallX x 16&&smallQs roots)) :=
 Go.Eng.c11 x ifs roots h.ix (fun r hr=>(h.rel r hr).1) h.rs
end Go.Eng
