/- Lemmas for the claims of this seat, without a condition: part 19 (C67, C68). -/
import Derived.Test.YtodcmjcogdcmlaaGreatDoorA18
namespace Go.Eng
open Go.Proofs
theorem c32t (l:List Sl) (hl:Few l):ACall Tryz.prog 32 [sl encSl l] (heapOf [] hfree) fun r h'=>r=.slice (.id 2000 4) (l.map encSl)∧h'=heapOf [(2000,.tok 4 (l.map encSl).length)] hfree:=by
 refine acall_sub (cxe (plT 4)) [(2,2000)] rfl tab_ok hm rfl Tryz.func32 (by kernel_rfl) rfl (Nz rfl) (by kernel_rfl) rfl ?_;have bulk:AllLen 4 (l.map encSl)∧([]:List (List AV)).length=0∧(([]:List (List AV)).length+(l.map encSl).length)*40≤140737488355328∧([]:List (List AV)).length+(l.map encSl).length≤9223372036854775807:=by
  refine ⟨allLen_map (enc:=encSl) (n:=4) (fun _=>rfl) l,rfl,?_,?_⟩ <;> simp only [List.length_nil,Lm] <;> unfold Few at hl <;> omega
 have e2:HO.tok 4 (([]:List (List AV)).length+(l.map encSl).length)=.tok 4 (l.map encSl).length:=by rw [List.length_nil,Nat.zero_add]
 have e3:AV.slice (.id 2000 4) ([]++l.map encSl)=.slice (.id 2000 4) (l.map encSl):=rfl;refine Xi 0 ?_;refine Xi 0 ?_;refine Yi ?_ ?_
 ·intro _;refine Xi ⟨[(0,sl encSl l)],[],hfree⟩ (Yi ⟨Z1,Tv,Fh,ext_dec (by kernel_rfl)⟩ ?_)
  refine Xi 2 ?_;refine Yi bulk ?_;exact Xi _ (Yi (.refl _) (Yi e3 (congrArg (fun o=>heapOf [(2000,o)] hfree) e2)))
 ·intro h;have h:l.map encSl=[]:=h;refine Yi ?_ ?_
  ·refine Xi ⟨[],[],hfree⟩ (Yi ⟨trivial,trivial,fun _=>.inl rfl,ext_dec (by kernel_rfl)⟩ ?_)
   refine Xi 0 ?_;exact Xi _ (Yi (.refl _) (Yi (show AV.slice (.id 2000 4) []=_ by rw [h]) (show heapOf [(2000,HO.tok 4 0)] hfree=_ by rw [h]; rfl)))
  ·refine Xi ⟨[(0,sl encSl l)],[],hfree⟩ (Yi ⟨Z1,Tv,Fh,ext_dec (by kernel_rfl)⟩ ?_)
   refine Xi 2 ?_;refine Yi bulk ?_;exact Xi _ (Yi (.refl _) (Yi e3 (congrArg (fun o=>heapOf [(2000,o)] hfree) e2)))
abbrev pl47:Pol:=⟨[9,16],[],[],[],[],[],[],[],[(98,3)],[],[5,6,7,8,10,11,13,14]⟩
abbrev skV (p:List Sk × Bool):AV:=.tup [sl encSk p.1,vb p.2]
def skipAt (d:List (List Tm)) (v:Vis) (o:Rl) (x:List Rl) (k:List Sk):List Sk × Bool:=match k with
  | []=>([],false)
  | y :: k'=>if !decide (y.path=v.rel.path)||!decide (y.place=plc o.ver) then ([],false) else match nthZ d y.inf with
   | none=>([],false)
   | some t=>if entailed t (v.before++[keyR o]) then skipGo d v x k' else ([],false)
theorem skip_cons (d:List (List Tm)) (v:Vis) (o:Rl) (x:List Rl) (k:List Sk):skipGo d v (o :: x) k =
  if !decide (o.path=v.rel.path)||o.yanked||!decide (plc o.ver<plc v.rel.ver) then skipGo d v x k else
  if v.needs.any (fun q=>decide (q.path=v.rel.path)&&!has q.set (plc o.ver)) then skipGo d v x k else skipAt d v o x k:=by
 cases k <;> rfl
theorem skip_next {d:List (List Tm)} {v:Vis} {x:List Rl} {i:Nat} (h:i<x.length) {k:List Sk} {p:List Sk × Bool} (e:p=skipGo d v (x.drop i) k)
  (hs:(!decide (x[i].path=v.rel.path)||x[i].yanked||!decide (plc x[i].ver<plc v.rel.ver))=true∨v.needs.any (fun q=>decide (q.path=v.rel.path)&&!has q.set (plc x[i].ver))=true):p=skipGo d v (x.drop (i+1)) k:=by
 rw [e,List.drop_eq_getElem_cons h,skip_cons];rcases hs with hs | hs
 ·rw [if_pos hs]
 ·split
  ·rfl
  ·first | rfl | rw [if_pos hs]
theorem skip_at {d:List (List Tm)} {v:Vis} {x:List Rl} {i:Nat} (h:i<x.length) {k:List Sk} {p:List Sk × Bool} (e:p=skipGo d v (x.drop i) k)
  (h1:x[i].path=v.rel.path) (h2:x[i].yanked=false) (h3:plc x[i].ver<plc v.rel.ver) (h4:v.needs.any (fun q=>decide (q.path=v.rel.path)&&!has q.set (plc x[i].ver))=false):p=skipAt d v x[i] (x.drop (i+1)) k:=by
 rw [e,List.drop_eq_getElem_cons h,skip_cons,if_neg (by simp [h1,h2,h3]),if_neg (by rw [h4]; decide)]
theorem skip_bad:Sub (.tup [.v (.slice none 0 0),vb false]) (skV ([],false)):=Sub.tup ⟨.nil,.refl _,trivial⟩
theorem skip_tail (k:List Sk):(((k.map encSk).take ((k.map encSk).length:Int).toNat).drop (1:Int).toNat)=(k.drop 1).map encSk:=by
 rw [Int.toNat_natCast,List.take_length,List.map_drop]; rfl
theorem c47 (x:List Rl) (ifs:AV) (roots:List Rq) (d:List (List Tm)) (k:List Sk) (before:List Sl) (needs:List Rq) (r:Rl) (hx:x.length≤256) (_hd:d.length≤65536) (ht:∀ t ∈ d,FewT t) (hb:before.length≤1000) (hn:Few needs) (hq:∀ q ∈ needs,Few q.set) :
  PC 47 [.cptr (encCk x ifs roots d),sl encSk k,sl encSl before,sl encRq needs,.agg (encRl r)] (skV (skipGo d ⟨before,needs,r⟩ x k)):=by
 have hbf:Few before:=by unfold Few; omega
 obtain ⟨P,hP⟩ : ∃ P,P=skipGo d ⟨before,needs,r⟩ x k:=⟨_,rfl⟩;rw [← hP];refine Ps pl47 Tryz.func47 rfl (Nz rfl) ?_;refine Yi (Nz rfl) ?_;refine Xi .pure (Xi _ (Yi (c56 r.ver) ?_));refine Xi {p:Nat × List Sk // p.1≤x.length∧P=skipGo d ⟨before,needs,r⟩ (x.drop p.1) p.2} (Xi (fun p=>⟨[(0,.cptr (encCk x ifs roots d)),(1,sl encSk p.1.2),(2,sl encSl before),(3,sl encRq needs),(9,.ref 9 0),(12,vi (plc r.ver)),(29,sl encRl x),(30,vi (x.map encRl).length),(31,vi p.1.1)],[(9,.ro (encRl r))],hfree⟩) (Xi (fun p=>x.length - p.1.1) (Yi (Xi ⟨(0,k),Nat.zero_le _,hP⟩ ?_) ?_)))
 ·exact ⟨Z9,Z1,Fh,Tv⟩
 intro ⟨⟨i,k⟩,i1,i2⟩;have i1:i≤x.length:=i1;have i2:P=skipGo d ⟨before,needs,r⟩ (x.drop i) k:=i2;refine Yi ?_ ?_
 ·intro h;have h:(i:Int)<(x.map encRl).length:=h;have h:i<x.length:=by simpa using h
  have hg:x[i]?=some x[i]:=Ge h;refine Xi (encRl x[i]) (Yi (Yi (Nn i) (by simp [hg])) (Yi rfl ?_));refine Yi (Nz rfl) (Yi (Nz rfl) ?_);refine Xi ⟨[(0,.cptr (encCk x ifs roots d)),(1,sl encSk k),(2,sl encSl before),(3,sl encRq needs),(9,.ref 9 0),(12,vi (plc r.ver)),(15,.ref 15 0),(29,sl encRl x),(30,vi (x.map encRl).length),(31,vi i)],[(9,.ro (encRl r)),(15,.cells (encRl x[i]))],hfree⟩ (Yi ⟨Z10,Z2,Fh,Tv⟩ ?_)
  refine Yi (Nz rfl) ?_;refine Xi .pure (Xi _ (Yi (c56 x[i].ver) ?_));refine Yi (Nz rfl) ?_;refine Xi ⟨[(0,.cptr (encCk x ifs roots d)),(1,sl encSk k),(2,sl encSl before),(3,sl encRq needs),(9,.ref 9 0),(12,vi (plc r.ver)),(15,.ref 15 0),(16,.ref 16 0),(29,sl encRl x),(30,vi (x.map encRl).length),(31,vi i)],[(9,.ro (encRl r)),(15,.cells (encRl x[i])),(16,.ro [vi (plc x[i].ver)])],hfree⟩ (Yi ⟨Z11,Z3,Fh,Tv⟩ ?_)
  refine Yi ?_ ?_
  ·intro h1;have h1:x[i].path≠r.path:=h1;have i3:=skip_next h i2 (.inl (by simp [h1]));refine Xi ⟨[(0,.cptr (encCk x ifs roots d)),(1,sl encSk k),(2,sl encSl before),(3,sl encRq needs),(9,.ref 9 0),(12,vi (plc r.ver)),(29,sl encRl x),(30,vi (x.map encRl).length),(31,vi i)],[(9,.ro (encRl r))],hfree⟩ (Yi ⟨Z9,Z1,Fh,Tv⟩ ?_)
   refine Yi (Ii i (by omega)) ?_;refine Xi ⟨(i+1,k),by show i+1≤_; omega,i3⟩ ?_;exact ⟨Dl x.length i (by omega),Z9,Z1,Fh,Tv⟩
  intro h1;have h1:¬ x[i].path≠r.path:=h1;have h1:x[i].path=r.path:=Classical.not_not.1 h1;refine Yi ?_ ?_
  ·intro h2;have h2:x[i].yanked=true:=h2;have i3:=skip_next h i2 (.inl (by simp [h2]));refine Xi ⟨[(0,.cptr (encCk x ifs roots d)),(1,sl encSk k),(2,sl encSl before),(3,sl encRq needs),(9,.ref 9 0),(12,vi (plc r.ver)),(29,sl encRl x),(30,vi (x.map encRl).length),(31,vi i)],[(9,.ro (encRl r))],hfree⟩ (Yi ⟨Z9,Z1,Fh,Tv⟩ ?_)
   refine Yi (Ii i (by omega)) ?_;refine Xi ⟨(i+1,k),by show i+1≤_; omega,i3⟩ ?_;exact ⟨Dl x.length i (by omega),Z9,Z1,Fh,Tv⟩
  intro h2;have h2:x[i].yanked=false:=h2;refine Yi ?_ ?_
  ·intro h3;have h3:plc r.ver≤plc x[i].ver:=h3;have i3:=skip_next h i2 (.inl (by simp; omega));refine Xi ⟨[(0,.cptr (encCk x ifs roots d)),(1,sl encSk k),(2,sl encSl before),(3,sl encRq needs),(9,.ref 9 0),(12,vi (plc r.ver)),(29,sl encRl x),(30,vi (x.map encRl).length),(31,vi i)],[(9,.ro (encRl r))],hfree⟩ (Yi ⟨Z9,Z1,Fh,Tv⟩ ?_)
   refine Yi (Ii i (by omega)) ?_;refine Xi ⟨(i+1,k),by show i+1≤_; omega,i3⟩ ?_;exact ⟨Dl x.length i (by omega),Z9,Z1,Fh,Tv⟩
  intro h3;have h3:¬ plc r.ver≤plc x[i].ver:=h3;have h3:plc x[i].ver<plc r.ver:=by omega
  refine Xi ⟨[(0,.cptr (encCk x ifs roots d)),(1,sl encSk k),(2,sl encSl before),(3,sl encRq needs),(9,.ref 9 0),(12,vi (plc r.ver)),(15,.ref 15 0),(16,.ref 16 0),(29,sl encRl x),(30,vi (x.map encRl).length),(31,vi i)],[(9,.ro (encRl r)),(15,.cells (encRl x[i])),(16,.ro [vi (plc x[i].ver)])],hfree⟩ (Yi ⟨Z11,Z3,Fh,Tv⟩ ?_)
  have hc90:∀ q ∈ needs,PC 90 ([.agg (encRq q)]++[.cptr (encRl r),.cptr [vi (plc x[i].ver)]]) (vb (decide (q.path=r.path)&&!has q.set (plc x[i].ver))):=fun q hh=>c90 q r (plc x[i].ver) (hq q hh);have hc89:=c89 (fF:=90) (caps:=[.cptr (encRl r),.cptr [vi (plc x[i].ver)]]) (fun c hc=>by
   rcases List.mem_cons.1 hc with rfl | hc
   ·intro h; rfl
   ·obtain rfl:=List.mem_singleton.1 hc;intro h; rfl) needs (fun q=>decide (q.path=r.path)&&!has q.set (plc x[i].ver)) hc90 hn
  refine Or.elim (Bt (needs.any fun q=>decide (q.path=r.path)&&!has q.set (plc x[i].ver))) (fun h4=>?_) (fun h4=>?_)
  ·rw [h4] at hc89;refine Xi .pure (Xi _ (Yi (hc89) ?_));have i3:=skip_next h i2 (.inr h4);refine Xi ⟨[(0,.cptr (encCk x ifs roots d)),(1,sl encSk k),(2,sl encSl before),(3,sl encRq needs),(9,.ref 9 0),(12,vi (plc r.ver)),(29,sl encRl x),(30,vi (x.map encRl).length),(31,vi i)],[(9,.ro (encRl r))],hfree⟩ (Yi ⟨Z9,Z1,Fh,Tv⟩ ?_)
   refine Yi (Ii i (by omega)) ?_;refine Xi ⟨(i+1,k),by show i+1≤_; omega,i3⟩ ?_;exact ⟨Dl x.length i (by omega),Z9,Z1,Fh,Tv⟩
  rw [h4] at hc89;refine Xi .pure (Xi _ (Yi (hc89) ?_));have i4:P=skipAt d ⟨before,needs,r⟩ x[i] (x.drop (i+1)) k:=skip_at h i2 h1 h2 h3 h4;refine Xi ⟨[(0,.cptr (encCk x ifs roots d)),(1,sl encSk k),(2,sl encSl before),(3,sl encRq needs),(9,.ref 9 0),(12,vi (plc r.ver)),(15,.ref 15 0),(16,.ref 16 0),(29,sl encRl x),(30,vi (x.map encRl).length),(31,vi i)],[(9,.ro (encRl r)),(15,.cells (encRl x[i])),(16,.ro [vi (plc x[i].ver)])],hfree⟩ (Yi ⟨Z11,Z3,Fh,Tv⟩ ?_)
  refine Yi ?_ ?_
  ·intro hh;have hh:((k.map encSk).length:Int)=0:=hh;refine Yi (by kernel_rfl) ?_;have e:P=([],false):=by rw [i4,show k=[] from List.eq_nil_of_length_eq_zero (by simpa using hh)]; rfl
   exact skip_bad.trans (.of_eq (show skV ([],false)=skV P by rw [e]))
  intro hk;have hk:¬ ((k.map encSk).length:Int)=0:=hk;refine Exists.elim (show ∃ y k',k=y :: k' by cases k with | nil=>exact absurd rfl hk | cons y k'=>exact ⟨y,k',rfl⟩) (fun y hy=>?_);refine Exists.elim hy (fun k' hy=>?_);have hg0:(k.map encSk)[(0:Int).toNat]?=some (encSk y):=by rw [hy]; rfl
  have i5:P=skipAt d ⟨before,needs,r⟩ x[i] (x.drop (i+1)) (y :: k'):=by rw [← hy]; exact i4
  refine Xi (encSk y) (Yi (Yi (by decide) hg0) (Yi rfl ?_));refine Yi ?_ ?_
  ·intro hh;have hh:y.path≠r.path:=hh;refine Yi (by kernel_rfl) ?_;have e:P=([],false):=by rw [i5]; show (if _ then _ else _)=_; rw [if_pos (by simp [hh])]
   exact skip_bad.trans (.of_eq (show skV ([],false)=skV P by rw [e]))
  intro h5;have h5:¬ y.path≠r.path:=h5;have h5:y.path=r.path:=Classical.not_not.1 h5;refine Xi (encSk y) (Yi (Yi (by decide) hg0) (Yi rfl ?_));refine Yi ?_ ?_
  ·intro hh;have hh:y.place≠plc x[i].ver:=hh;refine Yi (by kernel_rfl) ?_;have e:P=([],false):=by rw [i5]; show (if _ then _ else _)=_; rw [if_pos (by simp [hh])]
   exact skip_bad.trans (.of_eq (show skV ([],false)=skV P by rw [e]))
  intro h6;have h6:¬ y.place≠plc x[i].ver:=h6;have h6:y.place=plc x[i].ver:=Classical.not_not.1 h6;have i6:P=match nthZ d y.inf with | none=>([],false) | some t=>if entailed t (before++[keyR x[i]]) then skipGo d ⟨before,needs,r⟩ (x.drop (i+1)) k' else ([],false):=by
   rw [i5]; show (if _ then _ else _)=_; rw [if_neg (by simp [h5,h6])]
  refine Xi (encSk y) (Yi (Yi (by decide) hg0) (Yi rfl ?_));refine Yi ?_ ?_
  ·intro hh;have hh:y.inf<0:=hh;refine Yi (by kernel_rfl) ?_;have e:P=([],false):=by rw [i6]; unfold nthZ; rw [if_pos hh]
   exact skip_bad.trans (.of_eq (show skV ([],false)=skV P by rw [e]))
  intro h7;have h7:¬ y.inf<0:=h7;refine Xi (encSk y) (Yi (Yi (by decide) hg0) (Yi rfl ?_));refine Yi ?_ ?_
  ·intro hh;have hh:((d.map encInc).length:Int)≤y.inf:=hh;refine Yi (by kernel_rfl) ?_;have e:P=([],false):=by rw [i6]; unfold nthZ; rw [if_neg h7,List.getElem?_eq_none (by rw [Lm] at hh; omega)]
   exact skip_bad.trans (.of_eq (show skV ([],false)=skV P by rw [e]))
  intro h8;have h8:¬ ((d.map encInc).length:Int)≤y.inf:=h8;rw [Lm] at h8;refine Yi (by kernel_rfl) ?_;refine Exists.elim (show ∃ j:Nat,y.inf=j from ⟨y.inf.toNat,by omega⟩) (fun j hj=>?_);have hj2:j<d.length:=by omega
  have hdg:d[j]?=some d[j]:=Ge hj2;have hnth:nthZ d y.inf=some d[j]:=by unfold nthZ; rw [if_neg h7,hj,Int.toNat_natCast,hdg]
  rw [hnth] at i6;have i6:P=if entailed d[j] (before++[keyR x[i]]) then skipGo d ⟨before,needs,r⟩ (x.drop (i+1)) k' else ([],false):=i6
  refine Xi ⟨[(0,.cptr (encCk x ifs roots d)),(1,sl encSk k),(2,sl encSl before),(3,sl encRq needs),(9,.ref 9 0),(12,vi (plc r.ver)),(15,.ref 15 0),(29,sl encRl x),(30,vi (x.map encRl).length),(31,vi i)],[(9,.ro (encRl r)),(15,.cells (encRl x[i]))],hfree⟩ (Yi ⟨Z10,Z2,Fh,Tv⟩ ?_)
  refine Xi 4 (Xi (before.map encSl) (Yi rfl (Yi (c32t before hbf) ?_)));refine Yi (Nz rfl) ?_;have bulk:AllLen 4 [[vs x[i].path,vi x[i].ver.a,vi x[i].ver.b,vi x[i].ver.c]]∧(before.map encSl).length=(before.map encSl).length∧((before.map encSl).length+[[vs x[i].path,vi x[i].ver.a,vi x[i].ver.b,vi x[i].ver.c]].length)*40≤140737488355328∧(before.map encSl).length+[[vs x[i].path,vi x[i].ver.a,vi x[i].ver.b,vi x[i].ver.c]].length≤9223372036854775807 :=
   ⟨⟨rfl,trivial⟩,rfl,by rw [Lm,List.length_singleton]; omega,by rw [Lm,List.length_singleton]; omega⟩
  refine Yi bulk ?_;refine Yi (by kernel_rfl) ?_;refine Xi ⟨[(0,.cptr (encCk x ifs roots d)),(1,sl encSk k),(2,sl encSl before),(3,sl encRq needs),(9,.ref 9 0),(12,vi (plc r.ver)),(18,.slice (.id 19800 4) (before.map encSl++[[vs x[i].path,vi x[i].ver.a,vi x[i].ver.b,vi x[i].ver.c]])),(29,sl encRl x),(30,vi (x.map encRl).length),(31,vi i)],[(9,.ro (encRl r)),(19800,.tok 4 ((before.map encSl).length+[[vs x[i].path,vi x[i].ver.a,vi x[i].ver.b,vi x[i].ver.c]].length))],hfree⟩ (Yi ⟨Z10,Z2,Fh,Tv⟩ ?_)
  have hent:PC 91 [sl encTm d[j],.slice .none (before.map encSl++[[vs x[i].path,vi x[i].ver.a,vi x[i].ver.b,vi x[i].ver.c]])] (vb (entailed d[j] (before++[keyR x[i]]))):=by
   have:=c91 d[j] (before++[keyR x[i]]) (ht _ (List.getElem_mem hj2)) (by unfold Few; rw [List.length_append,List.length_singleton]; omega)
   have e:(before++[keyR x[i]]).map encSl=before.map encSl++[[vs x[i].path,vi x[i].ver.a,vi x[i].ver.b,vi x[i].ver.c]]:=by rw [List.map_append]; rfl
   unfold sl at this;rw [e] at this;exact this
  have hgd:(d.map encInc)[y.inf.toNat]?=some (encInc d[j]):=by rw [hj,Int.toNat_natCast,List.getElem?_map,hdg]; rfl
  refine Xi (encSk y) (Yi (Yi (by decide) hg0) (Yi rfl ?_));refine Xi (encInc d[j]) (Yi (Yi (by show 0≤y.inf; omega) hgd) (Yi rfl ?_));refine Or.elim (Bt (entailed d[j] (before++[keyR x[i]]))) (fun h9=>?_) (fun h9=>?_)
  ·rw [h9] at hent;refine Xi _ (Yi (hent) ?_);refine Yi (by kernel_rfl) ?_;rw [if_pos h9] at i6;have hkl:1≤(k.map encSk).length:=by rw [hy]; simp
   refine Xi ⟨[(0,.cptr (encCk x ifs roots d)),(1,sl encSk k),(2,sl encSl before),(3,sl encRq needs),(9,.ref 9 0),(12,vi (plc r.ver)),(29,sl encRl x),(30,vi (x.map encRl).length),(31,vi i)],[(9,.ro (encRl r))],hfree⟩ (Yi ⟨Z9,Z1,Fh,Tv⟩ ?_)
   refine Yi (by show (0:Int)≤1∧(1:Int)≤((k.map encSk).length:Int)∧((k.map encSk).length:Int)≤((k.map encSk).length:Int); omega) (Yi (fun c hc=>by
    obtain ⟨z,_,rfl⟩:=List.mem_map.1 hc; rfl) ?_)
   have ek:AV.slice .none (((k.map encSk).take ((k.map encSk).length:Int).toNat).drop (1:Int).toNat)=sl encSk k':=by rw [skip_tail,hy]; rfl
   refine Xi ⟨[(0,.cptr (encCk x ifs roots d)),(1,sl encSk k'),(2,sl encSl before),(3,sl encRq needs),(9,.ref 9 0),(12,vi (plc r.ver)),(29,sl encRl x),(30,vi (x.map encRl).length),(31,vi i)],[(9,.ro (encRl r))],hfree⟩ (Yi ⟨⟨Zr,⟨ek,rfl⟩,Zr,Zr,Zr,Zr,Zr,Zr,Zr,Tv⟩,Z1,Fh,Tv⟩ ?_)
   refine Yi (Ii i (by omega)) ?_;refine Xi ⟨(i+1,k'),by show i+1≤_; omega,i6⟩ ?_;exact ⟨Dl x.length i (by omega),Z9,Z1,Fh,Tv⟩
  ·rw [h9] at hent;refine Xi _ (Yi (hent) ?_);refine Yi (by kernel_rfl) ?_;have e:P=([],false):=by rw [i6,h9]; rfl
   exact skip_bad.trans (.of_eq (show skV ([],false)=skV P by rw [e]))
 ·intro h;have h:¬ (i:Int)<(x.map encRl).length:=h;have h:¬ i<x.length:=by simpa using h
  have e:P=(k,true):=by rw [i2,List.drop_eq_nil_of_le (by omega)]; rfl
  exact .of_eq (show skV (k,true)=skV P by rw [e])
end Go.Eng

namespace Go.Eng
open Go.Proofs
abbrev encStr1 (p:ByteArray):List AV:=[vs p]
abbrev dH (l:List ByteArray):List (Nat × HO):=[(1000,.cells [.slice (.id 1001 1) (l.map encStr1)]),(1001,.tok 1 (l.map encStr1).length)]
theorem c43 (l:List ByteArray) (before:List Sl) (needs:List Rq) (r:Rl) (hl:l.length≤100000) :
  ACall Tryz.prog 43 [sl encSl before,sl encRq needs,.agg (encRl r),.ref 1000 0] (heapOf (dH l) hfree) fun v h'=>v=.tup []∧h'=heapOf (dH (l++[r.path])) hfree:=by
 refine acall_sub (cxe pl0) [(1000,1000),(1001,1001)] rfl tab_ok hm rfl Tryz.func43 (by kernel_rfl) rfl (Nz rfl) (by kernel_rfl) rfl ?_;have bulk:AllLen 1 [[vs r.path]]∧(l.map encStr1).length=(l.map encStr1).length∧((l.map encStr1).length+[[vs r.path]].length)*16≤140737488355328∧(l.map encStr1).length+[[vs r.path]].length≤9223372036854775807 :=
  ⟨⟨rfl,trivial⟩,rfl,by rw [Lm,List.length_singleton]; omega,by rw [Lm,List.length_singleton]; omega⟩
 refine Yi bulk ?_;refine Yi (Nz rfl) ?_;refine Xi _ (Yi (.refl _) (Yi rfl ?_));have e:(l++[r.path]).map encStr1=l.map encStr1++[[vs r.path]]:=by rw [List.map_append]; rfl
 have e2:heapOf (dH (l++[r.path])) hfree=heapOf [(1000,.cells [.slice (.id 1001 1) (l.map encStr1++[[vs r.path]])]),(1001,.tok 1 ((l.map encStr1).length+[[vs r.path]].length))] hfree:=by
  unfold dH; rw [e,List.length_append]
 exact Eq.trans rfl e2.symm
abbrev sH (a:Bool × List Sk):List (Nat × HO):=[(1000,.cells [sl encSk a.2]),(1001,.cells [vb a.1])]
theorem c46 (x:List Rl) (ifs:AV) (roots:List Rq) (d:List (List Tm)) (a:Bool × List Sk) (before:List Sl) (needs:List Rq) (r:Rl)
  (hx:x.length≤256) (hd:d.length≤65536) (ht:∀ t ∈ d,FewT t) (hb:before.length≤1000) (hn:Few needs) (hq:∀ q ∈ needs,Few q.set) :
  ACall Tryz.prog 46 [sl encSl before,sl encRq needs,.agg (encRl r),.cptr [.cptr (encCk x ifs roots d)],.ref 1000 0,.ref 1001 0] (heapOf (sH a) hfree) fun v h'=>v=.tup []∧h'=heapOf (sH (skipStep x d a ⟨before,needs,r⟩)) hfree:=by
 obtain ⟨b,k⟩:=a;have hc:=c47 x ifs roots d k before needs r hx hd ht hb hn hq;obtain ⟨p,hp⟩ : ∃ p,p=skipGo d ⟨before,needs,r⟩ x k:=⟨_,rfl⟩;have es:skipStep x d (b,k) ⟨before,needs,r⟩=(b&&p.2&&!r.yanked,p.1):=by unfold skipStep; rw [← hp]
 rw [← hp] at hc;rw [es];obtain ⟨k2,ok⟩:=p;have fin:∀ z:Bool,z=(b&&ok&&!r.yanked)→heapOf (sH (z,k2)) hfree=heapOf (sH (b&&(k2,ok).2&&!r.yanked,(k2,ok).1)) hfree:=fun z hz=>by rw [hz]
 cases ok with
 | false =>
  refine acall_sub (cxe pl0) [(1000,1000),(1001,1001)] rfl tab_ok hm rfl Tryz.func46 (by kernel_rfl) rfl (Nz rfl) (by kernel_rfl) rfl ?_;refine Yi (Nz rfl) ?_;refine Xi .pure (Xi _ (Yi (hc) ?_));refine Yi ?_ ?_
  ·intro h1;refine Yi (Nz rfl) ?_;refine Yi (Nz rfl) ?_;exact Xi _ (Yi (.refl _) (Yi rfl (fin false (by rw [Bool.and_false]; rfl))))
  ·intro h1;refine Yi (Nz rfl) ?_;refine Yi (Nz rfl) ?_;exact Xi _ (Yi (.refl _) (Yi rfl (fin false (by rw [Bool.and_false]; rfl))))
 | true =>
  refine acall_sub (cxe pl0) [(1000,1000),(1001,1001)] rfl tab_ok hm rfl Tryz.func46 (by kernel_rfl) rfl (Nz rfl) (by kernel_rfl) rfl ?_;refine Yi (Nz rfl) ?_;refine Xi .pure (Xi _ (Yi (hc) ?_));refine Yi ?_ ?_
  ·intro h1;have h1:b=true:=h1;refine Yi ?_ ?_
   ·intro h2;have h2:r.yanked=true:=h2;refine Yi (Nz rfl) ?_;refine Yi (Nz rfl) ?_;exact Xi _ (Yi (.refl _) (Yi rfl (fin false (by rw [h1,h2]; rfl))))
   ·intro h2;have h2:r.yanked=false:=h2;refine Yi (Nz rfl) ?_;refine Yi (Nz rfl) ?_;exact Xi _ (Yi (.refl _) (Yi rfl (fin true (by rw [h1,h2]; rfl))))
  ·intro h1;have h1:b=false:=h1;refine Yi (Nz rfl) ?_;refine Yi (Nz rfl) ?_;exact Xi _ (Yi (.refl _) (Yi rfl (fin false (by rw [h1]; rfl))))
end Go.Eng
