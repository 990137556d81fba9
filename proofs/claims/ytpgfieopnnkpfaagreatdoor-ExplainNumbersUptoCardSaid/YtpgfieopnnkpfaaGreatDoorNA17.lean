/- Lemmas for the claims of this seat, without a condition: part 17 (C22, C23, C24, C25, C26, C27, C28, C29, C30, C31, C32). -/
import Derived.Test.YtpgfieopnnkpfaaGreatDoorNA16
import Derived.Shelf.Slices.Delete
namespace Go.Eng
open Go.Proofs
abbrev shS:Shape:=⟨false,[.str]⟩
abbrev kvT (t:Tm):Value × AV:=(.string t.path,.agg (encTm t))
abbrev plfin (fin cut:List Nat):Pol:=⟨[],[],[],[],fin,[],[],[],[],[],cut⟩
theorem kvT_mem {m:List Tm} {p:ByteArray} {a:AV} : (Value.string p,a) ∈ m.map kvT↔∃ t ∈ m,t.path=p∧a=.agg (encTm t):=by
 rw [List.mem_map];constructor
 ·rintro ⟨t,h1,h2⟩
  simp only [Prod.mk.injEq,Value.string.injEq] at h2;exact ⟨t,h1,h2.1,h2.2.symm⟩
 ·rintro ⟨t,h1,rfl,rfl⟩
  exact ⟨t,h1,rfl⟩
theorem mput_kvT (m:List Tm) (t:Tm):mput (m.map kvT) (.string t.path) (.agg (encTm t))=(putT m t).map kvT:=by
 unfold putT
 by_cases h:(m.any fun u=>decide (u.path=t.path))=true
 ·rw [if_pos h];obtain ⟨u,h1,h2⟩:=List.any_eq_true.1 h;have h2:=of_decide_eq_true h2
  have:(Value.string t.path,AV.agg (encTm u)) ∈ m.map kvT:=kvT_mem.2 ⟨u,h1,h2,rfl⟩
  rw [mput_some this,List.map_map,List.map_map];apply List.map_congr_left;intro q _;simp only [Function.comp]
  by_cases e:q.path=t.path
  ·simp [e]
  ·have:¬ Value.string q.path=.string t.path:=fun c=>e (by injection c)
   simp [e]
 ·rw [if_neg h]
  have:∀ b,(Value.string t.path,b) ∉ m.map kvT:=fun b hb=>by
   obtain ⟨u,h1,h2,_⟩:=kvT_mem.1 hb;exact h (List.any_eq_true.2 ⟨u,h1,by simp [h2]⟩)
  rw [mput_none this,List.map_append]; rfl
theorem found_tm {m:List Tm} (hn:(pathsT m).Nodup) (p:ByteArray) {K:AV→Prop} {Z:Prop} (hy:∀ u,findT m p=some u→K (.agg (encTm u))) (hno:findT m p=none→Z) :
  (∀ a,(Value.string p,a) ∈ m.map kvT→K a)∧((∀ a,(Value.string p,a) ∉ m.map kvT)→Z) :=
 ⟨fun a h=>by
  obtain ⟨t,h1,h2,rfl⟩:=kvT_mem.1 h;subst h2;exact hy t ((findT_nodup hn).1 h1),fun h=>hno (by
  cases e:findT m p with
  | none=>rfl
  | some u=>exact absurd (kvT_mem.2 ⟨u,findT_mem e,findT_path e,rfl⟩) (h _))⟩
theorem few_can {t:Tm} (h:Canon t.set):Few t.set:=by
 unfold Few
 have:=canon_len h; omega
theorem c57 (l:List Tm) (hl:Few l) (hs:∀ t ∈ l,Few t.set):PC 65 [sl encTm l,.v (fnV 66)] (.cmap shS ((mergeM l).map kvT)):=by
 have hl:l.length≤1073741824:=hl;refine Ps (plfin [10] [5,8]) Tryz.func65 rfl (Nz rfl) ?_;refine Xi {i:Nat // i≤l.length} (Xi (fun i=>⟨[(0,sl encTm l),(1,.v (fnV 66)),(5,.mref 10),(11,sl encTm l),(12,vi (l.map encTm).length),(13,vi i.1)],[(10,.map shS ((mergeM (l.take i.1)).map kvT))],hfree⟩) (Xi (fun i=>l.length - i.1) (Yi (Xi ⟨0,Nat.zero_le _⟩ ?_) ?_)))
 ·exact ⟨Z6,Z1,Fh,Tv⟩
 intro ⟨i,h1⟩;have hn:=mergeM_nodup (l.take i);refine Yi ?_ ?_
 ·intro h;have h:(i:Int)<(l.map encTm).length:=h;have h:i<l.length:=by simpa using h
  have hg:l[i]?=some l[i]:=Ge h;refine Xi (encTm l[i]) (Yi (Yi (Nn i) (by simp [hg])) (Yi rfl ?_));refine Yi (Nz rfl) (Yi (Nz rfl) ?_);have hget:=hs l[i] (List.getElem_mem h);refine Xi ⟨[(0,sl encTm l),(1,.v (fnV 66)),(5,.mref 10),(7,.ref 7 0),(11,sl encTm l),(12,vi (l.map encTm).length),(13,vi i)],[(7,.cells (encTm l[i])),(10,.map shS ((mergeM (l.take i)).map kvT))],hfree⟩ (Yi ⟨Z7,Z2,Fh,Tv⟩ ?_)
  have tail:∀ u:Tm,Few u.set→bothT u l[i]=putO (findT (mergeM (l.take i)) l[i].path) l[i]→mput ((mergeM (l.take i)).map kvT) (.string l[i].path) (.agg (encTm (bothT u l[i])))=(mergeM (l.take (i+1))).map kvT:=fun u hu e=>by
   have hp:(putO (findT (mergeM (l.take i)) l[i].path) l[i]).path=l[i].path:=putO_path _ _ fun u h=>findT_path h;have e2:=mput_kvT (mergeM (l.take i)) (bothT u l[i]);have e3:(bothT u l[i]).path=l[i].path:=by rw [e]; exact hp
   rw [e3] at e2;rw [e2,mergeM_take l i h,e]; rfl
  refine found_tm hn l[i].path (fun u hu=>?_) (fun hu=>?_)
  ·have hus:Few u.set:=few_can (mergeM_canon _ u (findT_mem hu));refine Yi (Nz rfl) ?_;refine Xi ⟨[(0,sl encTm l),(1,.v (fnV 66)),(5,.mref 10),(7,.ref 7 0),(8,.ref 8 0),(11,sl encTm l),(12,vi (l.map encTm).length),(13,vi i)],[(7,.cells (encTm l[i])),(8,.cells (encTm u)),(10,.map shS ((mergeM (l.take i)).map kvT))],hfree⟩ (Yi ⟨Z8,Z3,Fh,Tv⟩ ?_)
   have hput:=tail u hus (by rw [putO_eq,hu]; rfl);refine Yi (Nz rfl) (Yi (Nz rfl) ?_);refine Xi _ (Yi (c58 u l[i] hus hget) ?_);refine Yi (by kernel_rfl) ?_;refine Yi (Ii i (by omega)) ?_;refine Xi ⟨i+1,by omega⟩ ?_;have e1:HO.map shS (mput ((mergeM (l.take i)).map kvT) (.string l[i].path) (.agg (encTm (bothT u l[i]))))=.map shS ((mergeM (l.take (i+1))).map kvT):=by rw [hput]
   exact ⟨Dl l.length i (by omega),Z6,⟨⟨e1,rfl⟩,Tv⟩,Fh,Tv⟩
  ·refine Yi (Nz rfl) ?_;refine Yi (Nz rfl) (Yi (Nz rfl) ?_);refine Xi ⟨[(0,sl encTm l),(1,.v (fnV 66)),(5,.mref 10),(7,.ref 7 0),(8,.ref 8 0),(11,sl encTm l),(12,vi (l.map encTm).length),(13,vi i)],[(7,.cells (encTm l[i])),(8,.cells (encTm l[i])),(10,.map shS ((mergeM (l.take i)).map kvT))],hfree⟩ (Yi ⟨Z8,Z3,Fh,Tv⟩ ?_)
   have hput:=tail l[i] hget (by rw [putO_eq,hu]; rfl);refine Yi (Nz rfl) (Yi (Nz rfl) ?_);refine Xi _ (Yi (c58 l[i] l[i] hget hget) ?_);refine Yi (by kernel_rfl) ?_;refine Yi (Ii i (by omega)) ?_;refine Xi ⟨i+1,by omega⟩ ?_;have e1:HO.map shS (mput ((mergeM (l.take i)).map kvT) (.string l[i].path) (.agg (encTm (bothT l[i] l[i]))))=.map shS ((mergeM (l.take (i+1))).map kvT):=by rw [hput]
   exact ⟨Dl l.length i (by omega),Z6,⟨⟨e1,rfl⟩,Tv⟩,Fh,Tv⟩
 ·intro h;have h:¬ (i:Int)<(l.map encTm).length:=h;have h:¬ i<l.length:=by simpa using h
  have e:(mergeM (l.take i)).map kvT=(mergeM l).map kvT:=by rw [List.take_of_length_le (by omega)]
  exact .of_eq (congrArg (AV.cmap shS) e)
end Go.Eng

namespace Go.Eng
open Go.Proofs
abbrev canRes (l:List Tm):AV:=.tup [sl encTm (ofT l),vb (canonT l).isSome]
abbrev pl29:Pol:=⟨[],[],[(4,3)],[],[],[],[],[],[],[(25,4)],[4,7,10]⟩
abbrev arrTm (l:List Tm):HO:=.arr 3 (l.map encTm)
abbrev keepT (l:List Tm):List Tm:=l.filter fun t=>!alwaysT t
theorem next_kv {l:List Tm} {kv:Value × AV} {rem' : List (Value × AV)} (h:(l.map kvT).Perm (kv :: rem')):∃ t r,kv=kvT t∧rem'=r.map kvT∧l.Perm (t :: r):=by
 obtain ⟨ps,h1,h2⟩:=perm_map_ex h l rfl;cases ps with
 | nil=>cases h2
 | cons t r =>
  rw [List.map_cons,List.cons.injEq] at h2;exact ⟨t,r,h2.1.symm,h2.2.symm,h1.symm⟩
theorem canon_never {l:List Tm} {t:Tm} (h:t ∈ mergeM l) (hn:neverT t=true):canonT l=none:=by
 unfold canonT;rw [if_pos (List.any_eq_true.2 ⟨t,(mem_merge l t).1 h,hn⟩)]
theorem canon_some {l done s:List Tm} (h:done.Perm (mergeM l)) (hn:∀ t ∈ done,neverT t=false) (hp:s.Perm (keepT done)) (hs:s.Pairwise fun x y=>blt y.path x.path=false):canonT l=some s:=by
 unfold canonT;rw [if_neg]
 ·congr 1
  exact (canonT_of_sorted _ (hp.trans (h.filter _)) hs).symm
 ·intro c;obtain ⟨t,h1,h2⟩:=List.any_eq_true.1 c
  have:=hn t (h.mem_iff.2 ((mem_merge l t).2 h1))
  rw [h2] at this; cases this
theorem keepT_len (l:List Tm):(keepT l).length≤l.length:=List.length_filter_le _ _
theorem c29 (l:List Tm) (hl:Few l) (hs:∀ t ∈ l,Few t.set):PC 30 [sl encTm l] (canRes l):=by
 have hl2:l.length≤1073741824:=hl;have hml:(mergeM l).length≤l.length:=by have:=mergeM_len l l.length (Nat.le_refl _); rwa [List.take_length] at this
 refine Ps pl29 Tryz.func30 rfl (Nz rfl) ?_;refine Xi .pure (Xi _ (Yi (c57 l hl hs) ?_));refine Xi {p:List Tm × List Tm × Option (Value × AV) // (p.1++p.2.1).Perm (mergeM l)∧∀ t ∈ p.1,neverT t=false} (Xi (fun p=>⟨[(4,.msl 4 (keepT p.1.1).length),(9,.ref 9 0)],[(4,arrTm (keepT p.1.1)),(9,.iter ((mergeM l).map kvT) (p.1.2.1.map kvT) p.1.2.2)],hfree⟩) (Xi (fun p=>p.1.2.1.length) (Yi (Xi ⟨([],mergeM l,none),.refl _,fun t ht=>by cases ht⟩ ?_) ?_)))
 ·exact ⟨Z2,Z2,Fh,Tv⟩
 intro ⟨⟨done,rem,cur⟩,r1,r2⟩;have r1:(done++rem).Perm (mergeM l):=r1;have r2:∀ t ∈ done,neverT t=false:=r2;have hdl:done.length+rem.length≤l.length:=by have:=r1.length_eq; rw [List.length_append] at this; omega
 have hkl:=keepT_len done;refine Yi ?_ ?_
 ·intro hr;have hr:rem.map kvT=[]:=hr;have hr:rem=[]:=List.map_eq_nil_iff.1 hr;subst hr;rw [List.append_nil] at r1;refine Xi (.gen [(4,1000)] 0) (Yi rfl ((c61 (keepT done) (by unfold Few; omega)).to ?_));intro s hq;have hsl:s.length=(keepT done).length:=hq.1.length_eq;have hc:=canon_some r1 r2 hq.1 hq.2;refine Xi ⟨[(4,.msl 4 (keepT done).length)],[(4,arrTm s)],hfree⟩ (Yi ⟨Z1,Z1,Fh,Tv⟩ ?_)
  refine Yi (by rw [Lm,hsl]) ?_;have e:AV.tup [sl encTm s,vb true]=canRes l:=by unfold canRes ofT; rw [hc]; rfl
  exact .of_eq e
 ·intro kv rem' hp;refine Exists.elim (next_kv hp) (fun t hp=>Exists.elim hp (fun r hp=>?_));have e1:=hp.1;have e2:=hp.2.1;subst e1;subst e2;have hp:=hp.2.2;have htm:t ∈ mergeM l:=r1.mem_iff.1 (List.mem_append_right _ (hp.mem_iff.2 (List.mem_cons_self ..)));have htc:=mergeM_canon l t htm;have htf:=few_can htc;refine Xi ⟨[(4,.msl 4 (keepT done).length),(9,.ref 9 0)],[(4,arrTm (keepT done)),(9,.iter ((mergeM l).map kvT) (r.map kvT) (some (kvT t)))],hfree⟩ (Yi ⟨Z2,Z2,Fh,Tv⟩ ?_)
  refine Yi (Nz rfl) (Yi (Nz rfl) ?_);have hv:PC 67 [.agg (encTm t)] (vb (neverT t)):=never_eq htc▸c59 t htf;have ha:PC 68 [.agg (encTm t)] (vb (alwaysT t)):=always_eq htc▸c60 t htf;refine Or.elim (Bt (neverT t)) (fun h=>?_) (fun h=>?_)
  ·rw [h] at hv;refine Xi .pure (Xi _ (Yi (hv) ?_));have hc:=canon_never htm h;have e:AV.tup [.slice .none [],vb false]=canRes l:=by unfold canRes ofT; rw [hc]; rfl
   have e0:Sub (.tup [.v (.slice none 0 0),vb false]) (.tup [.slice .none [],vb false]):=Sub.tup ⟨.nil,.refl _,trivial⟩;exact e0.trans (.of_eq e)
  ·rw [h] at hv;refine Xi .pure (Xi _ (Yi (hv) ?_));refine Xi ⟨[(4,.msl 4 (keepT done).length),(6,.ref 6 0),(9,.ref 9 0)],[(4,arrTm (keepT done)),(6,.cells (encTm t)),(9,.iter ((mergeM l).map kvT) (r.map kvT) (some (kvT t)))],hfree⟩ (Yi ⟨Z3,Z3,Fh,Tv⟩ ?_)
   refine Yi (Nz rfl) ?_;have hpm:((done++[t])++r).Perm (mergeM l):=by
    rw [List.append_assoc];exact (List.Perm.append_left _ hp.symm).trans r1
   have hnv:∀ u ∈ done++[t],neverT u=false:=fun u hu=>by
    rcases List.mem_append.1 hu with hu | hu
    ·exact r2 u hu
    ·rw [List.mem_singleton.1 hu]; exact h
   have hrl:r.length<rem.length:=by rw [hp.length_eq,List.length_cons]; omega
   refine Or.elim (Bt (alwaysT t)) (fun h2=>?_) (fun h2=>?_)
   rotate_left
   ·rw [h2] at ha;refine Xi .pure (Xi _ (Yi (ha) ?_));have bulk:AllLen 3 [encTm t]∧((keepT done).map encTm).length=(keepT done).length∧(((keepT done).map encTm).length+[encTm t].length)*48≤140737488355328∧((keepT done).map encTm).length+[encTm t].length≤9223372036854775807 :=
     ⟨⟨rfl,trivial⟩,by rw [Lm],by rw [Lm,List.length_singleton]; omega,by rw [Lm,List.length_singleton]; omega⟩
    refine Yi (Nz rfl) ?_;refine Yi bulk ?_;have hk:keepT (done++[t])=keepT done++[t]:=by unfold keepT; rw [List.filter_append,List.filter_cons,if_pos (by rw [h2]; rfl)]; rfl
    have e1:AV.msl 4 (((keepT done).map encTm).length+[encTm t].length)=.msl 4 (keepT (done++[t])).length:=by rw [hk]; simp
    have e2:HO.arr 3 ((keepT done).map encTm++[encTm t])=arrTm (keepT (done++[t])):=by rw [hk]; simp
    refine Xi ⟨(done++[t],r,some (kvT t)),hpm,hnv⟩ ?_;exact ⟨hrl,⟨⟨e1,rfl⟩,Zr,Tv⟩,⟨⟨e2,rfl⟩,Zr,Tv⟩,Fh,Tv⟩
   ·rw [h2] at ha;refine Xi .pure (Xi _ (Yi (ha) ?_));have hk:keepT (done++[t])=keepT done:=by unfold keepT; rw [List.filter_append,List.filter_cons,if_neg (by rw [h2]; decide)]; simp
    have e1:AV.msl 4 (keepT done).length=.msl 4 (keepT (done++[t])).length:=by rw [hk]
    have e2:arrTm (keepT done)=arrTm (keepT (done++[t])):=by rw [hk]
    refine Xi ⟨(done++[t],r,some (kvT t)),hpm,hnv⟩ ?_;exact ⟨hrl,⟨⟨e1,rfl⟩,Zr,Tv⟩,⟨⟨e2,rfl⟩,Zr,Tv⟩,Fh,Tv⟩
end Go.Eng

namespace Go.Eng
open Go.Proofs
theorem c222 (l:List Tm) (hl:Few l) (hs:∀ t ∈ l,Few t.set):PC 335 [sl encTm l] (sl encTm (ofT l)):=by
 refine Ps pl0 Tryz.func335 rfl (Nz rfl) ?_;refine Xi .pure (Xi _ (Yi (c29 l hl hs) ?_));exact .refl _
theorem few_compl (s:SpanL):Few (compl s):=by
 unfold Few; have:=canon_len (compl_canon s); omega
theorem few1 {α:Type} (x:α):Few [x]:=by unfold Few; simp
theorem few2 {α:Type} (x y:α):Few [x,y]:=by unfold Few; simp
theorem c191 (q:Rq) (hq:Few q.set):PC 303 [.agg (encRq q)] (sl encTm (rootT q)):=by
 have hc:PC 335 [sl encTm [outside q]] (sl encTm (rootT q)):=c222 [outside q] (few1 _) fun t ht=>by rw [List.mem_singleton.1 ht]; exact few_compl _
 refine Ps pl0 Tryz.func303 rfl (Nz rfl) ?_;refine Yi (Nz rfl) ?_;refine Xi .pure (Xi _ (Yi (c223 q hq) ?_));refine Xi .pure (Xi _ (Yi (hc) ?_));exact .refl _
theorem c193 (p:ByteArray) (pl:Int) (q:Rq) (hp:InI64 (pl+1)) (hq:Few q.set):PC 305 [vs p,vi pl,.agg (encRq q)] (sl encTm (requiresT p pl q)):=by
 have hc:PC 335 [sl encTm [⟨p,false,[(pl,pl+1)]⟩,outside q]] (sl encTm (requiresT p pl q)):=c222 [⟨p,false,[(pl,pl+1)]⟩,outside q] (few2 _ _) fun t ht=>by
  rcases List.mem_cons.1 ht with rfl | ht
  ·exact few1 _
  ·rw [List.mem_singleton.1 ht]; exact few_compl _
 refine Ps pl0 Tryz.func305 rfl (Nz rfl) ?_;refine Yi hp ?_;refine Yi (Nz rfl) ?_;refine Xi .pure (Xi _ (Yi (c223 q hq) ?_));refine Xi .pure (Xi _ (Yi (hc) ?_));exact .refl _
theorem c194 (p:ByteArray) (s:SpanL) (hs:Few s):PC 306 [vs p,sl encSpan s] (sl encTm (noneT p s)):=by
 have hc:PC 335 [sl encTm [⟨p,false,compl s⟩]] (sl encTm (noneT p s)):=c222 [⟨p,false,compl s⟩] (few1 _) fun t ht=>by rw [List.mem_singleton.1 ht]; exact few_compl _
 refine Ps pl0 Tryz.func306 rfl (Nz rfl) ?_;refine Xi .pure (Xi _ (Yi (c103 s hs) ?_));refine Xi .pure (Xi _ (Yi (hc) ?_));exact .refl _
end Go.Eng

namespace Go.Eng
open Go.Proofs Go.Shelf Go.RowKit Go.Lib Go.Sort
theorem lay_eq (F:Array Value) (i n:Nat) (hF:F.size=n*3) (hi:i<n) (z:List Value) (hz:z.length=3):(lay (lay F (i*3) (F.toList.drop ((i+1)*3))) ((n - 1)*3) z).toList=F.toList.take (i*3)++F.toList.drop ((i+1)*3)++z:=by
 have l1:(F.toList.take (i*3)).length=i*3:=by simp; omega
 have l2:(F.toList.drop ((i+1)*3)).length=(n - (i+1))*3:=by simp; omega
 apply List.ext_getElem?
 intro t
 rw [Array.getElem?_toList,lay_get? _ _ _ _ (by rw [Lib.lay_size]; omega),lay_get? _ _ _ _ (by rw [l2]; omega)]
 rw [hz,l2]
 by_cases c1:t<i*3
 ·rw [if_neg (by omega),if_neg (by omega),List.getElem?_append_left (by rw [List.length_append]; omega),List.getElem?_append_left (by omega),List.getElem?_take,if_pos c1,Array.getElem?_toList]
 ·by_cases c2:t<(n - 1)*3
  ·rw [if_neg (by omega),if_pos (by omega),List.getElem?_append_left (by rw [List.length_append]; omega),List.getElem?_append_right (by omega),l1]
  ·rw [List.getElem?_append_right (by rw [List.length_append]; omega),List.length_append,l1,l2]
   by_cases c3:t<n*3
   ·rw [if_pos (by omega)]; congr 1; omega
   ·rw [if_neg (by omega),if_neg (by omega),Array.getElem?_eq_none (by omega),List.getElem?_eq_none (by omega)]
abbrev zTm:List Value:=[.string ⟨#[]⟩,.bool false,.slice none 0 0]
set_option maxHeartbeats 4000000 in
set_option maxRecDepth 1000000 in
theorem del_walk (w:World) (b cap i n:Nat) (F:Array Value) (hF:F.size=n*3) (hi:i<n) (hcap:n≤cap) (hH:Holds id w b 0 F) (h1:∀ x ∈ F.toList,x.oneCell'=true) :
  Calls Tryz.prog 347 #[.slice (some ⟨b,0,none⟩) n cap,.int .i64 i,.int .i64 ((i:Int)+1)] w fun e w'=>e=.returned (.slice (some ⟨b,0,none⟩) (n - 1) cap) ∧
   w'=putRow id (Sort.ahead w 1) b 0 (lay (lay F (i*3) (F.toList.drop ((i+1)*3))) ((n - 1)*3) zTm):=by
 obtain ⟨i0,hi0,hz0⟩ : ∃ i0,Tryz.prog.info? 29=some i0∧i0.size=3:=by
  obtain ⟨i,z,h1,_,h2,_⟩:=append_facts (P:=Tryz.prog) (T:=tab) tab_ok (e:=29) (n:=2) (by kernel_rfl)
  exact ⟨i,h1,h2.trans (by kernel_rfl)⟩
 obtain ⟨news,hnews⟩ : ∃ news,news=F.toList.drop ((i+1)*3):=⟨_,rfl⟩
 have hlen:news.length=(n - (i+1))*3:=by rw [hnews]; simp; omega
 have hget:∀ t,t<(n - (i+1))*3→news[t]?=some F[(i+1)*3+t]!:=by
  intro t ht
  rw [hnews,List.getElem?_drop,Array.getElem?_toList,getElem!_pos F ((i+1)*3+t) (by omega),Array.getElem?_eq_getElem (by omega)]
 obtain ⟨A,hA,hsrc⟩ : ∃ A:Addr,(if cap=i+1 then some (⟨b,0,none⟩ : Addr) else some ⟨b,(i+1)*3,none⟩)=some A∧Hid (∀ t u,news[t]?=some u→w.drew.cell? (A.add t)=some u):=by
  by_cases h:cap=i+1
  ·refine ⟨⟨b,0,none⟩,by simp [h],fun t u hu=>?_⟩
   have h0:news.length=0:=by rw [hlen]; omega
   rw [List.length_eq_zero_iff.1 h0] at hu
   simp at hu
  ·refine ⟨⟨b,(i+1)*3,none⟩,by simp [h],fun t u hu=>?_⟩
   have ht:t<(n - (i+1))*3:=by
    have:=(List.getElem?_eq_some_iff.1 hu).1
    rwa [hlen] at this
   rw [hget t ht] at hu
   rw [Addr.add_lit]
   have:=(hH ((i+1)*3+t) (by omega)).1
   rw [Nat.zero_add] at this
   exact this.trans hu
 have s1:Hid (news.length=(n - (i+1))*3):=hlen
 have s2:Hid (∀ u ∈ news,u.oneCell'=true):=by
  intro u hu
  rw [hnews] at hu
  exact h1 u (List.mem_of_mem_drop hu)
 have s3:Hid (∀ t,t<news.length→(w.drew.cell? ⟨b,0+i*3+t,none⟩).isSome=true∧w.drew.frozen? ⟨b,0+i*3+t,none⟩=false):=by
  intro t ht
  rw [hlen] at ht
  have:=hH (i*3+t) (by omega)
  rw [Nat.add_assoc]
  exact ⟨by show (w.cell? _).isSome=true; rw [this.1]; rfl,this.2⟩
 obtain ⟨W1,hW1⟩ : ∃ W1,W1=w.drew.setCells b (0+i*3) news:=⟨_,rfl⟩
 have hW1' : W1=putRow id (Sort.ahead w 1) b 0 (lay F (i*3) news):=by
  have:=putRow_setCells id (Sort.ahead w 1) b 0 news F (i*3) (by omega)
  rw [putRow_self id (Sort.ahead w 1) b 0 F (holds_ahead id w 1 b 0 F hH),List.map_id] at this
  rw [hW1,← this]
  rfl
 have hH1:Holds id W1 b 0 (lay F (i*3) news):=by rw [hW1']; exact holds_putRow id _ b 0 F _ (holds_ahead id w 1 b 0 F hH) (Lib.lay_size _ _ _)
 have hst:(storeCells ⟨b,0+(n - 1)*3,none⟩ zTm 0).run Tryz.prog W1=.ok () (W1.setCells b (0+(n - 1)*3) zTm):=by
  have:=run_storeCells_cells (P:=Tryz.prog) b (0+(n - 1)*3) zTm 0 W1 (fun j hj=>by
   have hj:j<3:=hj
   have:=hH1 ((n - 1)*3+j) (by rw [Lib.lay_size]; omega)
   rw [show 0+(n - 1)*3+0+j=0+((n - 1)*3+j) by omega,this.1]; rfl) (fun j hj=>by
   have hj:j<3:=hj
   have:=hH1 ((n - 1)*3+j) (by rw [Lib.lay_size]; omega)
   rw [show 0+(n - 1)*3+0+j=0+((n - 1)*3+j) by omega]; exact this.2) (fun v hv=>by
   simp only [List.mem_cons,List.mem_nil_iff,or_false] at hv
   rcases hv with rfl | rfl | rfl <;> rfl)
  exact this
 have hcl:∀ ty c,(Builtin.clear_ #[23] ty #[.slice (some ⟨b,(n - 1)*3,none⟩) 1 c]).run Tryz.prog W1=.ok (.tuple #[]) (W1.setCells b (0+(n - 1)*3) zTm):=fun ty c=>by
  have hv:=Tryz.zeroValue29
  rw [Nat.zero_add] at hst ⊢
  have hz:(Builtin.zeroCells (Value.agg #[Value.string { data:=#[] },Value.bool false,Value.slice none 0 0]).cells 1).toList=zTm:=by kernel_rfl
  simp [Builtin.clear_,run_underlying Tryz.underlying23,hv,hz,hst]
 have hcl2:∀ ty,(Builtin.clear_ #[23] ty #[.slice (some ⟨b,(i+(n - (i+1)))*3,none⟩) (n - (i+(n - (i+1)))) (cap - (i+(n - (i+1))))]).run Tryz.prog W1=.ok (.tuple #[]) (W1.setCells b (0+(n - 1)*3) zTm):=fun ty=>by
  have e1:i+(n - (i+1))=n - 1:=by omega
  have e2:n - (n - 1)=1:=by omega
  rw [e1,e2]; exact hcl ty _
 have X:Aside (W1=putRow id (Sort.ahead w 1) b 0 (lay F (i*3) news)):=hW1'
 have hW:Hid (W1=w.drew.setCells b (0+i*3) news):=hW1
 have Y:Aside (news=F.toList.drop ((i+1)*3)):=hnews
 have Z:Aside (news.length=(n - (i+1))*3):=hlen
 have hic:i≤cap:=by omega
 have hjc:i+1≤cap:=by omega
 have mixed:=Go.Eng.hm
 have hb1:(0:Int)≤(i:Int)+1:=by omega
 have hb2:(i:Int)+1≤(n:Int):=by omega
 clear hW1 hW1' hH1 hH hget hnews hlen hst hcl
 go_enter Tryz.func347,Tryz.ntmps347
 go_wp2_with fail
 go_region_law_o (refine step_append_room rfl (.tmp 22) (.tmp 25) 23 rfl 29 i0 3 Tryz.underlying23 hi0 hz0 b 0 i cap (by simp [Act.eval,Act.put]) A (n - (i+1)) (cap - (i+1)) news (by simp [Act.eval,Act.put]) s1.out hsrc.out s2.out (by omega) s3.out ?_; rw [← hW.out])
 go_wp2
 go_ret
 refine ⟨by rw [show i+(n - (i+1))=n - 1 by omega]; rfl,?_⟩
 rw [X.out]
 have e1:=Y.out
 have e2:=Z.out
 rw [← e1]
 have:=putRow_setCells id (Sort.ahead w 1) b 0 zTm (lay F (i*3) news) ((n - 1)*3) (by rw [Lib.lay_size]; show _+3≤_; omega)
 rw [List.map_id,Nat.zero_add] at this
 exact this
abbrev zTmA:List AV:=[Go.Eng.vs ⟨#[]⟩,vb false,.v (.slice none 0 0)]
theorem c247 (l:List Tm) (i:Nat) (hi:i<l.length) :
  ACall Tryz.prog 347 [.msl 1000 l.length,vi i,vi ((i:Int)+1)] (heapOf [(1000,.arr 3 (l.map encTm))] hfree) fun r h'=>r=.msl 2000 (l.length - 1)∧h'=heapOf [(1000,.dead),(2000,.arr 3 ((l.eraseIdx i).map encTm))] hfree:=by
 have hE:Enters Tryz.prog 347:=ent 347 Tryz.func347 (by kernel_rfl) rfl
 have hlen:(l.eraseIdx i).length=l.length - 1:=List.length_eraseIdx_of_lt hi
 have hmain:=acall_cut (P:=Tryz.prog) (f:=347) (es:=l.map encTm) (sz:=3) (rest:=[.int .i64 i,.int .i64 ((i:Int)+1)]) (n':=l.length - 1) (Q:=fun es'=>es'=(l.eraseIdx i).map encTm++[zTmA]) hE (fun e=>by
  rw [List.map_eq_nil_iff] at e; subst e; simp at hi) (by rw [List.length_map]; omega) ?_
 ·rw [List.length_map] at hmain
  refine ⟨hE,fun g w vals q1 q2 q3=>(hmain.2 g w vals q1 q2 q3).mono fun _ _ ⟨v,r,h',g',e1,⟨e2,es',p1,p2⟩,rest⟩=>⟨v,r,h',g',e1,⟨e2,by rw [p2,p1,List.take_append_of_le_length (by rw [List.length_map,hlen]; exact Nat.le_refl _),List.take_of_length_le (by rw [List.length_map,hlen]; exact Nat.le_refl _)]⟩,rest⟩⟩
 ·intro g w b cap F hr hF hH hb hc
  rw [List.length_map] at hF hc ⊢
  have hu:∀ e ∈ l.map encTm,e.length=3:=fun e he=>by
   obtain ⟨t,_,rfl⟩:=List.mem_map.1 he; rfl
  refine (del_walk w b cap i l.length F hF hi hc hH hr.2.1).mono ?_
  rintro e w' ⟨rfl,rfl⟩
  refine ⟨rfl,_,_,1,#[],?_,rfl,?_,fun cs hcs=>?_,fun g w hr=>?_,rfl⟩
  ·rw [Lib.lay_size,Lib.lay_size]
  ·rw [List.length_append,List.length_map,hlen,List.length_singleton]; omega
  ·rcases List.mem_append.1 hcs with h | h
   ·obtain ⟨t,_,rfl⟩:=List.mem_map.1 h; rfl
   ·rw [List.mem_singleton.1 h]; rfl
  ·rw [lay_eq F i l.length hF hi zTm rfl,List.eraseIdx_eq_take_drop_succ,List.flatten_append,List.map_append,List.flatten_append,List.map_take,List.map_drop,← flatten_take _ i hu,← flatten_drop _ (i+1) hu]
   refine RepL.append (RepL.append (hr.take _) (hr.drop _)) ?_
   exact repL_vals g w NoU zTm fun x hx=>by
    simp only [List.mem_cons,List.mem_nil_iff,or_false] at hx
    rcases hx with rfl | rfl | rfl <;> rfl
end Go.Eng

namespace Go.Eng
open Go.Proofs
theorem c248a (l:List Tm) (hl:Few l) (hne:l≠[]):ACall Tryz.prog 348 [sl encTm l] (heapOf [] hfree) fun r h'=>r=.msl 2000 l.length∧h'=heapOf [(2000,.arr 3 (l.map encTm))] hfree:=by
 refine acall_sub (cxe (pla [(5,3)] [])) [(5,2000)] rfl tab_ok hm rfl Tryz.func348 (by kernel_rfl) rfl (Nz rfl) (by kernel_rfl) rfl ?_;have bulk:AllLen 3 (l.map encTm)∧([]:List (List AV)).length=0∧(([]:List (List AV)).length+(l.map encTm).length)*48≤140737488355328∧([]:List (List AV)).length+(l.map encTm).length≤9223372036854775807:=by
  refine ⟨allLen_map (enc:=encTm) (n:=3) (fun _=>rfl) l,rfl,?_,?_⟩ <;> simp only [List.length_nil,Lm] <;> unfold Few at hl <;> omega
 refine Yi ?_ ?_
 ·intro _;refine Yi bulk ?_;have e1:AV.msl 2000 (([]:List (List AV)).length+(l.map encTm).length)=.msl 2000 l.length:=by simp
  refine Xi (.msl 2000 (([]:List (List AV)).length+(l.map encTm).length)) (Yi (.refl _) (Yi e1 ?_))
  rfl
 ·intro h;have h:l.map encTm=[]:=h;exact absurd (List.map_eq_nil_iff.1 h) hne
theorem c246 (x:Tm) (p:ByteArray):PC 346 [.agg (encTm x),.cptr [vs p]] (vb (decide (x.path=p))):=by
 refine Ps pl0 Tryz.func346 rfl (Nz rfl) ?_;refine Yi ?_ ?_
 ·intro h;have h:x.path=p:=h;rw [decide_eq_true h];exact .refl _
 ·intro h;have h:¬ x.path=p:=h;rw [decide_eq_false h];exact .refl _
theorem erase_without {p:ByteArray} : ∀ {c:List Tm} {i:Nat},(pathsT c).Nodup→∀ (hi:i<c.length),c[i].path=p→c.eraseIdx i=withoutT c p
 | t :: c,0,hn,_,h=>by
  have h:t.path=p:=h;unfold pathsT at hn;rw [List.map_cons,List.nodup_cons] at hn;unfold withoutT;rw [List.filter_cons,if_neg (by simp [h])];show c=_;rw [List.filter_eq_self.2 fun u hu=>by
   have:u.path≠p:=fun e=>hn.1 (h▸e▸List.mem_map.2 ⟨u,hu,rfl⟩)
   simp [this]]
 | t :: c,i+1,hn,hi,h=>by
  have hi:i<c.length:=by simpa using hi
  have h:c[i].path=p:=h;unfold pathsT at hn;rw [List.map_cons,List.nodup_cons] at hn
  have:t.path≠p:=fun e=>hn.1 (by rw [e,← h]; exact List.mem_map.2 ⟨_,List.getElem_mem hi,rfl⟩)
  have ih:=erase_without hn.2 hi h;unfold withoutT at ih ⊢;rw [List.eraseIdx_cons_succ,List.filter_cons,if_pos (by simp [this]),ih]
theorem few_canon {l c:List Tm} (hl:Few l) (h:canonT l=some c):Few c:=by
 have h1:=mergeM_len l l.length (Nat.le_refl _);rw [List.take_length] at h1;have h2:c=(mergeT l).filter fun t=>!alwaysT t:=by
  unfold canonT at h; split at h
  ·cases h
  ·exact (Option.some.inj h).symm
 have h3:c.length≤(mergeT l).length:=by rw [h2]; exact List.length_filter_le _ _
 have h4:(mergeT l).length=(mergeM l).length:=by
  have:=(List.perm_ext_iff_of_nodup (nodup_of_paths (mergeM_nodup l)) (nodup_of_paths (sorted_nodup (mergeT_sorted l)))).2 (mem_merge l)
  exact this.length_eq.symm
 unfold Few at hl ⊢; omega
abbrev noSplit:AV:=.tup [.agg zTmA,.v (.slice none 0 0),vb false]
abbrev pl224:Pol:=⟨[3],[],[],[],[],[],[],[],[(30,0),(34,1)],[],[3]⟩
theorem c224n (l:List Tm) (p:ByteArray) (hl:Few l) (hs:∀ t ∈ l,Few t.set) (hn:splitT l p=none):PC 337 [sl encTm l,vs p] noSplit:=by
 have hc:=c29 l hl hs;unfold splitT at hn;cases e:canonT l with
 | none =>
  have e1:canRes l=.tup [sl encTm [],vb false]:=by unfold canRes ofT; rw [e]; rfl
  rw [e1] at hc;have hi:=c176 (Stable.ptr [vs p]) [] (fun x=>decide (x.path=p)) (fun x _=>c246 x p) (by simp);refine Ps pl224 Tryz.func337 rfl (Nz rfl) ?_;refine Xi .pure (Xi _ (Yi (hc) ?_));refine Xi .pure (Xi _ (Yi (hi) ?_));refine Xi ⟨[(4,.ref 4 0),(7,sl encTm []),(8,vb false),(9,vi (-1))],[(4,.cells zTmA)],hfree⟩ (Yi ⟨Z4,Z1,Fh,Tv⟩ ?_)
  refine Yi (Nz rfl) (Yi (Nz rfl) ?_);exact .refl _
 | some c =>
  rw [e] at hn;have hn:(match findT c p with | none=>none | some t=>some (t,withoutT c p))=none:=hn;have hfn:findT c p=none:=by
   cases h:findT c p with
   | none=>rfl
   | some t=>rw [h] at hn; cases hn
  have e1:canRes l=.tup [sl encTm c,vb true]:=by unfold canRes ofT; rw [e]; rfl
  rw [e1] at hc;have hfc:=few_canon hl e;have hi:=c176 (Stable.ptr [vs p]) c (fun x=>decide (x.path=p)) (fun x _=>c246 x p) (by unfold Few at hfc; omega);have hid:idx (fun x:Tm=>decide (x.path=p)) c 0=-1:=by
   rcases idx_find (p:=fun x:Tm=>decide (x.path=p)) c 0 with ⟨h1,_⟩ | ⟨i,x,_,_,h3⟩
   ·exact h1
   ·unfold findT at hfn; rw [h3] at hfn; cases hfn
  rw [hid] at hi;refine Ps pl224 Tryz.func337 rfl (Nz rfl) ?_;refine Xi .pure (Xi _ (Yi (hc) ?_));refine Xi .pure (Xi _ (Yi (hi) ?_));refine Xi ⟨[(4,.ref 4 0),(7,sl encTm c),(8,vb true),(9,vi (-1))],[(4,.cells zTmA)],hfree⟩ (Yi ⟨Z4,Z1,Fh,Tv⟩ ?_)
  refine Yi ?_ ?_
  ·intro _;refine Yi (Nz rfl) (Yi (Nz rfl) ?_);exact .refl _
  ·intro h;exact absurd (show (-1:Int)<0 by decide) h
abbrev pl224s:Pol:=⟨[3],[],[],[],[],[],[],[],[(30,0),(34,2)],[],[]⟩
theorem c224s (l:List Tm) (p:ByteArray) (hl:Few l) (hs:∀ t ∈ l,Few t.set) {t:Tm} {r:List Tm} (hn:splitT l p=some (t,r)) :
  ACall Tryz.prog 337 [sl encTm l,vs p] (heapOf [] hfree) fun v h'=>v=.tup [.agg (encTm t),.msl 2000 r.length,vb true]∧h'=heapOf [(2000,.arr 3 (r.map encTm))] hfree:=by
 have hc:=c29 l hl hs;unfold splitT at hn;cases e:canonT l with
 | none=>rw [e] at hn; cases hn
 | some c =>
  rw [e] at hn;have hn:(match findT c p with | none=>none | some t=>some (t,withoutT c p))=some (t,r):=hn;have hft:findT c p=some t∧withoutT c p=r:=by
   cases h:findT c p with
   | none=>rw [h] at hn; cases hn
   | some t=>rw [h] at hn; cases hn; exact Zr
  have e1:canRes l=.tup [sl encTm c,vb true]:=by unfold canRes ofT; rw [e]; rfl
  rw [e1] at hc;have hfc:=few_canon hl e;have hi:=c176 (Stable.ptr [vs p]) c (fun x=>decide (x.path=p)) (fun x _=>c246 x p) (by unfold Few at hfc; omega);rcases idx_find (p:=fun x:Tm=>decide (x.path=p)) c 0 with ⟨_,h2⟩ | ⟨i,x,h1,h2,h3⟩
  ·unfold findT at hft; rw [h2] at hft; cases hft.1
  have hx:x=t:=by
   have:=hft.1
   unfold findT at this; rw [h3] at this; exact Option.some.inj this
  subst hx;rw [h1,Int.zero_add] at hi;obtain ⟨hic,hie⟩:=List.getElem?_eq_some_iff.1 h2;have her:c.eraseIdx i=r:=by
   rw [← hft.2];exact erase_without (sorted_nodup (canonT_sorted e)) hic (by rw [hie]; exact findT_path hft.1)
  have hlr:c.length - 1=r.length:=by rw [← her,List.length_eraseIdx_of_lt hic]
  have hne:c≠[]:=fun h=>by subst h; simp at hic
  have hfc2:c.length≤1073741824:=hfc;refine acall_sub (cxe pl224s) [(13400,2000)] rfl tab_ok hm rfl Tryz.func337 (by kernel_rfl) rfl (Nz rfl) (by kernel_rfl) rfl ?_;refine Xi .pure (Xi _ (Yi (hc) ?_));refine Xi .pure (Xi _ (Yi (hi) ?_));refine Yi ?_ ?_
  ·intro h;have h:(i:Int)<0:=h;omega
  intro _;have hg:(c.map encTm)[((i:Nat):Int).toNat]?=some (encTm x):=by rw [Int.toNat_natCast,List.getElem?_map,h2]; rfl
  refine Xi (encTm x) (Yi (Yi (Nn i) hg) (Yi rfl (Yi (Nz rfl) ?_)));refine Xi c.length (Xi 3 (Xi (c.map encTm) (Yi rfl (Yi (c248a c hfc hne) ?_))));refine Yi (Ii i (by omega)) ?_;refine Xi (c.length - 1) (Xi ((c.eraseIdx i).map encTm) (Yi rfl (Yi (c247 c i hic) ?_)));refine Yi (Nz rfl) ?_;refine Yi (by kernel_rfl) ?_;refine Yi (Nz rfl) ?_;have e2:AV.tup [.agg (encTm x),.msl 2000 (c.length - 1),vb true]=.tup [.agg (encTm x),.msl 2000 r.length,vb true]:=by rw [hlr]
  have e3:heapOf [(2000,HO.arr 3 ((c.eraseIdx i).map encTm))] hfree=heapOf [(2000,.arr 3 (r.map encTm))] hfree:=by rw [her]
  exact Xi _ (Yi (.refl _) (Yi e2 e3))
end Go.Eng

namespace Go.Eng
open Go.Proofs
abbrev pl196:Pol:=⟨[],[],[],[],[],[],[],[],[],[(24,9),(30,12)],[2,3,5,6]⟩
abbrev resV (a b:List Tm) (p:ByteArray):AV:=.tup [sl encTm (resolveT a b p).1,vi (resolveT a b p).2]
theorem split_can {l r:List Tm} {p:ByteArray} {t:Tm} (h:splitT l p=some (t,r)):∃ c,canonT l=some c∧t ∈ c∧r=withoutT c p:=by
 unfold splitT at h;cases e:canonT l with
 | none=>rw [e] at h; cases h
 | some c =>
  rw [e] at h;have h:(match findT c p with | none=>none | some t=>some (t,withoutT c p))=some (t,r):=h;cases e2:findT c p with
  | none=>rw [e2] at h; cases h
  | some u=>rw [e2] at h; cases h; exact ⟨c,rfl,findT_mem e2,rfl⟩
theorem split_few {l r:List Tm} {p:ByteArray} {t:Tm} (hl:Few l) (h:splitT l p=some (t,r)):Few t.set∧Few r∧∀ u ∈ r,Few u.set:=by
 obtain ⟨c,h1,h2,rfl⟩:=split_can h;have hs:=canonT_sorted h1;refine ⟨few_can (hs.canon t h2),?_,fun u hu=>few_can (hs.canon u (List.mem_filter.1 hu).1)⟩
 have:=few_canon hl h1
 have h3:(withoutT c p).length≤c.length:=List.length_filter_le _ _;unfold Few at *; omega
theorem canT_len {l c:List Tm} (h:canonT l=some c):c.length≤l.length:=by
 have h1:=mergeM_len l l.length (Nat.le_refl _);rw [List.take_length] at h1;have h2:c=(mergeT l).filter fun t=>!alwaysT t:=by
  unfold canonT at h; split at h
  ·cases h
  ·exact (Option.some.inj h).symm
 have h3:c.length≤(mergeT l).length:=by rw [h2]; exact List.length_filter_le _ _
 have h4:(mergeT l).length=(mergeM l).length:=by
  have:=(List.perm_ext_iff_of_nodup (nodup_of_paths (mergeM_nodup l)) (nodup_of_paths (sorted_nodup (mergeT_sorted l)))).2 (mem_merge l)
  exact this.length_eq.symm
 omega
theorem split_len {l r:List Tm} {p:ByteArray} {t:Tm} (h:splitT l p=some (t,r)):r.length≤l.length:=by
 obtain ⟨c,h1,h2,rfl⟩:=split_can h;have h3:(withoutT c p).length≤c.length:=List.length_filter_le _ _
 have:=canT_len h1
 omega
theorem few_union (a b:SpanL):Few (union a b):=by
 unfold Few; have:=canon_len (union_canon a b); omega
theorem c196 (a b:List Tm) (p:ByteArray) (ha:a.length≤500000000) (hb:b.length≤500000000) (hsa:∀ t ∈ a,Few t.set) (hsb:∀ t ∈ b,Few t.set):PC 308 [sl encTm a,sl encTm b,vs p] (resV a b p):=by
 have hfa:Few a:=by unfold Few; omega
 have hfb:Few b:=by unfold Few; omega
 have er:∀ {l:List Tm} {e:Int},resolveT a b p=(l,e)→resV a b p=.tup [sl encTm l,vi e]:=fun h=>by unfold resV; rw [h]
 have e0:Sub (.tup [.v (.slice none 0 0),vi 1]) (.tup [.slice .none [],vi 1]):=Sub.tup ⟨.nil,.refl _,trivial⟩;cases h1:splitT a p with
 | none =>
  have hr:resolveT a b p=([],1):=by unfold resolveT; rw [h1]
  have c1:=c224n a p hfa hsa h1;cases h2:splitT b p with
  | none =>
   have c2:=c224n b p hfb hsb h2;refine Ps pl196 Tryz.func308 rfl (Nz rfl) ?_;refine Xi .pure (Xi _ (Yi (c1) ?_));refine Yi (Nz rfl) ?_;refine Xi ⟨[(1,sl encTm b),(2,vs p),(8,.ref 8 0),(9,.v (.slice none 0 0)),(10,vb false)],[(8,.cells zTmA)],hfree⟩ (Yi ⟨Z5,Z1,Fh,Tv⟩ ?_)
   refine Xi .pure (Xi _ (Yi (c2) ?_));refine Yi (Nz rfl) ?_;refine Xi ⟨[(8,.ref 8 0),(9,.v (.slice none 0 0)),(10,vb false),(11,.ref 11 0),(12,.v (.slice none 0 0)),(13,vb false)],[(8,.cells zTmA),(11,.cells zTmA)],hfree⟩ (Yi ⟨Z6,Z2,Fh,Tv⟩ ?_)
   exact e0.trans (.of_eq (er hr).symm)
  | some q2 =>
   obtain ⟨t2,r2⟩:=q2;have c2:=c224s b p hfb hsb h2;refine Ps pl196 Tryz.func308 rfl (Nz rfl) ?_;refine Xi .pure (Xi _ (Yi (c1) ?_));refine Yi (Nz rfl) ?_;refine Xi ⟨[(1,sl encTm b),(2,vs p),(8,.ref 8 0),(9,.v (.slice none 0 0)),(10,vb false)],[(8,.cells zTmA)],hfree⟩ (Yi ⟨Z5,Z1,Fh,Tv⟩ ?_)
   have z2:r2.length=(r2.map encTm).length:=by rw [Lm]
   refine Xi (.gen [] 1) (Yi rfl (c2.imp ?_));intro v2 g2 q2;have q21:=q2.1;have q22:=q2.2;subst q21;subst q22;refine Yi (Nz rfl) ?_;refine Xi ⟨[(8,.ref 8 0),(9,.v (.slice none 0 0)),(10,vb false),(11,.ref 11 0),(12,.msl 12600 r2.length),(13,vb true)],[(8,.cells zTmA),(11,.cells (encTm t2)),(12600,.arr 3 (r2.map encTm))],hfree⟩ (Yi ⟨Z6,Z3,Fh,Tv⟩ ?_)
   refine Yi z2 ?_;exact e0.trans (.of_eq (er hr).symm)
 | some q1 =>
  obtain ⟨t1,r1⟩:=q1;have c1:=c224s a p hfa hsa h1;obtain ⟨f1,f2,f3⟩:=split_few hfa h1;cases h2:splitT b p with
  | none =>
   have hr:resolveT a b p=([],1):=by unfold resolveT; rw [h1,h2]
   have c2:=c224n b p hfb hsb h2;refine Ps pl196 Tryz.func308 rfl (Nz rfl) ?_;refine Xi (.gen [] 1) (Yi rfl (c1.imp ?_));intro v1 g1 q1;have q11:=q1.1;have q12:=q1.2;subst q11;subst q12;refine Yi (Nz rfl) ?_;refine Xi ⟨[(1,sl encTm b),(2,vs p),(8,.ref 8 0),(9,.msl 11900 r1.length),(10,vb true)],[(8,.cells (encTm t1)),(11900,.arr 3 (r1.map encTm))],hfree⟩ (Yi ⟨Z5,Z2,Fh,Tv⟩ ?_)
   have z1:r1.length=(r1.map encTm).length:=by rw [Lm]
   refine Yi z1 ?_;refine Xi .pure (Xi _ (Yi (c2) ?_));refine Yi (Nz rfl) ?_;refine Xi ⟨[(8,.ref 8 0),(9,.slice (.id 11900 3) (r1.map encTm)),(10,vb true),(11,.ref 11 0),(12,.v (.slice none 0 0)),(13,vb false)],[(8,.cells (encTm t1)),(11,.cells zTmA),(11900,.tok 3 (r1.map encTm).length)],hfree⟩ (Yi ⟨Z6,Z3,Fh,Tv⟩ ?_)
   exact e0.trans (.of_eq (er hr).symm)
  | some q2 =>
   obtain ⟨t2,r2⟩:=q2;have c2:=c224s b p hfb hsb h2;obtain ⟨g1,g2,g3⟩:=split_few hfb h2;refine Ps pl196 Tryz.func308 rfl (Nz rfl) ?_;refine Xi (.gen [] 1) (Yi rfl (c1.imp ?_));intro v1 g1 q1;have q11:=q1.1;have q12:=q1.2;subst q11;subst q12;refine Yi (Nz rfl) ?_;refine Xi ⟨[(1,sl encTm b),(2,vs p),(8,.ref 8 0),(9,.msl 11900 r1.length),(10,vb true)],[(8,.cells (encTm t1)),(11900,.arr 3 (r1.map encTm))],hfree⟩ (Yi ⟨Z5,Z2,Fh,Tv⟩ ?_)
   have z1:r1.length=(r1.map encTm).length:=by rw [Lm]
   have z2:r2.length=(r2.map encTm).length:=by rw [Lm]
   refine Yi z1 ?_;refine Xi (.gen [] 1) (Yi rfl (c2.imp ?_));intro v2 g2 q2;have q21:=q2.1;have q22:=q2.2;subst q21;subst q22;refine Yi (Nz rfl) ?_;refine Xi ⟨[(8,.ref 8 0),(9,.slice (.id 11900 3) (r1.map encTm)),(10,vb true),(11,.ref 11 0),(12,.msl 12600 r2.length),(13,vb true)],[(8,.cells (encTm t1)),(11,.cells (encTm t2)),(11900,.tok 3 (r1.map encTm).length),(12600,.arr 3 (r2.map encTm))],hfree⟩ (Yi ⟨Z6,Z4,Fh,Tv⟩ ?_)
   refine Yi z2 ?_;refine Xi ⟨[(8,.ref 8 0),(9,.slice (.id 11900 3) (r1.map encTm)),(11,.ref 11 0),(12,.slice (.id 12600 3) (r2.map encTm))],[(8,.cells (encTm t1)),(11,.cells (encTm t2)),(11900,.tok 3 (r1.map encTm).length),(12600,.tok 3 (r2.map encTm).length)],hfree⟩ (Yi ⟨Z4,Z4,Fh,Tv⟩ ?_)
   have l1:=split_len h1;have l2:=split_len h2;have b1:AllLen 3 (r2.map encTm)∧(r1.map encTm).length=(r1.map encTm).length∧((r1.map encTm).length+(r2.map encTm).length)*48≤140737488355328∧(r1.map encTm).length+(r2.map encTm).length≤9223372036854775807 :=
    ⟨allLen_map (enc:=encTm) (n:=3) (fun _=>rfl) r2,rfl,by rw [Lm,Lm]; omega,by rw [Lm,Lm]; omega⟩
   refine Yi b1 ?_;refine Yi (Nz rfl) (Yi (Nz rfl) ?_);refine Xi _ (Yi (c225 t1 t2 f1 g1) ?_);have b2:AllLen 3 [encTm (eitherT t1 t2)]∧(r1.map encTm++r2.map encTm).length=(r1.map encTm).length+(r2.map encTm).length∧((r1.map encTm++r2.map encTm).length+[encTm (eitherT t1 t2)].length)*48≤140737488355328∧(r1.map encTm++r2.map encTm).length+[encTm (eitherT t1 t2)].length≤9223372036854775807 :=
    ⟨⟨rfl,trivial⟩,by rw [List.length_append],by rw [List.length_append,Lm,Lm,List.length_singleton]; omega,by rw [List.length_append,Lm,Lm,List.length_singleton]; omega⟩
   refine Yi b2 ?_;have hc0:=c29 (r1++r2++[eitherT t1 t2]) (by unfold Few; simp only [List.length_append,List.length_singleton]; omega) (fun u hu=>by
    rcases List.mem_append.1 hu with hu | hu
    ·rcases List.mem_append.1 hu with hu | hu
     ·exact f3 u hu
     ·exact g3 u hu
    ·rw [List.mem_singleton.1 hu]; exact few_union _ _)
   have e1:sl encTm (r1++r2++[eitherT t1 t2])=.slice .none (r1.map encTm++r2.map encTm++[encTm (eitherT t1 t2)]):=by simp
   have hc1:PC 30 [.slice .none (r1.map encTm++r2.map encTm++[encTm (eitherT t1 t2)])] (canRes (r1++r2++[eitherT t1 t2])):=e1▸hc0;cases hcn:canonT (r1++r2++[eitherT t1 t2]) with
   | none =>
    have hr:resolveT a b p=([],8):=by unfold resolveT; rw [h1,h2]; dsimp only; rw [hcn]
    have ec:canRes (r1++r2++[eitherT t1 t2])=.tup [sl encTm [],vb false]:=by unfold canRes ofT; rw [hcn]; rfl
    have hc:PC 30 [.slice .none (r1.map encTm++r2.map encTm++[encTm (eitherT t1 t2)])] (.tup [sl encTm [],vb false]):=ec▸hc1;have e8:Sub (.tup [.v (.slice none 0 0),vi 8]) (.tup [.slice .none [],vi 8]):=Sub.tup ⟨.nil,.refl _,trivial⟩;refine Xi _ (Yi (hc) ?_);refine Yi (by kernel_rfl) ?_;refine Xi ⟨[(14,sl encTm []),(15,vb false)],[],hfree⟩ (Yi ⟨Z2,Tv,Fh,Tv⟩ ?_)
    exact e8.trans (.of_eq (er hr).symm)
   | some o =>
    have hr:resolveT a b p=(o,0):=by unfold resolveT; rw [h1,h2]; dsimp only; rw [hcn]
    have ec:canRes (r1++r2++[eitherT t1 t2])=.tup [sl encTm o,vb true]:=by unfold canRes ofT; rw [hcn]; rfl
    have hc:PC 30 [.slice .none (r1.map encTm++r2.map encTm++[encTm (eitherT t1 t2)])] (.tup [sl encTm o,vb true]):=ec▸hc1;refine Xi _ (Yi (hc) ?_);refine Yi (by kernel_rfl) ?_;refine Xi ⟨[(14,sl encTm o),(15,vb true)],[],hfree⟩ (Yi ⟨Z2,Tv,Fh,Tv⟩ ?_)
    exact .of_eq (er hr).symm
end Go.Eng

namespace Go.Eng
open Go.Proofs
def extGo (h s:Nat→HO):Nat→Bool
 | 0=>true
 | n+1=>(match h (1000+n) with | .free=>true | _=>(match s (1000+n) with | .free=>false | _=>true))&&extGo h s n
theorem extGo_spec {h s:Nat→HO} : ∀ {n:Nat},extGo h s n=true→∀ j,j<n→h (1000+j)≠.free→s (1000+j)≠.free
 | n+1,hd,j,hj,hn=>by
  simp only [extGo,Bool.and_eq_true] at hd;rcases Nat.lt_or_ge j n with h1 | h1
  ·exact extGo_spec hd.2 j h1 hn
  ·have:j=n:=by omega
   subst this
   have:=hd.1
   intro e;split at this
   ·rename_i q; exact hn q
   ·rw [e] at this; cases this
theorem ext_dec {h s:Nat→HO} (hd:extGo h s 1000=true):∀ j,1000≤j→j<2000→h j≠.free→s j≠.free:=fun j h1 h2=>by
 have:=extGo_spec hd (j - 1000) (by omega)
 rw [show 1000+(j - 1000)=j by omega] at this;exact this
abbrev ckC (x:List Rl) (ifs:List (List AV)) (roots:List Rq) (d:List (List Tm)):List AV:=[sl encRl x,.slice .none ifs,sl encRq roots,.slice (.id 1001 1) (d.map encInc)]
abbrev ckO (x:List Rl) (ifs:List (List AV)) (roots:List Rq) (d:List (List Tm)):HO:=.cells (ckC x ifs roots d)
abbrev tkO (d:List (List Tm)):HO:=.tok 1 (d.map encInc).length
abbrev ckH (x:List Rl) (ifs:List (List AV)) (roots:List Rq) (d:List (List Tm)):List (Nat × HO):=[(1000,ckO x ifs roots d),(1001,tkO d)]
abbrev zRl:List AV:=[vs ⟨#[]⟩,vi 0,vi 0,vi 0,.v (.slice none 0 0),vs ⟨#[]⟩,vs ⟨#[]⟩,vs ⟨#[]⟩,vb false]
abbrev optRl:Option Rl→AV
 | some r=>.tup [.agg (encRl r),vb true]
 | none=>.tup [.agg zRl,vb false]
theorem find_hit {α:Type} {p:α→Bool} {l:List α} {i:Nat} (hi:i<l.length) (hb:∀ j (hj:j<l.length),j<i→p l[j]=false) (h:p l[i]=true):l.find? p=some l[i]:=by
 rw [List.find?_eq_some_iff_getElem];exact ⟨h,i,hi,rfl,fun j hj=>by rw [hb j (by omega) hj]; rfl⟩
theorem find_miss {α:Type} {p:α→Bool} {l:List α} (hb:∀ j (hj:j<l.length),p l[j]=false):l.find? p=none:=by
 rw [List.find?_eq_none];intro x hx;obtain ⟨j,hj,rfl⟩:=List.getElem_of_mem hx;rw [hb j hj]; decide
theorem c192 (x:List Rl) (ifs:List (List AV)) (roots:List Rq) (d:List (List Tm)) (p:ByteArray) (pl:Int) (hx:Few x) :
  ACall Tryz.prog 304 [.ref 1000 0,vs p,vi pl] (heapOf (ckH x ifs roots d) hfree) fun r h'=>r=optRl (releaseP x p pl)∧h'=heapOf (ckH x ifs roots d) hfree:=by
 unfold Few at hx;refine acall_sub (cxe (plcut [4])) [(1000,1000),(1001,1001)] rfl tab_ok hm rfl Tryz.func304 (by kernel_rfl) rfl (Nz rfl) (by kernel_rfl) rfl ?_;refine Xi {i:Nat // i≤x.length∧∀ j (hj:j<x.length),j<i→(decide (x[j].path=p)&&decide (plc x[j].ver=pl))=false} (Xi (fun i=>⟨[(1,vs p),(2,vi pl),(6,.ref 6 0),(16,sl encRl x),(17,vi (x.map encRl).length),(18,vi i.1)],[(6,.cells zRl),(1000,ckO x ifs roots d),(1001,tkO d)],hfree⟩) (Xi (fun i=>x.length - i.1) (Yi (Xi ⟨0,Nat.zero_le _,fun j _ h=>by omega⟩ ?_) ?_)))
 ·exact ⟨Z6,Z3,Fh,ext_dec (by kernel_rfl)⟩
 intro ⟨i,h1,h2⟩;refine Yi ?_ ?_
 ·intro h;have h:(i:Int)<(x.map encRl).length:=h;have h:i<x.length:=by simpa using h
  have hg:x[i]?=some x[i]:=Ge h;refine Xi (encRl x[i]) (Yi (Yi (Nn i) (by simp [hg])) (Yi rfl ?_));refine Yi (Nz rfl) (Yi (Nz rfl) ?_);refine Xi ⟨[(1,vs p),(2,vi pl),(6,.ref 6 0),(9,.ref 9 0),(16,sl encRl x),(17,vi (x.map encRl).length),(18,vi i)],[(6,.cells zRl),(9,.cells (encRl x[i])),(1000,ckO x ifs roots d),(1001,tkO d)],hfree⟩ (Yi ⟨Z7,Z4,Fh,ext_dec (by kernel_rfl)⟩ ?_)
  refine Yi (Nz rfl) ?_;refine Xi .pure (Xi _ (Yi (c56 x[i].ver) ?_));have next:(decide (x[i].path=p)&&decide (plc x[i].ver=pl))=false→∀ j (hj:j<x.length),j<i+1→(decide (x[j].path=p)&&decide (plc x[j].ver=pl))=false:=fun hf j hj hji=>by
   rcases Nat.lt_or_ge j i with q | q
   ·exact h2 j hj q
   ·have:j=i:=by omega
    subst this; exact hf
  refine Yi ?_ ?_
  ·intro hp;have hp:x[i].path=p:=hp;refine Yi ?_ ?_
   ·intro hq;have hq:plc x[i].ver=pl:=hq;have hr:releaseP x p pl=some x[i]:=find_hit h (fun j hj hji=>h2 j hj hji) (by rw [decide_eq_true hp,decide_eq_true hq]; rfl);refine Yi (Nz rfl) (Yi (Nz rfl) (Yi (Nz rfl) ?_));have e:AV.tup [.agg (encRl x[i]),vb true]=optRl (releaseP x p pl):=by rw [hr]
    exact Xi _ (Yi (.refl _) (Yi e rfl))
   ·intro hq;have hq:¬ plc x[i].ver=pl:=hq;refine Yi (Ii i (by omega)) ?_;refine Xi ⟨i+1,by omega,next (by rw [decide_eq_false hq,Bool.and_false])⟩ ?_
    exact ⟨Dl x.length i (by omega),Z6,Z3,Fh,ext_dec (by kernel_rfl)⟩
  ·intro hp;have hp:¬ x[i].path=p:=hp;refine Yi (Ii i (by omega)) ?_;refine Xi ⟨i+1,by omega,next (by rw [decide_eq_false hp,Bool.false_and])⟩ ?_
   exact ⟨Dl x.length i (by omega),Z6,Z3,Fh,ext_dec (by kernel_rfl)⟩
 ·intro h;have h:¬ (i:Int)<(x.map encRl).length:=h;have h:¬ i<x.length:=by simpa using h
  have hr:releaseP x p pl=none:=find_miss fun j hj=>h2 j hj (by omega);have e:AV.tup [.agg zRl,vb false]=optRl (releaseP x p pl):=by rw [hr]
  refine Yi (Nz rfl) (Yi (Nz rfl) ?_);exact Xi _ (Yi (.refl _) (Yi e rfl))
end Go.Eng

namespace Go.Eng
open Go.Proofs
abbrev incV:Option (List Tm)→AV
 | some t=>.tup [sl encTm t,vb true]
 | none=>.tup [sl encTm [],vb false]
theorem nilInc:Sub (.tup [.v (.slice none 0 0),vb false]) (incV none):=Sub.tup ⟨.nil,.refl _,trivial⟩
theorem nthZ_neg {α:Type} {l:List α} {i:Int} (h:i<0):nthZ l i=none:=by unfold nthZ; rw [if_pos h]
theorem nthZ_big {α:Type} {l:List α} {i:Int} (h:(l.length:Int)≤i):nthZ l i=none:=by
 unfold nthZ; rw [if_neg (by omega),List.getElem?_eq_none (by omega)]
theorem nthZ_at {α:Type} {l:List α} {i:Int} (h0:¬ i<0) (h:¬ (l.length:Int)≤i):∃ x,nthZ l i=some x∧l[i.toNat]?=some x∧x ∈ l:=by
 have hl:i.toNat<l.length:=by omega
 exact ⟨l[i.toNat],by unfold nthZ; rw [if_neg h0,Ge hl],Ge hl,List.getElem_mem hl⟩
theorem c161 (x:List Rl) (ifs:List (List AV)) (roots:List Rq) (d:List (List Tm)) (i:Nf) (hr:∀ q ∈ roots,Few q.set) :
  ACall Tryz.prog 250 [.ref 1000 0,.agg (encNf i)] (heapOf (ckH x ifs roots d) hfree) fun r h'=>r=incV ((nthZ roots i.number).map rootT)∧h'=heapOf (ckH x ifs roots d) hfree:=by
 refine acall_sub (cxe pl0) [(1000,1000),(1001,1001)] rfl tab_ok hm rfl Tryz.func250 (by kernel_rfl) rfl (Nz rfl) (by kernel_rfl) rfl ?_;have miss:nthZ roots i.number=none→AV.tup [sl encTm [],vb false]=incV ((nthZ roots i.number).map rootT):=fun h=>by rw [h]; rfl
 refine Yi ?_ ?_
 ·intro h;have h:i.number<0:=h;have e:=miss (nthZ_neg h);refine Yi (by kernel_rfl) ?_;exact Xi _ (Yi nilInc (Yi e rfl))
 ·intro h;have h:¬ i.number<0:=h;refine Yi ?_ ?_
  ·intro h2;have h2:((roots.map encRq).length:Int)≤i.number:=h2;have e:=miss (nthZ_big (by rw [Lm] at h2; exact h2));refine Yi (by kernel_rfl) ?_;exact Xi _ (Yi nilInc (Yi e rfl))
  ·intro h2;have h2:¬ ((roots.map encRq).length:Int)≤i.number:=h2;refine Yi (by kernel_rfl) ?_;refine Exists.elim (nthZ_at h (by rw [Lm] at h2; exact h2)) (fun q hq=>?_);have hg:(roots.map encRq)[i.number.toNat]?=some (encRq q):=map_at hq.2.1;refine Xi (encRq q) (Yi (Yi (by show (0:Int)≤i.number; omega) hg) (Yi rfl (Yi (Nz rfl) ?_)));refine Xi _ (Yi (c191 q (hr q hq.2.2)) ?_);refine Yi (by kernel_rfl) ?_;have e:AV.tup [sl encTm (rootT q),vb true]=incV ((nthZ roots i.number).map rootT):=by rw [hq.1]; rfl
   exact Xi _ (Yi (.refl _) (Yi e rfl))
end Go.Eng

namespace Go.Eng
open Go.Proofs
theorem plc_rng (v:Ver):0≤plc v∧plc v<1000000:=by
 unfold plc;cases h:validB v with
 | true=>exact place_in h
 | false=>simp
theorem rel_some {x:List Rl} {p:ByteArray} {pl:Int} {r:Rl} (h:releaseP x p pl=some r):r ∈ x∧r.path=p∧plc r.ver=pl:=by
 unfold releaseP at h;have h1:=List.find?_some h;simp only [Bool.and_eq_true,decide_eq_true_eq] at h1;exact ⟨List.mem_of_find?_eq_some h,h1.1,h1.2⟩
theorem ne0_nil {l:List Tm} (h:¬ (0:Int)<(l.map encTm).length):AV.tup [sl encTm l,vb false]=incV (ne0 l):=by
 cases l with
 | nil=>rfl
 | cons a l=>exact absurd (by rw [Lm,List.length_cons]; omega) h
theorem ne0_cons {l:List Tm} (h:(0:Int)<(l.map encTm).length):AV.tup [sl encTm l,vb true]=incV (ne0 l):=by
 cases l with
 | nil=>exact absurd h (by decide)
 | cons a l=>rfl
abbrev reqV (x:List Rl) (i:Nf):Option (List Tm):=match releaseP x i.path i.place with
 | none=>none
 | some r=>match nthZ r.reqs i.number with
  | none=>none
  | some q=>ne0 (requiresT i.path i.place q)
theorem c163 (x:List Rl) (ifs:List (List AV)) (roots:List Rq) (d:List (List Tm)) (i:Nf) (hx:Few x) (hr:∀ r ∈ x,∀ q ∈ r.reqs,Few q.set) :
  ACall Tryz.prog 252 [.ref 1000 0,.agg (encNf i)] (heapOf (ckH x ifs roots d) hfree) fun r h'=>r=incV (reqV x i)∧h'=heapOf (ckH x ifs roots d) hfree:=by
 have hc:=c192 x ifs roots d i.path i.place hx;cases h1:releaseP x i.path i.place with
 | none =>
  rw [h1] at hc;have e:AV.tup [sl encTm [],vb false]=incV (reqV x i):=by unfold reqV; rw [h1]
  refine acall_sub (cxe (plcut [2])) [(1000,1000),(1001,1001)] rfl tab_ok hm rfl Tryz.func252 (by kernel_rfl) rfl (Nz rfl) (by kernel_rfl) rfl ?_;refine Xi (.gen [(1000,1000),(1001,1001)] 0) (Yi rfl (hc.imp ?_));intro v1 g1 q1;have q11:=q1.1;have q12:=q1.2;subst q11;subst q12;refine Yi (Nz rfl) ?_;refine Xi ⟨[(0,.ref 1000 0),(3,.ref 3 0),(6,.ref 6 0),(7,vb false)],[(3,.cells (encNf i)),(6,.cells zRl),(1000,ckO x ifs roots d),(1001,tkO d)],hfree⟩ (Yi ⟨Z4,Z4,Fh,ext_dec (by kernel_rfl)⟩ ?_)
  exact Xi _ (Yi nilInc (Yi e rfl))
 | some r =>
  rw [h1] at hc;obtain ⟨m1,m2,m3⟩:=rel_some h1;have hpl:=plc_rng r.ver;rw [m3] at hpl;have er:reqV x i=match nthZ r.reqs i.number with | none=>none | some q=>ne0 (requiresT i.path i.place q):=by unfold reqV; rw [h1]
  have miss:nthZ r.reqs i.number=none→AV.tup [sl encTm [],vb false]=incV (reqV x i):=fun h=>by rw [er,h]
  refine acall_sub (cxe (plcut [2,4,5])) [(1000,1000),(1001,1001)] rfl tab_ok hm rfl Tryz.func252 (by kernel_rfl) rfl (Nz rfl) (by kernel_rfl) rfl ?_;refine Xi (.gen [(1000,1000),(1001,1001)] 0) (Yi rfl (hc.imp ?_));intro v1 g1 q1;have q11:=q1.1;have q12:=q1.2;subst q11;subst q12;refine Yi (Nz rfl) ?_;refine Xi ⟨[(0,.ref 1000 0),(3,.ref 3 0),(6,.ref 6 0),(7,vb true)],[(3,.cells (encNf i)),(6,.cells (encRl r)),(1000,ckO x ifs roots d),(1001,tkO d)],hfree⟩ (Yi ⟨Z4,Z4,Fh,ext_dec (by kernel_rfl)⟩ ?_)
  refine Yi ?_ ?_
  ·intro h;have h:i.number<0:=h;have e:=miss (nthZ_neg h);exact Xi _ (Yi nilInc (Yi e rfl))
  ·intro h;have h:¬ i.number<0:=h;refine Yi ?_ ?_
   ·intro h2;have h2:((r.reqs.map encRq).length:Int)≤i.number:=h2;have e:=miss (nthZ_big (by rw [Lm] at h2; exact h2));exact Xi _ (Yi nilInc (Yi e rfl))
   ·intro h2;have h2:¬ ((r.reqs.map encRq).length:Int)≤i.number:=h2;refine Exists.elim (nthZ_at h (by rw [Lm] at h2; exact h2)) (fun q hq=>?_);have hg:(r.reqs.map encRq)[i.number.toNat]?=some (encRq q):=map_at hq.2.1;refine Xi ⟨[(3,.ref 3 0),(6,.ref 6 0)],[(3,.cells (encNf i)),(6,.cells (encRl r)),(1000,ckO x ifs roots d),(1001,tkO d)],hfree⟩ (Yi ⟨Z2,Z4,Fh,ext_dec (by kernel_rfl)⟩ ?_)
    refine Xi (encRq q) (Yi (Yi (by show (0:Int)≤i.number; omega) hg) (Yi rfl (Yi (Nz rfl) ?_)));refine Xi _ (Yi (c193 i.path i.place q (by unfold InI64; omega) (hr r m1 q hq.2.2)) ?_);refine Yi (by kernel_rfl) ?_;have eq:reqV x i=ne0 (requiresT i.path i.place q):=by rw [er,hq.1]
    refine Xi ⟨[(8,sl encTm (requiresT i.path i.place q))],[(1000,ckO x ifs roots d),(1001,tkO d)],hfree⟩ (Yi ⟨Z1,Z2,Fh,ext_dec (by kernel_rfl)⟩ ?_)
    refine Yi ?_ ?_
    ·intro h3;have h3:(0:Int)<((requiresT i.path i.place q).map encTm).length:=h3;have e:AV.tup [sl encTm (requiresT i.path i.place q),vb true]=incV (reqV x i):=by rw [eq]; exact ne0_cons h3
     exact Xi _ (Yi (.refl _) (Yi e rfl))
    ·intro h3;have h3:¬ (0:Int)<((requiresT i.path i.place q).map encTm).length:=h3;have e:AV.tup [sl encTm (requiresT i.path i.place q),vb false]=incV (reqV x i):=by rw [eq]; exact ne0_nil h3
     exact Xi _ (Yi (.refl _) (Yi e rfl))
end Go.Eng

namespace Go.Eng
open Go.Proofs
abbrev FewI (t:List Tm):Prop:=t.length≤500000000∧∀ u ∈ t,Few u.set
theorem res_err {a b:List Tm} {p:ByteArray} (h:(resolveT a b p).2≠0):(resolveT a b p).1=[]:=by
 unfold resolveT at h ⊢;split at h
 ·split at h
  ·exact absurd rfl h
  ·rfl
 ·rfl
abbrev resI (d:List (List Tm)) (i:Nf):Option (List Tm):=match nthZ d i.left,nthZ d i.right with
 | some a,some b=>if (resolveT a b i.path).2=0 then some (resolveT a b i.path).1 else none
 | _,_=>none
theorem resI_l {d:List (List Tm)} {i:Nf} (h:nthZ d i.left=none):resI d i=none:=by unfold resI; rw [h]
theorem resI_r {d:List (List Tm)} {i:Nf} (h:nthZ d i.right=none):resI d i=none:=by unfold resI; rw [h]; split <;> first | rfl | (rename_i e; cases e)
theorem c167 (x:List Rl) (ifs:List (List AV)) (roots:List Rq) (d:List (List Tm)) (i:Nf) (hi:∀ t ∈ d,FewI t) :
  ACall Tryz.prog 256 [.ref 1000 0,.agg (encNf i)] (heapOf (ckH x ifs roots d) hfree) fun r h'=>r=incV (resI d i)∧h'=heapOf (ckH x ifs roots d) hfree:=by
 have miss:resI d i=none→AV.tup [sl encTm [],vb false]=incV (resI d i):=fun h=>by rw [h]
 refine acall_sub (cxe (plcut [2,4,5])) [(1000,1000),(1001,1001)] rfl tab_ok hm rfl Tryz.func256 (by kernel_rfl) rfl (Nz rfl) (by kernel_rfl) rfl ?_;refine Xi ⟨[(0,.ref 1000 0),(3,.ref 3 0),(6,vi (d.map encInc).length)],[(3,.cells (encNf i)),(1000,ckO x ifs roots d),(1001,tkO d)],hfree⟩ (Yi ⟨Z3,Z3,Fh,ext_dec (by kernel_rfl)⟩ ?_)
 refine Yi ?_ ?_
 ·intro h;have h:i.left<0:=h;have e:=miss (resI_l (nthZ_neg h));exact Xi _ (Yi nilInc (Yi e rfl))
 intro h;have h:¬ i.left<0:=h;refine Yi ?_ ?_
 ·intro h2;have h2:((d.map encInc).length:Int)≤i.left:=h2;have e:=miss (resI_l (nthZ_big (by rw [Lm] at h2; exact h2)));exact Xi _ (Yi nilInc (Yi e rfl))
 intro h2;have h2:¬ ((d.map encInc).length:Int)≤i.left:=h2;refine Yi ?_ ?_
 ·intro h3;have h3:i.right<0:=h3;have e:=miss (resI_r (nthZ_neg h3));exact Xi _ (Yi nilInc (Yi e rfl))
 intro h3;have h3:¬ i.right<0:=h3;refine Yi ?_ ?_
 ·intro h4;have h4:((d.map encInc).length:Int)≤i.right:=h4;have e:=miss (resI_r (nthZ_big (by rw [Lm] at h4; exact h4)));exact Xi _ (Yi nilInc (Yi e rfl))
 intro h4;have h4:¬ ((d.map encInc).length:Int)≤i.right:=h4;refine Exists.elim (nthZ_at h (by rw [Lm] at h2; exact h2)) (fun a ha=>?_);refine Exists.elim (nthZ_at h3 (by rw [Lm] at h4; exact h4)) (fun b hb=>?_);have ga:(d.map encInc)[i.left.toNat]?=some (encInc a):=map_at ha.2.1;have gb:(d.map encInc)[i.right.toNat]?=some (encInc b):=map_at hb.2.1;have hfa:=hi a ha.2.2;have hfb:=hi b hb.2.2;have hc:=c196 a b i.path hfa.1 hfb.1 hfa.2 hfb.2;have er:resI d i=if (resolveT a b i.path).2=0 then some (resolveT a b i.path).1 else none:=by unfold resI; rw [ha.1,hb.1]
 refine Xi ⟨[(0,.ref 1000 0),(3,.ref 3 0)],[(3,.cells (encNf i)),(1000,ckO x ifs roots d),(1001,tkO d)],hfree⟩ (Yi ⟨Z2,Z3,Fh,ext_dec (by kernel_rfl)⟩ ?_)
 refine Xi (encInc a) (Yi (Yi (by show (0:Int)≤i.left; omega) ga) (Yi rfl ?_));refine Xi (encInc b) (Yi (Yi (by show (0:Int)≤i.right; omega) gb) (Yi rfl ?_));refine Xi _ (Yi (hc) ?_);refine Yi (by kernel_rfl) ?_;refine Xi ⟨[(7,sl encTm (resolveT a b i.path).1),(8,vi (resolveT a b i.path).2)],[(1000,ckO x ifs roots d),(1001,tkO d)],hfree⟩ (Yi ⟨Z2,Z2,Fh,ext_dec (by kernel_rfl)⟩ ?_)
 refine Yi ?_ ?_
 ·intro h5;have h5:(resolveT a b i.path).2=0:=h5;have e:AV.tup [sl encTm (resolveT a b i.path).1,vb true]=incV (resI d i):=by rw [er,if_pos h5]
  exact Xi _ (Yi (.refl _) (Yi e rfl))
 ·intro h5;have h5:¬ (resolveT a b i.path).2=0:=h5;have e:AV.tup [sl encTm (resolveT a b i.path).1,vb false]=incV (resI d i):=by rw [er,if_neg h5,res_err h5]
  exact Xi _ (Yi (.refl _) (Yi e rfl))
end Go.Eng

namespace Go.Eng
open Go.Proofs
theorem c160 (i:Nf):PC 249 [.agg (encNf i)] (.agg (encNf { i with number:=0 })):=by
 refine Ps pl0 Tryz.func249 rfl (Nz rfl) ?_;refine Yi (Nz rfl) (Yi (Nz rfl) (Yi (Nz rfl) (Yi (Nz rfl) ?_)));exact .refl _
theorem c162 (i:Nf):PC 251 [.agg (encNf i)] (.agg (encNf { i with path:=mt,place:=0,number:=0 })):=by
 refine Ps pl0 Tryz.func251 rfl (Nz rfl) ?_;refine Yi (Nz rfl) (Yi (Nz rfl) (Yi (Nz rfl) (Yi (Nz rfl) (Yi (Nz rfl) (Yi (Nz rfl) ?_)))));exact .refl _
theorem c164 (i:Nf):PC 253 [.agg (encNf i)] (.agg (encNf { i with path:=mt })):=by
 refine Ps pl0 Tryz.func253 rfl (Nz rfl) ?_;refine Yi (Nz rfl) (Yi (Nz rfl) (Yi (Nz rfl) (Yi (Nz rfl) ?_)));exact .refl _
theorem c166 (i:Nf):PC 255 [.agg (encNf i)] (.agg (encNf { i with path:=mt,left:=0,right:=0 })):=by
 refine Ps pl0 Tryz.func255 rfl (Nz rfl) ?_;refine Yi (Nz rfl) (Yi (Nz rfl) (Yi (Nz rfl) (Yi (Nz rfl) (Yi (Nz rfl) (Yi (Nz rfl) ?_)))));exact .refl _
theorem c111:PC 182 [] (.agg [.v (fnV 249),.v (fnV 250),.v (fnV 251),.v (fnV 252),.v (fnV 253),.v (fnV 254),.v (fnV 255),.v (fnV 256)]):=by
 refine Ps pl0 Tryz.func182 rfl (Nz rfl) ?_;refine Yi (Nz rfl) (Yi (Nz rfl) ?_);exact .refl _
end Go.Eng
