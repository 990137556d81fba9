/- Lemmas for the claims of this seat, without a condition: part 19 (C25, C26, C27, C28, C29, C30, C31, C32, C33, C34, C35, C36, C37, C38). -/
import Derived.Test.YtkmnnpmneamgoaaGreatDoorA18
import Derived.Shelf.Slices.Delete
namespace Go.Eng
open Go.Proofs Go.Shelf Go.RowKit Go.Lib Go.Sort
theorem lay_eq (F:Array Value) (i n:Nat) (hF:F.size=n*3) (hi:i<n) (z:List Value) (hz:z.length=3):(lay (lay F (i*3) (F.toList.drop ((i+1)*3))) ((n - 1)*3) z).toList=F.toList.take (i*3)++F.toList.drop ((i+1)*3)++z:=by
 have l1:(F.toList.take (i*3)).length=i*3:=by simp; omega
 have l2:(F.toList.drop ((i+1)*3)).length=(n - (i+1))*3:=by simp; omega
 apply List.ext_getElem?
 intro t
 rw [Array.getElem?_toList,lay_get? _ _ _ _ (by rw [Lib.lay_size]; omega),lay_get? _ _ _ _ (by rw [l2]; omega)]
 rw [hz,l2]
 by_cases c1:t<i*3
 ·rw [if_neg (by omega),if_neg (by omega),List.getElem?_append_left (by rw [List.length_append]; omega),List.getElem?_append_left (by omega),List.getElem?_take,if_pos c1,Array.getElem?_toList]
 ·by_cases c2:t<(n - 1)*3
  ·rw [if_neg (by omega),if_pos (by omega),List.getElem?_append_left (by rw [List.length_append]; omega),List.getElem?_append_right (by omega),l1]
  ·rw [List.getElem?_append_right (by rw [List.length_append]; omega),List.length_append,l1,l2]
   by_cases c3:t<n*3
   ·rw [if_pos (by omega)]; congr 1; omega
   ·rw [if_neg (by omega),if_neg (by omega),Array.getElem?_eq_none (by omega),List.getElem?_eq_none (by omega)]
abbrev zTm:List Value:=[.string ⟨#[]⟩,.bool false,.slice none 0 0]
set_option maxHeartbeats 4000000 in
set_option maxRecDepth 1000000 in
theorem del_walk (w:World) (b cap i n:Nat) (F:Array Value) (hF:F.size=n*3) (hi:i<n) (hcap:n≤cap) (hH:Holds id w b 0 F) (h1:∀ x ∈ F.toList,x.oneCell'=true) :
  Calls Tryz.prog 225 #[.slice (some ⟨b,0,none⟩) n cap,.int .i64 i,.int .i64 ((i:Int)+1)] w fun e w'=>e=.returned (.slice (some ⟨b,0,none⟩) (n - 1) cap) ∧
   w'=putRow id (Sort.ahead w 1) b 0 (lay (lay F (i*3) (F.toList.drop ((i+1)*3))) ((n - 1)*3) zTm):=by
 obtain ⟨i0,hi0,hz0⟩ : ∃ i0,Tryz.prog.info? 208=some i0∧i0.size=3:=by
  obtain ⟨i,z,h1,_,h2,_⟩:=append_facts (P:=Tryz.prog) (T:=tab) tab_ok (e:=208) (n:=2) (by kernel_rfl)
  exact ⟨i,h1,h2.trans (by kernel_rfl)⟩
 obtain ⟨news,hnews⟩ : ∃ news,news=F.toList.drop ((i+1)*3):=⟨_,rfl⟩
 have hlen:news.length=(n - (i+1))*3:=by rw [hnews]; simp; omega
 have hget:∀ t,t<(n - (i+1))*3→news[t]?=some F[(i+1)*3+t]!:=by
  intro t ht
  rw [hnews,List.getElem?_drop,Array.getElem?_toList,getElem!_pos F ((i+1)*3+t) (by omega),Array.getElem?_eq_getElem (by omega)]
 obtain ⟨A,hA,hsrc⟩ : ∃ A:Addr,(if cap=i+1 then some (⟨b,0,none⟩ : Addr) else some ⟨b,(i+1)*3,none⟩)=some A∧Hid (∀ t u,news[t]?=some u→w.drew.cell? (A.add t)=some u):=by
  by_cases h:cap=i+1
  ·refine ⟨⟨b,0,none⟩,by simp [h],fun t u hu=>?_⟩
   have h0:news.length=0:=by rw [hlen]; omega
   rw [List.length_eq_zero_iff.1 h0] at hu
   simp at hu
  ·refine ⟨⟨b,(i+1)*3,none⟩,by simp [h],fun t u hu=>?_⟩
   have ht:t<(n - (i+1))*3:=by
    have:=(List.getElem?_eq_some_iff.1 hu).1
    rwa [hlen] at this
   rw [hget t ht] at hu
   rw [Addr.add_lit]
   have:=(hH ((i+1)*3+t) (by omega)).1
   rw [Nat.zero_add] at this
   exact this.trans hu
 have s1:Hid (news.length=(n - (i+1))*3):=hlen
 have s2:Hid (∀ u ∈ news,u.oneCell'=true):=by
  intro u hu
  rw [hnews] at hu
  exact h1 u (List.mem_of_mem_drop hu)
 have s3:Hid (∀ t,t<news.length→(w.drew.cell? ⟨b,0+i*3+t,none⟩).isSome=true∧w.drew.frozen? ⟨b,0+i*3+t,none⟩=false):=by
  intro t ht
  rw [hlen] at ht
  have:=hH (i*3+t) (by omega)
  rw [Nat.add_assoc]
  exact ⟨by show (w.cell? _).isSome=true; rw [this.1]; rfl,this.2⟩
 obtain ⟨W1,hW1⟩ : ∃ W1,W1=w.drew.setCells b (0+i*3) news:=⟨_,rfl⟩
 have hW1' : W1=putRow id (Sort.ahead w 1) b 0 (lay F (i*3) news):=by
  have:=putRow_setCells id (Sort.ahead w 1) b 0 news F (i*3) (by omega)
  rw [putRow_self id (Sort.ahead w 1) b 0 F (holds_ahead id w 1 b 0 F hH),List.map_id] at this
  rw [hW1,← this]
  rfl
 have hH1:Holds id W1 b 0 (lay F (i*3) news):=by rw [hW1']; exact holds_putRow id _ b 0 F _ (holds_ahead id w 1 b 0 F hH) (Lib.lay_size _ _ _)
 have hst:(storeCells ⟨b,0+(n - 1)*3,none⟩ zTm 0).run Tryz.prog W1=.ok () (W1.setCells b (0+(n - 1)*3) zTm):=by
  have:=run_storeCells_cells (P:=Tryz.prog) b (0+(n - 1)*3) zTm 0 W1 (fun j hj=>by
   have hj:j<3:=hj
   have:=hH1 ((n - 1)*3+j) (by rw [Lib.lay_size]; omega)
   rw [show 0+(n - 1)*3+0+j=0+((n - 1)*3+j) by omega,this.1]; rfl) (fun j hj=>by
   have hj:j<3:=hj
   have:=hH1 ((n - 1)*3+j) (by rw [Lib.lay_size]; omega)
   rw [show 0+(n - 1)*3+0+j=0+((n - 1)*3+j) by omega]; exact this.2) (fun v hv=>by
   simp only [List.mem_cons,List.mem_nil_iff,or_false] at hv
   rcases hv with rfl | rfl | rfl <;> rfl)
  exact this
 have hcl:∀ ty c,(Builtin.clear_ #[149] ty #[.slice (some ⟨b,(n - 1)*3,none⟩) 1 c]).run Tryz.prog W1=.ok (.tuple #[]) (W1.setCells b (0+(n - 1)*3) zTm):=fun ty c=>by
  have hv:=Tryz.zeroValue208
  rw [Nat.zero_add] at hst ⊢
  have hz:(Builtin.zeroCells (Value.agg #[Value.string { data:=#[] },Value.bool false,Value.slice none 0 0]).cells 1).toList=zTm:=by kernel_rfl
  simp [Builtin.clear_,run_underlying Tryz.underlying149,hv,hz,hst]
 have hcl2:∀ ty,(Builtin.clear_ #[149] ty #[.slice (some ⟨b,(i+(n - (i+1)))*3,none⟩) (n - (i+(n - (i+1)))) (cap - (i+(n - (i+1))))]).run Tryz.prog W1=.ok (.tuple #[]) (W1.setCells b (0+(n - 1)*3) zTm):=fun ty=>by
  have e1:i+(n - (i+1))=n - 1:=by omega
  have e2:n - (n - 1)=1:=by omega
  rw [e1,e2]; exact hcl ty _
 have X:Aside (W1=putRow id (Sort.ahead w 1) b 0 (lay F (i*3) news)):=hW1'
 have hW:Hid (W1=w.drew.setCells b (0+i*3) news):=hW1
 have Y:Aside (news=F.toList.drop ((i+1)*3)):=hnews
 have Z:Aside (news.length=(n - (i+1))*3):=hlen
 have hic:i≤cap:=by omega
 have hjc:i+1≤cap:=by omega
 have mixed:=Go.Eng.hm
 have hb1:(0:Int)≤(i:Int)+1:=by omega
 have hb2:(i:Int)+1≤(n:Int):=by omega
 clear hW1 hW1' hH1 hH hget hnews hlen hst hcl
 go_enter Tryz.func225,Tryz.ntmps225
 go_wp2_with fail
 go_region_law_o (refine step_append_room rfl (.tmp 22) (.tmp 25) 149 rfl 208 i0 3 Tryz.underlying149 hi0 hz0 b 0 i cap (by simp [Act.eval,Act.put]) A (n - (i+1)) (cap - (i+1)) news (by simp [Act.eval,Act.put]) s1.out hsrc.out s2.out (by omega) s3.out ?_; rw [← hW.out])
 go_wp2
 go_ret
 refine ⟨by rw [show i+(n - (i+1))=n - 1 by omega]; rfl,?_⟩
 rw [X.out]
 have e1:=Y.out
 have e2:=Z.out
 rw [← e1]
 have:=putRow_setCells id (Sort.ahead w 1) b 0 zTm (lay F (i*3) news) ((n - 1)*3) (by rw [Lib.lay_size]; show _+3≤_; omega)
 rw [List.map_id,Nat.zero_add] at this
 exact this
abbrev zTmA:List AV:=[Go.Eng.vs ⟨#[]⟩,vb false,.v (.slice none 0 0)]
theorem c247 (l:List Tm) (i:Nat) (hi:i<l.length) :
  ACall Tryz.prog 225 [.msl 1000 l.length,vi i,vi ((i:Int)+1)] (heapOf [(1000,.arr 3 (l.map encTm))] hfree) fun r h'=>r=.msl 2000 (l.length - 1)∧h'=heapOf [(1000,.dead),(2000,.arr 3 ((l.eraseIdx i).map encTm))] hfree:=by
 have hE:Enters Tryz.prog 225:=ent 225 Tryz.func225 (by kernel_rfl) rfl
 have hlen:(l.eraseIdx i).length=l.length - 1:=List.length_eraseIdx_of_lt hi
 have hmain:=acall_cut (P:=Tryz.prog) (f:=225) (es:=l.map encTm) (sz:=3) (rest:=[.int .i64 i,.int .i64 ((i:Int)+1)]) (n':=l.length - 1) (Q:=fun es'=>es'=(l.eraseIdx i).map encTm++[zTmA]) hE (fun e=>by
  rw [List.map_eq_nil_iff] at e; subst e; simp at hi) (by rw [List.length_map]; omega) ?_
 ·rw [List.length_map] at hmain
  refine ⟨hE,fun g w vals q1 q2 q3=>(hmain.2 g w vals q1 q2 q3).mono fun _ _ ⟨v,r,h',g',e1,⟨e2,es',p1,p2⟩,rest⟩=>⟨v,r,h',g',e1,⟨e2,by rw [p2,p1,List.take_append_of_le_length (by rw [List.length_map,hlen]; exact Nat.le_refl _),List.take_of_length_le (by rw [List.length_map,hlen]; exact Nat.le_refl _)]⟩,rest⟩⟩
 ·intro g w b cap F hr hF hH hb hc
  rw [List.length_map] at hF hc ⊢
  have hu:∀ e ∈ l.map encTm,e.length=3:=fun e he=>by
   obtain ⟨t,_,rfl⟩:=List.mem_map.1 he; rfl
  refine (del_walk w b cap i l.length F hF hi hc hH hr.2.1).mono ?_
  rintro e w' ⟨rfl,rfl⟩
  refine ⟨rfl,_,_,1,#[],?_,rfl,?_,fun cs hcs=>?_,fun g w hr=>?_,rfl⟩
  ·rw [Lib.lay_size,Lib.lay_size]
  ·rw [List.length_append,List.length_map,hlen,List.length_singleton]; omega
  ·rcases List.mem_append.1 hcs with h | h
   ·obtain ⟨t,_,rfl⟩:=List.mem_map.1 h; rfl
   ·rw [List.mem_singleton.1 h]; rfl
  ·rw [lay_eq F i l.length hF hi zTm rfl,List.eraseIdx_eq_take_drop_succ,List.flatten_append,List.map_append,List.flatten_append,List.map_take,List.map_drop,← flatten_take _ i hu,← flatten_drop _ (i+1) hu]
   refine RepL.append (RepL.append (hr.take _) (hr.drop _)) ?_
   exact repL_vals g w NoU zTm fun x hx=>by
    simp only [List.mem_cons,List.mem_nil_iff,or_false] at hx
    rcases hx with rfl | rfl | rfl <;> rfl
end Go.Eng

namespace Go.Eng
open Go.Proofs
theorem c248a (l:List Tm) (hl:Few l) (hne:l≠[]):ACall Tryz.prog 226 [sl encTm l] (heapOf [] hfree) fun r h'=>r=.msl 2000 l.length∧h'=heapOf [(2000,.arr 3 (l.map encTm))] hfree:=by
 refine acall_sub (cxe (pla [(5,3)] [])) [(5,2000)] rfl tab_ok hm rfl Tryz.func226 (by kernel_rfl) rfl (Nz rfl) (by kernel_rfl) rfl ?_;have bulk:AllLen 3 (l.map encTm)∧([]:List (List AV)).length=0∧(([]:List (List AV)).length+(l.map encTm).length)*48≤140737488355328∧([]:List (List AV)).length+(l.map encTm).length≤9223372036854775807:=by
  refine ⟨allLen_map (enc:=encTm) (n:=3) (fun _=>rfl) l,rfl,?_,?_⟩ <;> simp only [List.length_nil,Lm] <;> unfold Few at hl <;> omega
 refine Yi ?_ ?_
 ·intro _;refine Yi bulk ?_;have e1:AV.msl 2000 (([]:List (List AV)).length+(l.map encTm).length)=.msl 2000 l.length:=by simp
  refine Xi (.msl 2000 (([]:List (List AV)).length+(l.map encTm).length)) (Yi (.refl _) (Yi e1 ?_))
  rfl
 ·intro h;have h:l.map encTm=[]:=h;exact absurd (List.map_eq_nil_iff.1 h) hne
theorem c246 (x:Tm) (p:ByteArray):PC 224 [.agg (encTm x),.cptr [vs p]] (vb (decide (x.path=p))):=by
 refine Ps pl0 Tryz.func224 rfl (Nz rfl) ?_;refine Yi ?_ ?_
 ·intro h;have h:x.path=p:=h;rw [decide_eq_true h];exact .refl _
 ·intro h;have h:¬ x.path=p:=h;rw [decide_eq_false h];exact .refl _
theorem erase_without {p:ByteArray} : ∀ {c:List Tm} {i:Nat},(pathsT c).Nodup→∀ (hi:i<c.length),c[i].path=p→c.eraseIdx i=withoutT c p
 | t :: c,0,hn,_,h=>by
  have h:t.path=p:=h;unfold pathsT at hn;rw [List.map_cons,List.nodup_cons] at hn;unfold withoutT;rw [List.filter_cons,if_neg (by simp [h])];show c=_;rw [List.filter_eq_self.2 fun u hu=>by
   have:u.path≠p:=fun e=>hn.1 (h▸e▸List.mem_map.2 ⟨u,hu,rfl⟩)
   simp [this]]
 | t :: c,i+1,hn,hi,h=>by
  have hi:i<c.length:=by simpa using hi
  have h:c[i].path=p:=h;unfold pathsT at hn;rw [List.map_cons,List.nodup_cons] at hn
  have:t.path≠p:=fun e=>hn.1 (by rw [e,← h]; exact List.mem_map.2 ⟨_,List.getElem_mem hi,rfl⟩)
  have ih:=erase_without hn.2 hi h;unfold withoutT at ih ⊢;rw [List.eraseIdx_cons_succ,List.filter_cons,if_pos (by simp [this]),ih]
theorem few_canon {l c:List Tm} (hl:Few l) (h:canonT l=some c):Few c:=by
 have h1:=mergeM_len l l.length (Nat.le_refl _);rw [List.take_length] at h1;have h2:c=(mergeT l).filter fun t=>!alwaysT t:=by
  unfold canonT at h; split at h
  ·cases h
  ·exact (Option.some.inj h).symm
 have h3:c.length≤(mergeT l).length:=by rw [h2]; exact List.length_filter_le _ _
 have h4:(mergeT l).length=(mergeM l).length:=by
  have:=(List.perm_ext_iff_of_nodup (nodup_of_paths (mergeM_nodup l)) (nodup_of_paths (sorted_nodup (mergeT_sorted l)))).2 (mem_merge l)
  exact this.length_eq.symm
 unfold Few at hl ⊢; omega
abbrev noSplit:AV:=.tup [.agg zTmA,.v (.slice none 0 0),vb false]
abbrev pl224:Pol:=⟨[3],[],[],[],[],[],[],[],[(30,0),(34,1)],[],[3]⟩
theorem c224n (l:List Tm) (p:ByteArray) (hl:Few l) (hs:∀ t ∈ l,Few t.set) (hn:splitT l p=none):PC 191 [sl encTm l,vs p] noSplit:=by
 have hc:=c29 l hl hs;unfold splitT at hn;cases e:canonT l with
 | none =>
  have e1:canRes l=.tup [sl encTm [],vb false]:=by unfold canRes ofT; rw [e]; rfl
  rw [e1] at hc;have hi:=c176 (Stable.ptr [vs p]) [] (fun x=>decide (x.path=p)) (fun x _=>c246 x p) (by simp);refine Ps pl224 Tryz.func191 rfl (Nz rfl) ?_;refine Xi .pure (Xi _ (Yi (hc) ?_));refine Xi .pure (Xi _ (Yi (hi) ?_));refine Xi ⟨[(4,.ref 4 0),(7,sl encTm []),(8,vb false),(9,vi (-1))],[(4,.cells zTmA)],hfree⟩ (Yi ⟨Z4,Z1,Fh,Tv⟩ ?_)
  refine Yi (Nz rfl) (Yi (Nz rfl) ?_);exact .refl _
 | some c =>
  rw [e] at hn;have hn:(match findT c p with | none=>none | some t=>some (t,withoutT c p))=none:=hn;have hfn:findT c p=none:=by
   cases h:findT c p with
   | none=>rfl
   | some t=>rw [h] at hn; cases hn
  have e1:canRes l=.tup [sl encTm c,vb true]:=by unfold canRes ofT; rw [e]; rfl
  rw [e1] at hc;have hfc:=few_canon hl e;have hi:=c176 (Stable.ptr [vs p]) c (fun x=>decide (x.path=p)) (fun x _=>c246 x p) (by unfold Few at hfc; omega);have hid:idx (fun x:Tm=>decide (x.path=p)) c 0=-1:=by
   rcases idx_find (p:=fun x:Tm=>decide (x.path=p)) c 0 with ⟨h1,_⟩ | ⟨i,x,_,_,h3⟩
   ·exact h1
   ·unfold findT at hfn; rw [h3] at hfn; cases hfn
  rw [hid] at hi;refine Ps pl224 Tryz.func191 rfl (Nz rfl) ?_;refine Xi .pure (Xi _ (Yi (hc) ?_));refine Xi .pure (Xi _ (Yi (hi) ?_));refine Xi ⟨[(4,.ref 4 0),(7,sl encTm c),(8,vb true),(9,vi (-1))],[(4,.cells zTmA)],hfree⟩ (Yi ⟨Z4,Z1,Fh,Tv⟩ ?_)
  refine Yi ?_ ?_
  ·intro _;refine Yi (Nz rfl) (Yi (Nz rfl) ?_);exact .refl _
  ·intro h;exact absurd (show (-1:Int)<0 by decide) h
abbrev pl224s:Pol:=⟨[3],[],[],[],[],[],[],[],[(30,0),(34,2)],[],[]⟩
theorem c224s (l:List Tm) (p:ByteArray) (hl:Few l) (hs:∀ t ∈ l,Few t.set) {t:Tm} {r:List Tm} (hn:splitT l p=some (t,r)) :
  ACall Tryz.prog 191 [sl encTm l,vs p] (heapOf [] hfree) fun v h'=>v=.tup [.agg (encTm t),.msl 2000 r.length,vb true]∧h'=heapOf [(2000,.arr 3 (r.map encTm))] hfree:=by
 have hc:=c29 l hl hs;unfold splitT at hn;cases e:canonT l with
 | none=>rw [e] at hn; cases hn
 | some c =>
  rw [e] at hn;have hn:(match findT c p with | none=>none | some t=>some (t,withoutT c p))=some (t,r):=hn;have hft:findT c p=some t∧withoutT c p=r:=by
   cases h:findT c p with
   | none=>rw [h] at hn; cases hn
   | some t=>rw [h] at hn; cases hn; exact Zr
  have e1:canRes l=.tup [sl encTm c,vb true]:=by unfold canRes ofT; rw [e]; rfl
  rw [e1] at hc;have hfc:=few_canon hl e;have hi:=c176 (Stable.ptr [vs p]) c (fun x=>decide (x.path=p)) (fun x _=>c246 x p) (by unfold Few at hfc; omega);rcases idx_find (p:=fun x:Tm=>decide (x.path=p)) c 0 with ⟨_,h2⟩ | ⟨i,x,h1,h2,h3⟩
  ·unfold findT at hft; rw [h2] at hft; cases hft.1
  have hx:x=t:=by
   have:=hft.1
   unfold findT at this; rw [h3] at this; exact Option.some.inj this
  subst hx;rw [h1,Int.zero_add] at hi;obtain ⟨hic,hie⟩:=List.getElem?_eq_some_iff.1 h2;have her:c.eraseIdx i=r:=by
   rw [← hft.2];exact erase_without (sorted_nodup (canonT_sorted e)) hic (by rw [hie]; exact findT_path hft.1)
  have hlr:c.length - 1=r.length:=by rw [← her,List.length_eraseIdx_of_lt hic]
  have hne:c≠[]:=fun h=>by subst h; simp at hic
  have hfc2:c.length≤1073741824:=hfc;refine acall_sub (cxe pl224s) [(13400,2000)] rfl tab_ok hm rfl Tryz.func191 (by kernel_rfl) rfl (Nz rfl) (by kernel_rfl) rfl ?_;refine Xi .pure (Xi _ (Yi (hc) ?_));refine Xi .pure (Xi _ (Yi (hi) ?_));refine Yi ?_ ?_
  ·intro h;have h:(i:Int)<0:=h;omega
  intro _;have hg:(c.map encTm)[((i:Nat):Int).toNat]?=some (encTm x):=by rw [Int.toNat_natCast,List.getElem?_map,h2]; rfl
  refine Xi (encTm x) (Yi (Yi (Nn i) hg) (Yi rfl (Yi (Nz rfl) ?_)));refine Xi c.length (Xi 3 (Xi (c.map encTm) (Yi rfl (Yi (c248a c hfc hne) ?_))));refine Yi (Ii i (by omega)) ?_;refine Xi (c.length - 1) (Xi ((c.eraseIdx i).map encTm) (Yi rfl (Yi (c247 c i hic) ?_)));refine Yi (Nz rfl) ?_;refine Yi (by kernel_rfl) ?_;refine Yi (Nz rfl) ?_;have e2:AV.tup [.agg (encTm x),.msl 2000 (c.length - 1),vb true]=.tup [.agg (encTm x),.msl 2000 r.length,vb true]:=by rw [hlr]
  have e3:heapOf [(2000,HO.arr 3 ((c.eraseIdx i).map encTm))] hfree=heapOf [(2000,.arr 3 (r.map encTm))] hfree:=by rw [her]
  exact Xi _ (Yi (.refl _) (Yi e2 e3))
end Go.Eng

namespace Go.Eng
open Go.Proofs
abbrev pl196:Pol:=⟨[],[],[],[],[],[],[],[],[],[(24,9),(30,12)],[2,3,5,6]⟩
abbrev resV (a b:List Tm) (p:ByteArray):AV:=.tup [sl encTm (resolveT a b p).1,vi (resolveT a b p).2]
theorem split_can {l r:List Tm} {p:ByteArray} {t:Tm} (h:splitT l p=some (t,r)):∃ c,canonT l=some c∧t ∈ c∧r=withoutT c p:=by
 unfold splitT at h;cases e:canonT l with
 | none=>rw [e] at h; cases h
 | some c =>
  rw [e] at h;have h:(match findT c p with | none=>none | some t=>some (t,withoutT c p))=some (t,r):=h;cases e2:findT c p with
  | none=>rw [e2] at h; cases h
  | some u=>rw [e2] at h; cases h; exact ⟨c,rfl,findT_mem e2,rfl⟩
theorem split_few {l r:List Tm} {p:ByteArray} {t:Tm} (hl:Few l) (h:splitT l p=some (t,r)):Few t.set∧Few r∧∀ u ∈ r,Few u.set:=by
 obtain ⟨c,h1,h2,rfl⟩:=split_can h;have hs:=canonT_sorted h1;refine ⟨few_can (hs.canon t h2),?_,fun u hu=>few_can (hs.canon u (List.mem_filter.1 hu).1)⟩
 have:=few_canon hl h1
 have h3:(withoutT c p).length≤c.length:=List.length_filter_le _ _;unfold Few at *; omega
theorem canT_len {l c:List Tm} (h:canonT l=some c):c.length≤l.length:=by
 have h1:=mergeM_len l l.length (Nat.le_refl _);rw [List.take_length] at h1;have h2:c=(mergeT l).filter fun t=>!alwaysT t:=by
  unfold canonT at h; split at h
  ·cases h
  ·exact (Option.some.inj h).symm
 have h3:c.length≤(mergeT l).length:=by rw [h2]; exact List.length_filter_le _ _
 have h4:(mergeT l).length=(mergeM l).length:=by
  have:=(List.perm_ext_iff_of_nodup (nodup_of_paths (mergeM_nodup l)) (nodup_of_paths (sorted_nodup (mergeT_sorted l)))).2 (mem_merge l)
  exact this.length_eq.symm
 omega
theorem split_len {l r:List Tm} {p:ByteArray} {t:Tm} (h:splitT l p=some (t,r)):r.length≤l.length:=by
 obtain ⟨c,h1,h2,rfl⟩:=split_can h;have h3:(withoutT c p).length≤c.length:=List.length_filter_le _ _
 have:=canT_len h1
 omega
theorem few_union (a b:SpanL):Few (union a b):=by
 unfold Few; have:=canon_len (union_canon a b); omega
theorem c196 (a b:List Tm) (p:ByteArray) (ha:a.length≤500000000) (hb:b.length≤500000000) (hsa:∀ t ∈ a,Few t.set) (hsb:∀ t ∈ b,Few t.set):PC 138 [sl encTm a,sl encTm b,vs p] (resV a b p):=by
 have hfa:Few a:=by unfold Few; omega
 have hfb:Few b:=by unfold Few; omega
 have er:∀ {l:List Tm} {e:Int},resolveT a b p=(l,e)→resV a b p=.tup [sl encTm l,vi e]:=fun h=>by unfold resV; rw [h]
 have e0:Sub (.tup [.v (.slice none 0 0),vi 1]) (.tup [.slice .none [],vi 1]):=Sub.tup ⟨.nil,.refl _,trivial⟩;cases h1:splitT a p with
 | none =>
  have hr:resolveT a b p=([],1):=by unfold resolveT; rw [h1]
  have c1:=c224n a p hfa hsa h1;cases h2:splitT b p with
  | none =>
   have c2:=c224n b p hfb hsb h2;refine Ps pl196 Tryz.func138 rfl (Nz rfl) ?_;refine Xi .pure (Xi _ (Yi (c1) ?_));refine Yi (Nz rfl) ?_;refine Xi ⟨[(1,sl encTm b),(2,vs p),(8,.ref 8 0),(9,.v (.slice none 0 0)),(10,vb false)],[(8,.cells zTmA)],hfree⟩ (Yi ⟨Z5,Z1,Fh,Tv⟩ ?_)
   refine Xi .pure (Xi _ (Yi (c2) ?_));refine Yi (Nz rfl) ?_;refine Xi ⟨[(8,.ref 8 0),(9,.v (.slice none 0 0)),(10,vb false),(11,.ref 11 0),(12,.v (.slice none 0 0)),(13,vb false)],[(8,.cells zTmA),(11,.cells zTmA)],hfree⟩ (Yi ⟨Z6,Z2,Fh,Tv⟩ ?_)
   exact e0.trans (.of_eq (er hr).symm)
  | some q2 =>
   obtain ⟨t2,r2⟩:=q2;have c2:=c224s b p hfb hsb h2;refine Ps pl196 Tryz.func138 rfl (Nz rfl) ?_;refine Xi .pure (Xi _ (Yi (c1) ?_));refine Yi (Nz rfl) ?_;refine Xi ⟨[(1,sl encTm b),(2,vs p),(8,.ref 8 0),(9,.v (.slice none 0 0)),(10,vb false)],[(8,.cells zTmA)],hfree⟩ (Yi ⟨Z5,Z1,Fh,Tv⟩ ?_)
   have z2:r2.length=(r2.map encTm).length:=by rw [Lm]
   refine Xi (.gen [] 1) (Yi rfl (c2.imp ?_));intro v2 g2 q2;have q21:=q2.1;have q22:=q2.2;subst q21;subst q22;refine Yi (Nz rfl) ?_;refine Xi ⟨[(8,.ref 8 0),(9,.v (.slice none 0 0)),(10,vb false),(11,.ref 11 0),(12,.msl 12600 r2.length),(13,vb true)],[(8,.cells zTmA),(11,.cells (encTm t2)),(12600,.arr 3 (r2.map encTm))],hfree⟩ (Yi ⟨Z6,Z3,Fh,Tv⟩ ?_)
   refine Yi z2 ?_;exact e0.trans (.of_eq (er hr).symm)
 | some q1 =>
  obtain ⟨t1,r1⟩:=q1;have c1:=c224s a p hfa hsa h1;obtain ⟨f1,f2,f3⟩:=split_few hfa h1;cases h2:splitT b p with
  | none =>
   have hr:resolveT a b p=([],1):=by unfold resolveT; rw [h1,h2]
   have c2:=c224n b p hfb hsb h2;refine Ps pl196 Tryz.func138 rfl (Nz rfl) ?_;refine Xi (.gen [] 1) (Yi rfl (c1.imp ?_));intro v1 g1 q1;have q11:=q1.1;have q12:=q1.2;subst q11;subst q12;refine Yi (Nz rfl) ?_;refine Xi ⟨[(1,sl encTm b),(2,vs p),(8,.ref 8 0),(9,.msl 11900 r1.length),(10,vb true)],[(8,.cells (encTm t1)),(11900,.arr 3 (r1.map encTm))],hfree⟩ (Yi ⟨Z5,Z2,Fh,Tv⟩ ?_)
   have z1:r1.length=(r1.map encTm).length:=by rw [Lm]
   refine Yi z1 ?_;refine Xi .pure (Xi _ (Yi (c2) ?_));refine Yi (Nz rfl) ?_;refine Xi ⟨[(8,.ref 8 0),(9,.slice (.id 11900 3) (r1.map encTm)),(10,vb true),(11,.ref 11 0),(12,.v (.slice none 0 0)),(13,vb false)],[(8,.cells (encTm t1)),(11,.cells zTmA),(11900,.tok 3 (r1.map encTm).length)],hfree⟩ (Yi ⟨Z6,Z3,Fh,Tv⟩ ?_)
   exact e0.trans (.of_eq (er hr).symm)
  | some q2 =>
   obtain ⟨t2,r2⟩:=q2;have c2:=c224s b p hfb hsb h2;obtain ⟨g1,g2,g3⟩:=split_few hfb h2;refine Ps pl196 Tryz.func138 rfl (Nz rfl) ?_;refine Xi (.gen [] 1) (Yi rfl (c1.imp ?_));intro v1 g1 q1;have q11:=q1.1;have q12:=q1.2;subst q11;subst q12;refine Yi (Nz rfl) ?_;refine Xi ⟨[(1,sl encTm b),(2,vs p),(8,.ref 8 0),(9,.msl 11900 r1.length),(10,vb true)],[(8,.cells (encTm t1)),(11900,.arr 3 (r1.map encTm))],hfree⟩ (Yi ⟨Z5,Z2,Fh,Tv⟩ ?_)
   have z1:r1.length=(r1.map encTm).length:=by rw [Lm]
   have z2:r2.length=(r2.map encTm).length:=by rw [Lm]
   refine Yi z1 ?_;refine Xi (.gen [] 1) (Yi rfl (c2.imp ?_));intro v2 g2 q2;have q21:=q2.1;have q22:=q2.2;subst q21;subst q22;refine Yi (Nz rfl) ?_;refine Xi ⟨[(8,.ref 8 0),(9,.slice (.id 11900 3) (r1.map encTm)),(10,vb true),(11,.ref 11 0),(12,.msl 12600 r2.length),(13,vb true)],[(8,.cells (encTm t1)),(11,.cells (encTm t2)),(11900,.tok 3 (r1.map encTm).length),(12600,.arr 3 (r2.map encTm))],hfree⟩ (Yi ⟨Z6,Z4,Fh,Tv⟩ ?_)
   refine Yi z2 ?_;refine Xi ⟨[(8,.ref 8 0),(9,.slice (.id 11900 3) (r1.map encTm)),(11,.ref 11 0),(12,.slice (.id 12600 3) (r2.map encTm))],[(8,.cells (encTm t1)),(11,.cells (encTm t2)),(11900,.tok 3 (r1.map encTm).length),(12600,.tok 3 (r2.map encTm).length)],hfree⟩ (Yi ⟨Z4,Z4,Fh,Tv⟩ ?_)
   have l1:=split_len h1;have l2:=split_len h2;have b1:AllLen 3 (r2.map encTm)∧(r1.map encTm).length=(r1.map encTm).length∧((r1.map encTm).length+(r2.map encTm).length)*48≤140737488355328∧(r1.map encTm).length+(r2.map encTm).length≤9223372036854775807 :=
    ⟨allLen_map (enc:=encTm) (n:=3) (fun _=>rfl) r2,rfl,by rw [Lm,Lm]; omega,by rw [Lm,Lm]; omega⟩
   refine Yi b1 ?_;refine Yi (Nz rfl) (Yi (Nz rfl) ?_);refine Xi _ (Yi (c225 t1 t2 f1 g1) ?_);have b2:AllLen 3 [encTm (eitherT t1 t2)]∧(r1.map encTm++r2.map encTm).length=(r1.map encTm).length+(r2.map encTm).length∧((r1.map encTm++r2.map encTm).length+[encTm (eitherT t1 t2)].length)*48≤140737488355328∧(r1.map encTm++r2.map encTm).length+[encTm (eitherT t1 t2)].length≤9223372036854775807 :=
    ⟨⟨rfl,trivial⟩,by rw [List.length_append],by rw [List.length_append,Lm,Lm,List.length_singleton]; omega,by rw [List.length_append,Lm,Lm,List.length_singleton]; omega⟩
   refine Yi b2 ?_;have hc0:=c29 (r1++r2++[eitherT t1 t2]) (by unfold Few; simp only [List.length_append,List.length_singleton]; omega) (fun u hu=>by
    rcases List.mem_append.1 hu with hu | hu
    ·rcases List.mem_append.1 hu with hu | hu
     ·exact f3 u hu
     ·exact g3 u hu
    ·rw [List.mem_singleton.1 hu]; exact few_union _ _)
   have e1:sl encTm (r1++r2++[eitherT t1 t2])=.slice .none (r1.map encTm++r2.map encTm++[encTm (eitherT t1 t2)]):=by simp
   have hc1:PC 192 [.slice .none (r1.map encTm++r2.map encTm++[encTm (eitherT t1 t2)])] (canRes (r1++r2++[eitherT t1 t2])):=e1▸hc0;cases hcn:canonT (r1++r2++[eitherT t1 t2]) with
   | none =>
    have hr:resolveT a b p=([],8):=by unfold resolveT; rw [h1,h2]; dsimp only; rw [hcn]
    have ec:canRes (r1++r2++[eitherT t1 t2])=.tup [sl encTm [],vb false]:=by unfold canRes ofT; rw [hcn]; rfl
    have hc:PC 192 [.slice .none (r1.map encTm++r2.map encTm++[encTm (eitherT t1 t2)])] (.tup [sl encTm [],vb false]):=ec▸hc1;have e8:Sub (.tup [.v (.slice none 0 0),vi 8]) (.tup [.slice .none [],vi 8]):=Sub.tup ⟨.nil,.refl _,trivial⟩;refine Xi _ (Yi (hc) ?_);refine Yi (by kernel_rfl) ?_;refine Xi ⟨[(14,sl encTm []),(15,vb false)],[],hfree⟩ (Yi ⟨Z2,Tv,Fh,Tv⟩ ?_)
    exact e8.trans (.of_eq (er hr).symm)
   | some o =>
    have hr:resolveT a b p=(o,0):=by unfold resolveT; rw [h1,h2]; dsimp only; rw [hcn]
    have ec:canRes (r1++r2++[eitherT t1 t2])=.tup [sl encTm o,vb true]:=by unfold canRes ofT; rw [hcn]; rfl
    have hc:PC 192 [.slice .none (r1.map encTm++r2.map encTm++[encTm (eitherT t1 t2)])] (.tup [sl encTm o,vb true]):=ec▸hc1;refine Xi _ (Yi (hc) ?_);refine Yi (by kernel_rfl) ?_;refine Xi ⟨[(14,sl encTm o),(15,vb true)],[],hfree⟩ (Yi ⟨Z2,Tv,Fh,Tv⟩ ?_)
    exact .of_eq (er hr).symm
end Go.Eng

namespace Go.Eng
open Go.Proofs
def extGo (h s:Nat→HO):Nat→Bool
 | 0=>true
 | n+1=>(match h (1000+n) with | .free=>true | _=>(match s (1000+n) with | .free=>false | _=>true))&&extGo h s n
theorem extGo_spec {h s:Nat→HO} : ∀ {n:Nat},extGo h s n=true→∀ j,j<n→h (1000+j)≠.free→s (1000+j)≠.free
 | n+1,hd,j,hj,hn=>by
  simp only [extGo,Bool.and_eq_true] at hd;rcases Nat.lt_or_ge j n with h1 | h1
  ·exact extGo_spec hd.2 j h1 hn
  ·have:j=n:=by omega
   subst this
   have:=hd.1
   intro e;split at this
   ·rename_i q; exact hn q
   ·rw [e] at this; cases this
theorem ext_dec {h s:Nat→HO} (hd:extGo h s 1000=true):∀ j,1000≤j→j<2000→h j≠.free→s j≠.free:=fun j h1 h2=>by
 have:=extGo_spec hd (j - 1000) (by omega)
 rw [show 1000+(j - 1000)=j by omega] at this;exact this
end Go.Eng

namespace Go.Eng
open Go.Proofs
end Go.Eng

namespace Go.Eng
open Go.Proofs
theorem plc_rng (v:Ver):0≤plc v∧plc v<1000000:=by
 unfold plc;cases h:validB v with
 | true=>exact place_in h
 | false=>simp
end Go.Eng

namespace Go.Eng
open Go.Proofs
abbrev FewI (t:List Tm):Prop:=t.length≤500000000∧∀ u ∈ t,Few u.set
end Go.Eng

namespace Go.Eng
open Go.Proofs
end Go.Eng

namespace Go.Eng
open Go.Proofs
theorem c189 (s:ByteArray):PC 214 [vs s] (vb false):=by
 refine Ps pl0 Tryz.func214 rfl (Nz rfl) ?_;refine Yi ?_ ?_
 ·intro h; exact absurd rfl (show s≠s from h)
 ·intro _; exact .refl _
theorem c221 (z:Int):PC 249 [vi z] (vb false):=by
 refine Ps pl0 Tryz.func249 rfl (Nz rfl) ?_;refine Yi ?_ ?_
 ·intro h; exact absurd rfl (show z≠z from h)
 ·intro _; exact .refl _
theorem c157 (a b:ByteArray):PC 165 [vs a,vs b] (vi (cmpB a b)):=by
 refine Ps pl0 Tryz.func165 rfl (Nz rfl) ?_;refine Xi .pure (Xi _ (Yi (c189 a) ?_));refine Xi .pure (Xi _ (Yi (c189 b) ?_));refine Yi ?_ ?_
 ·intro h;have h:Op.bytesLess a.toList b.toList=true:=h;exact .of_eq (congrArg vi (show (-1:Int)=cmpB a b by unfold cmpB; rw [if_pos (by rw [blt_eq]; exact h)]))
 ·intro h;have h:¬ Op.bytesLess a.toList b.toList=true:=h;refine Yi ?_ ?_
  ·intro h2;have h2:Op.bytesLess b.toList a.toList=true:=h2;exact .of_eq (congrArg vi (show (1:Int)=cmpB a b by unfold cmpB; rw [if_neg (by rw [blt_eq]; exact h),if_pos (by rw [blt_eq]; exact h2)]))
  ·intro h2;have h2:¬ Op.bytesLess b.toList a.toList=true:=h2;exact .of_eq (congrArg vi (show (0:Int)=cmpB a b by unfold cmpB; rw [if_neg (by rw [blt_eq]; exact h),if_neg (by rw [blt_eq]; exact h2)]))
theorem c190 (a b:Int):PC 215 [vi a,vi b] (vi (cmpI a b)):=by
 refine Ps pl0 Tryz.func215 rfl (Nz rfl) ?_;refine Xi .pure (Xi _ (Yi (c221 a) ?_));refine Xi .pure (Xi _ (Yi (c221 b) ?_));refine Yi ?_ ?_
 ·intro h;have h:a<b:=h;exact .of_eq (congrArg vi (show (-1:Int)=cmpI a b by unfold cmpI; rw [if_pos h]))
 ·intro h;have h:¬ a<b:=h;refine Yi ?_ ?_
  ·intro h2;have h2:b<a:=h2;exact .of_eq (congrArg vi (show (1:Int)=cmpI a b by unfold cmpI; rw [if_neg h,if_pos h2]))
  ·intro h2;have h2:¬ b<a:=h2;exact .of_eq (congrArg vi (show (0:Int)=cmpI a b by unfold cmpI; rw [if_neg h,if_neg h2]))
theorem c156 (a b:Int):PC 164 [.slice .none [[vi a],[vi b]]] (vi (if a≠0 then a else b)):=by
 refine Ps pl0 Tryz.func164 rfl (Nz rfl) ?_;refine Xi {i:Nat // i≤2∧(0<i→a=0)∧(1<i→b=0)} (Xi (fun i=>⟨[(3,vi 0),(6,.slice .none [[vi a],[vi b]]),(7,vi 2),(8,vi i.1)],[],hfree⟩) (Xi (fun i=>2 - i.1) (Yi (Xi ⟨0,by omega,by omega,by omega⟩ ?_) ?_)))
 ·exact ⟨Z4,Tv,Fh,Tv⟩
 intro ⟨i,h1,h2,h3⟩;refine Yi ?_ ?_
 ·intro h;have h:(i:Int)<2:=h
  match i,h1,h2,h3,h with
  | 0,h1,h2,h3,h =>
   refine Xi [vi a] (Yi (Yi (Int.le_refl _) rfl) (Yi rfl ?_));refine Yi ?_ ?_
   ·intro h4;have h4:a≠0:=h4;exact .of_eq (congrArg vi (if_pos h4).symm)
   ·intro h4;have h4:¬ a≠0:=h4;refine Yi (Ii 0 (by omega)) ?_;refine Xi ⟨1,by omega,fun _=>by omega,fun q=>absurd q (by decide)⟩ ?_;exact ⟨by show 2 - 1<2 - 0; decide,Z4,Tv,Fh,Tv⟩
  | 1,h1,h2,h3,h =>
   have ha:=h2 (by decide);refine Xi [vi b] (Yi (Yi (by show (0:Int)≤1; decide) rfl) (Yi rfl ?_));refine Yi ?_ ?_
   ·intro h4;exact .of_eq (congrArg vi (if_neg (by omega)).symm)
   ·intro h4;have h4:¬ b≠0:=h4;refine Yi (Ii 1 (by omega)) ?_;refine Xi ⟨2,by omega,fun _=>ha,fun q=>by omega⟩ ?_;exact ⟨by show 2 - 2<2 - 1; decide,Z4,Tv,Fh,Tv⟩
  | i+2,h1,h2,h3,h=>omega
 ·intro h;have h:¬ (i:Int)<2:=h;have ha:=h2 (by omega);have hb:=h3 (by omega);exact .of_eq (congrArg vi (show (0:Int)=if a≠0 then a else b by rw [if_neg (by omega),hb]))
theorem cmpV_hit (a b:Ver) (i:Nat) (hi:i<3) (h:∀ j,j<i→cmpI (part a j) (part b j)=0) (hn:cmpI (part a i) (part b i)≠0):cmpV a b=cmpI (part a i) (part b i):=by
 unfold cmpV
 match i,hi,h,hn with
 | 0,_,_,hn=>exact if_pos hn
 | 1,_,h,hn =>
  have h0:cmpI a.a b.a=0:=h 0 (by decide);rw [if_neg (by omega)]; exact if_pos hn
 | 2,_,h,hn =>
  have h0:cmpI a.a b.a=0:=h 0 (by decide);have h1:cmpI a.b b.b=0:=h 1 (by decide);rw [if_neg (by omega),if_neg (by omega)]; rfl
theorem cmpV_all (a b:Ver) (h:∀ j,j<3→cmpI (part a j) (part b j)=0):cmpV a b=0:=by
 unfold cmpV;have h0:cmpI a.a b.a=0:=h 0 (by decide);have h1:cmpI a.b b.b=0:=h 1 (by decide);have h2:cmpI a.c b.c=0:=h 2 (by decide);rw [if_neg (by omega),if_neg (by omega),h2]
theorem c158 (a b:Ver):PC 166 [.agg (encVer a),.agg (encVer b)] (vi (cmpV a b)):=by
 refine Ps pl0 Tryz.func166 rfl (Nz rfl) ?_;refine Yi (Nz rfl) ?_;refine Xi _ (Yi (c138 a) ?_);refine Yi (Nz rfl) ?_;refine Xi _ (Yi (c138 b) ?_);refine Yi (Nz rfl) (Yi (Nz rfl) ?_);refine Yi (by kernel_rfl) ?_;refine Xi {i:Nat // i≤3∧∀ j,j<i→cmpI (part a j) (part b j)=0} (Xi (fun i=>⟨[(5,.ref 5 0),(6,.ref 6 0),(13,vi i.1)],[(5,.cells (encVer a)),(6,.cells (encVer b))],hfree⟩) (Xi (fun i=>3 - i.1) (Yi (Xi ⟨0,by omega,fun j h=>by omega⟩ ?_) ?_)))
 ·exact ⟨Z3,Z2,Fh,Tv⟩
 intro ⟨i,h1,h2⟩;refine Yi ?_ ?_
 ·intro h;have h:(i:Int)<3:=h;have next:cmpI (part a i) (part b i)=0→∀ j,j<i+1→cmpI (part a j) (part b j)=0:=fun hz j hj=>by
   rcases Nat.lt_or_ge j i with q | q
   ·exact h2 j q
   ·have:j=i:=by omega
    subst this; exact hz
  match i,h1,h2,h,next with
  | 0,h1,h2,h,next =>
   refine Yi ⟨by show (0:Int)≤0; decide,by show (0:Int)<3; decide⟩ ?_;refine Yi ⟨by show (0:Int)≤0; decide,by show (0:Int)<3; decide⟩ ?_;refine Xi _ (Yi (c190 (part a 0) (part b 0)) ?_);refine Yi (by kernel_rfl) ?_;refine Yi ?_ ?_
   ·intro h4;have h4:cmpI (part a 0) (part b 0)≠0:=h4;exact .of_eq (congrArg vi (cmpV_hit a b 0 (by decide) h2 h4).symm)
   ·intro h4;have h4:¬ cmpI (part a 0) (part b 0)≠0:=h4;refine Yi (Ii 0 (by omega)) ?_;refine Xi ⟨1,by omega,next (Decidable.of_not_not h4)⟩ ?_
    exact ⟨by show 3 - 1<3 - 0; decide,Z3,Z2,Fh,Tv⟩
  | 1,h1,h2,h,next =>
   refine Yi ⟨by show (0:Int)≤1; decide,by show (1:Int)<3; decide⟩ ?_;refine Yi ⟨by show (0:Int)≤1; decide,by show (1:Int)<3; decide⟩ ?_;refine Xi _ (Yi (c190 (part a 1) (part b 1)) ?_);refine Yi (by kernel_rfl) ?_;refine Yi ?_ ?_
   ·intro h4;have h4:cmpI (part a 1) (part b 1)≠0:=h4;exact .of_eq (congrArg vi (cmpV_hit a b 1 (by decide) h2 h4).symm)
   ·intro h4;have h4:¬ cmpI (part a 1) (part b 1)≠0:=h4;refine Yi (Ii 1 (by omega)) ?_;refine Xi ⟨2,by omega,next (Decidable.of_not_not h4)⟩ ?_
    exact ⟨by show 3 - 2<3 - 1; decide,Z3,Z2,Fh,Tv⟩
  | 2,h1,h2,h,next =>
   refine Yi ⟨by show (0:Int)≤2; decide,by show (2:Int)<3; decide⟩ ?_;refine Yi ⟨by show (0:Int)≤2; decide,by show (2:Int)<3; decide⟩ ?_;refine Xi _ (Yi (c190 (part a 2) (part b 2)) ?_);refine Yi (by kernel_rfl) ?_;refine Yi ?_ ?_
   ·intro h4;have h4:cmpI (part a 2) (part b 2)≠0:=h4;exact .of_eq (congrArg vi (cmpV_hit a b 2 (by decide) h2 h4).symm)
   ·intro h4;have h4:¬ cmpI (part a 2) (part b 2)≠0:=h4;refine Yi (Ii 2 (by omega)) ?_;refine Xi ⟨3,by omega,next (Decidable.of_not_not h4)⟩ ?_
    exact ⟨by show 3 - 3<3 - 2; decide,Z3,Z2,Fh,Tv⟩
  | i+3,h1,h2,h,next=>omega
 ·intro h;have h:¬ (i:Int)<3:=h;exact .of_eq (congrArg vi (cmpV_all a b fun j hj=>h2 j (by omega)).symm)
end Go.Eng

namespace Go.Eng
open Go.Proofs
theorem c109 (a b:Rl):PC 114 [.agg (encRl a),.agg (encRl b)] (vi (cmpR a b)):=by
 refine Ps pl0 Tryz.func114 rfl (Nz rfl) ?_;refine Xi _ (Yi (c157 a.path b.path) ?_);refine Yi (Nz rfl) (Yi (Nz rfl) ?_);refine Xi _ (Yi (c158 a.ver b.ver) ?_);refine Xi _ (Yi (c156 (cmpB a.path b.path) (cmpV a.ver b.ver)) ?_);refine Yi (by kernel_rfl) ?_;exact .refl _
abbrev FewS (s:ByteArray):Prop:=s.size≤1073741824
abbrev FewQ (q:Rq):Prop:=Few q.set∧FewS q.path
abbrev FewR (r:Rl):Prop:=FewS r.path∧∀ q ∈ r.reqs,FewQ q
abbrev lineV (nm:ByteArray→ByteArray) (p:ByteArray):AV:=match pathMajor p with
 | some m=>.tup [vs (nm p),vi m,vi 0]
 | none=>.tup [vs ⟨#[]⟩,vi 0,vi 4]
abbrev Line (nm:ByteArray→ByteArray):Prop:=∀ p:ByteArray,FewS p→PC 163 [vs p] (lineV nm p)
theorem Line.none {nm:ByteArray→ByteArray} (h:Line nm) {p:ByteArray} (hp:FewS p) (e:pathMajor p=.none):PC 163 [vs p] (.tup [vs ⟨#[]⟩,vi 0,vi 4]):=by
 have:=h p hp; unfold lineV at this; rw [e] at this; exact this
theorem Line.some {nm:ByteArray→ByteArray} (h:Line nm) {p:ByteArray} {m:Int} (hp:FewS p) (e:pathMajor p=.some m):PC 163 [vs p] (.tup [vs (nm p),vi m,vi 0]):=by
 have:=h p hp; unfold lineV at this; rw [e] at this; exact this
theorem c110n {nm:ByteArray→ByteArray} (hL:Line nm) (q:Rq) (hq:Few q.set) (hp:FewS q.path):PC 115 [.agg (encRq q),.v (.pointer none)] (vi (rqOk none q)):=by
 cases hpm:pathMajor q.path with
 | none =>
  have e:(4:Int)=rqOk none q:=by unfold rqOk; rw [hpm]; rfl
  have hl:=hL.none hp hpm;refine Ps pl0 Tryz.func115 rfl (Nz rfl) ?_;refine Xi .pure (Xi _ (Yi (hl) ?_));refine Yi ?_ ?_
  ·intro _; exact .of_eq (congrArg vi e)
  ·intro h; exact absurd (show (4:Int)≠0 by decide) h
 | some m =>
  have er:rqOk none q=if (q.set.isEmpty||!decide (q.set=canon q.set)||false)=true then 1 else 0:=by unfold rqOk; rw [hpm]; rfl
  have hl:=hL.some hp hpm;have hc:=c102 q.set hq;have he:=c159 q.set (canon q.set) hq;have hemp:∀ {n:Int},n=(q.set.map encSpan).length→n=0→q.set.isEmpty=true:=fun h1 h2=>by
   rw [Lm] at h1; rw [List.isEmpty_iff]; exact List.eq_nil_of_length_eq_zero (by omega)
  have hnem:¬ ((q.set.map encSpan).length:Int)=0→q.set.isEmpty=false:=fun h=>by
   cases hqs:q.set with
   | nil=>rw [hqs] at h; exact absurd rfl h
   | cons a l=>rfl
  rcases Bt (decide (q.set=canon q.set)) with h2 | h2
  ·rw [h2] at he;refine Ps (plcut [2,4]) Tryz.func115 rfl (Nz rfl) ?_;refine Xi .pure (Xi _ (Yi (hl) ?_));refine Xi ⟨[(1,.v (.pointer none)),(2,.ref 2 0),(7,vi 0)],[(2,.cells (encRq q))],hfree⟩ (Yi ⟨Z3,Z1,Fh,Tv⟩ ?_)
   refine Yi ?_ ?_
   ·intro h; exact absurd rfl h
   intro _;refine Xi ⟨[(1,.v (.pointer none)),(2,.ref 2 0)],[(2,.cells (encRq q))],hfree⟩ (Yi ⟨Z2,Z1,Fh,Tv⟩ ?_)
   refine Yi ?_ ?_
   ·intro h;have h:((q.set.map encSpan).length:Int)=0:=h;have e:(1:Int)=rqOk none q:=by rw [er,hemp rfl h]; rfl
    refine Yi (by kernel_rfl) ?_;exact .of_eq (congrArg vi e)
   intro h;have h:¬ ((q.set.map encSpan).length:Int)=0:=h;have hn:=hnem h;refine Xi _ (Yi (hc) ?_);refine Xi _ (Yi (he) ?_);refine Yi (by kernel_rfl) ?_;have e:(0:Int)=rqOk none q:=by rw [er,hn,h2]; rfl
   exact .of_eq (congrArg vi e)
  ·rw [h2] at he;refine Ps (plcut [2,4]) Tryz.func115 rfl (Nz rfl) ?_;refine Xi .pure (Xi _ (Yi (hl) ?_));refine Xi ⟨[(1,.v (.pointer none)),(2,.ref 2 0),(7,vi 0)],[(2,.cells (encRq q))],hfree⟩ (Yi ⟨Z3,Z1,Fh,Tv⟩ ?_)
   refine Yi ?_ ?_
   ·intro h; exact absurd rfl h
   intro _;refine Xi ⟨[(1,.v (.pointer none)),(2,.ref 2 0)],[(2,.cells (encRq q))],hfree⟩ (Yi ⟨Z2,Z1,Fh,Tv⟩ ?_)
   refine Yi ?_ ?_
   ·intro h;have h:((q.set.map encSpan).length:Int)=0:=h;have e:(1:Int)=rqOk none q:=by rw [er,hemp rfl h]; rfl
    refine Yi (by kernel_rfl) ?_;exact .of_eq (congrArg vi e)
   intro h;have h:¬ ((q.set.map encSpan).length:Int)=0:=h;have hn:=hnem h;refine Xi _ (Yi (hc) ?_);refine Xi _ (Yi (he) ?_);refine Yi (by kernel_rfl) ?_;have e:(1:Int)=rqOk none q:=by rw [er,hn,h2]; rfl
   exact .of_eq (congrArg vi e)
theorem c110s {nm:ByteArray→ByteArray} (hL:Line nm) (q b:Rq) (hq:Few q.set) (hp:FewS q.path):PC 115 [.agg (encRq q),.cptr (encRq b)] (vi (rqOk (some b.path) q)):=by
 cases hpm:pathMajor q.path with
 | none =>
  have e:(4:Int)=rqOk (some b.path) q:=by unfold rqOk; rw [hpm]; rfl
  have hl:=hL.none hp hpm;refine Ps pl0 Tryz.func115 rfl (Nz rfl) ?_;refine Xi .pure (Xi _ (Yi (hl) ?_));refine Yi ?_ ?_
  ·intro _; exact .of_eq (congrArg vi e)
  ·intro h; exact absurd (show (4:Int)≠0 by decide) h
 | some m =>
  have er:rqOk (some b.path) q=if (q.set.isEmpty||!decide (q.set=canon q.set)||!blt b.path q.path)=true then 1 else 0:=by unfold rqOk; rw [hpm]; rfl
  have hl:=hL.some hp hpm;have hc:=c102 q.set hq;have he:=c159 q.set (canon q.set) hq;have hemp:∀ {n:Int},n=(q.set.map encSpan).length→n=0→q.set.isEmpty=true:=fun h1 h2=>by
   rw [Lm] at h1; rw [List.isEmpty_iff]; exact List.eq_nil_of_length_eq_zero (by omega)
  have hnem:¬ ((q.set.map encSpan).length:Int)=0→q.set.isEmpty=false:=fun h=>by
   cases hqs:q.set with
   | nil=>rw [hqs] at h; exact absurd rfl h
   | cons a l=>rfl
  rcases Bt (decide (q.set=canon q.set)) with h2 | h2
  ·rw [h2] at he;refine Ps (plcut [2,4]) Tryz.func115 rfl (Nz rfl) ?_;refine Xi .pure (Xi _ (Yi (hl) ?_));refine Xi ⟨[(1,.cptr (encRq b)),(2,.ref 2 0),(7,vi 0)],[(2,.cells (encRq q))],hfree⟩ (Yi ⟨Z3,Z1,Fh,Tv⟩ ?_)
   refine Yi ?_ ?_
   ·intro h; exact absurd rfl h
   intro _;refine Xi ⟨[(1,.cptr (encRq b)),(2,.ref 2 0)],[(2,.cells (encRq q))],hfree⟩ (Yi ⟨Z2,Z1,Fh,Tv⟩ ?_)
   refine Yi ?_ ?_
   ·intro h;have h:((q.set.map encSpan).length:Int)=0:=h;have e:(1:Int)=rqOk (some b.path) q:=by rw [er,hemp rfl h]; rfl
    refine Yi (by kernel_rfl) ?_;exact .of_eq (congrArg vi e)
   intro h;have h:¬ ((q.set.map encSpan).length:Int)=0:=h;have hn:=hnem h;refine Xi _ (Yi (hc) ?_);refine Xi _ (Yi (he) ?_);refine Yi ?_ ?_
   ·intro h3;have h3:Op.bytesLess b.path.toList q.path.toList=false:=h3;refine Yi (by kernel_rfl) ?_;have e:(1:Int)=rqOk (some b.path) q:=by rw [er,hn,h2,blt_eq,h3]; rfl
    exact .of_eq (congrArg vi e)
   ·intro h3;have h3:¬ Op.bytesLess b.path.toList q.path.toList=false:=h3;have h3:Op.bytesLess b.path.toList q.path.toList=true:=by simpa using h3
    refine Yi (by kernel_rfl) ?_;have e:(0:Int)=rqOk (some b.path) q:=by rw [er,hn,h2,blt_eq,h3]; rfl
    exact .of_eq (congrArg vi e)
  ·rw [h2] at he;refine Ps (plcut [2,4]) Tryz.func115 rfl (Nz rfl) ?_;refine Xi .pure (Xi _ (Yi (hl) ?_));refine Xi ⟨[(1,.cptr (encRq b)),(2,.ref 2 0),(7,vi 0)],[(2,.cells (encRq q))],hfree⟩ (Yi ⟨Z3,Z1,Fh,Tv⟩ ?_)
   refine Yi ?_ ?_
   ·intro h; exact absurd rfl h
   intro _;refine Xi ⟨[(1,.cptr (encRq b)),(2,.ref 2 0)],[(2,.cells (encRq q))],hfree⟩ (Yi ⟨Z2,Z1,Fh,Tv⟩ ?_)
   refine Yi ?_ ?_
   ·intro h;have h:((q.set.map encSpan).length:Int)=0:=h;have e:(1:Int)=rqOk (some b.path) q:=by rw [er,hemp rfl h]; rfl
    refine Yi (by kernel_rfl) ?_;exact .of_eq (congrArg vi e)
   intro h;have h:¬ ((q.set.map encSpan).length:Int)=0:=h;have hn:=hnem h;refine Xi _ (Yi (hc) ?_);refine Xi _ (Yi (he) ?_);refine Yi (by kernel_rfl) ?_;have e:(1:Int)=rqOk (some b.path) q:=by rw [er,hn,h2]; rfl
   exact .of_eq (congrArg vi e)
end Go.Eng

namespace Go.Eng
open Go.Proofs
abbrev cellsAt (l:List Rq) (k:Nat):List AV:=((l.map encRq)[k]?).getD []
abbrev bpAt (l:List Rq):Nat→AV
 | 0=>.v (.pointer none)
 | k+1=>.cptr (cellsAt l k)
abbrev befAt (l:List Rq):Nat→Option ByteArray
 | 0=>none
 | k+1=>(l[k]?).map (·.path)
theorem cellsAt_eq {l:List Rq} {k:Nat} (h:k<l.length):cellsAt l k=encRq l[k]:=by
 unfold cellsAt; rw [List.getElem?_map,Ge h]; rfl
theorem befAt_eq {l:List Rq} {k:Nat} (h:k<l.length):befAt l (k+1)=some l[k].path:=by
 show (l[k]?).map _=_; rw [Ge h]; rfl
theorem c65 {nm:ByteArray→ByteArray} (hL:Line nm) (l:List Rq) (hs:∀ q ∈ l,FewQ q):PC 60 [sl encRq l] (vi (checkRqs l)):=by
 refine Ps (plcut [8]) Tryz.func60 rfl (Nz rfl) ?_;refine Yi ?_ ?_
 ·intro h;have h:(16:Int)<(l.map encRq).length:=h;exact .of_eq (congrArg vi (show (7:Int)=checkRqs l by unfold checkRqs; rw [if_pos (by rw [Lm] at h; omega)]))
 intro h;have h:¬ (16:Int)<(l.map encRq).length:=h;have hl:l.length≤16:=by rw [Lm] at h; omega
 have hck:checkRqs l=checkRqsGo none l:=by unfold checkRqs; rw [if_neg (by omega)]
 refine Xi {i:Nat // i≤l.length∧checkRqsGo none l=checkRqsGo (befAt l i) (l.drop i)} (Xi (fun i=>⟨[(0,sl encRq l),(3,bpAt l i.1),(10,sl encRq l),(11,vi (l.map encRq).length),(12,vi i.1)],[],hfree⟩) (Xi (fun i=>l.length - i.1) (Yi (Xi ⟨0,Nat.zero_le _,rfl⟩ ?_) ?_)))
 ·exact ⟨Z5,Tv,Fh,Tv⟩
 intro ⟨i,h1,h2⟩;refine Yi ?_ ?_
 ·intro h;have h:(i:Int)<(l.map encRq).length:=h;have h:i<l.length:=by simpa using h
  have hg:l[i]?=some l[i]:=Ge h;have hd:l.drop i=l[i] :: l.drop (i+1):=List.drop_eq_getElem_cons h;have hq:=hs l[i] (List.getElem_mem h);have hc:PC 115 [.agg (encRq l[i]),bpAt l i] (vi (rqOk (befAt l i) l[i])):=by
   cases i with
   | zero=>exact c110n hL _ hq.1 hq.2
   | succ k =>
    rw [befAt_eq (by omega:k<l.length)];show PC 115 [_,.cptr (cellsAt l k)] _;rw [cellsAt_eq (by omega:k<l.length)];exact c110s hL _ _ hq.1 hq.2
  have hgo:checkRqsGo none l=if rqOk (befAt l i) l[i]=0 then checkRqsGo (some l[i].path) (l.drop (i+1)) else rqOk (befAt l i) l[i]:=by rw [h2,hd]; rfl
  match i,h1,h2,h,hg,hd,hc,hgo with
  | 0,h1,h2,h,hg,hd,hc,hgo =>
   refine Xi (encRq l[0]) (Yi (Yi (by show (0:Int)≤((0:Nat):Int); omega) (by simp [hg])) (Yi rfl ?_));refine Yi (Nz rfl) (Yi (Nz rfl) (Yi (Nz rfl) ?_));refine Xi .pure (Xi _ (Yi (hc) ?_));refine Xi ⟨[(0,sl encRq l),(4,vi ((0:Nat):Int)),(6,vi (rqOk (befAt l (0)) l[0])),(10,sl encRq l),(11,vi (l.map encRq).length),(12,vi ((0:Nat):Int))],[],hfree⟩ (Yi ⟨Z6,Tv,Fh,Tv⟩ ?_)
   refine Yi ?_ ?_
   ·intro h4;have h4:rqOk (befAt l (0)) l[0]≠0:=h4;exact .of_eq (congrArg vi (show rqOk (befAt l (0)) l[0]=checkRqs l by rw [hck,hgo,if_neg h4]))
   ·intro h4;have h4:¬ rqOk (befAt l (0)) l[0]≠0:=h4;refine Xi (encRq l[0]) (Yi (Yi (by show (0:Int)≤((0:Nat):Int); omega) (by simp [hg])) (Yi rfl ?_));refine Yi (by show InI64 (((0:Nat):Int)+1); unfold InI64; omega) ?_;refine Xi ⟨0+1,by omega,by rw [hgo,if_pos (Decidable.of_not_not h4),befAt_eq h]⟩ ?_;have e1:AV.cptr (encRq l[0])=.cptr (cellsAt l (0)):=by rw [cellsAt_eq h]
    exact ⟨by show l.length - (0+1)<l.length - (0); omega,⟨Zr,⟨e1,rfl⟩,Zr,Zr,Zr,Tv⟩,Tv,Fh,Tv⟩
  | k+1,h1,h2,h,hg,hd,hc,hgo =>
   refine Xi (encRq l[k+1]) (Yi (Yi (by show (0:Int)≤((k+1:Nat):Int); omega) (by simp [hg])) (Yi rfl ?_));refine Yi (Nz rfl) (Yi (Nz rfl) (Yi (Nz rfl) ?_));refine Xi .pure (Xi _ (Yi (hc) ?_));refine Xi ⟨[(0,sl encRq l),(4,vi ((k+1:Nat):Int)),(6,vi (rqOk (befAt l (k+1)) l[k+1])),(10,sl encRq l),(11,vi (l.map encRq).length),(12,vi ((k+1:Nat):Int))],[],hfree⟩ (Yi ⟨Z6,Tv,Fh,Tv⟩ ?_)
   refine Yi ?_ ?_
   ·intro h4;have h4:rqOk (befAt l (k+1)) l[k+1]≠0:=h4;exact .of_eq (congrArg vi (show rqOk (befAt l (k+1)) l[k+1]=checkRqs l by rw [hck,hgo,if_neg h4]))
   ·intro h4;have h4:¬ rqOk (befAt l (k+1)) l[k+1]≠0:=h4;refine Xi (encRq l[k+1]) (Yi (Yi (by show (0:Int)≤((k+1:Nat):Int); omega) (by simp [hg])) (Yi rfl ?_));refine Yi (by show InI64 (((k+1:Nat):Int)+1); unfold InI64; omega) ?_;refine Xi ⟨k+1+1,by omega,by rw [hgo,if_pos (Decidable.of_not_not h4),befAt_eq h]⟩ ?_;have e1:AV.cptr (encRq l[k+1])=.cptr (cellsAt l (k+1)):=by rw [cellsAt_eq h]
    exact ⟨by show l.length - (k+1+1)<l.length - (k+1); omega,⟨Zr,⟨e1,rfl⟩,Zr,Zr,Zr,Tv⟩,Tv,Fh,Tv⟩
 ·intro h;have h:¬ (i:Int)<(l.map encRq).length:=h;have h:¬ i<l.length:=by simpa using h
  have e:(0:Int)=checkRqs l:=by rw [hck,h2,List.drop_eq_nil_of_le (by omega)]; rfl
  exact .of_eq (congrArg vi e)
end Go.Eng

namespace Go.Eng
open Go.Proofs
abbrev dgAt (r:Rl):Nat→ByteArray
 | 0=>r.arch
 | 1=>r.ifc
 | _=>r.cert
theorem dg_all {r:Rl} (h:∀ j,j<3→dgOk (dgAt r j)=true):(dgOk r.arch&&dgOk r.ifc&&dgOk r.cert)=true:=by
 have h0:dgOk r.arch=true:=h 0 (by decide);have h1:dgOk r.ifc=true:=h 1 (by decide);have h2:dgOk r.cert=true:=h 2 (by decide);rw [h0,h1,h2]; rfl
theorem dg_not {r:Rl} {i:Nat} (hi:i<3) (h:dgOk (dgAt r i)=false):(dgOk r.arch&&dgOk r.ifc&&dgOk r.cert)=false:=by
 match i,hi,h with
 | 0,_,h=>have h:dgOk r.arch=false:=h; rw [h]; rfl
 | 1,_,h=>have h:dgOk r.ifc=false:=h; rw [h,Bool.and_false]; rfl
 | 2,_,h=>have h:dgOk r.cert=false:=h; rw [h,Bool.and_false]
theorem c107 {nm:ByteArray→ByteArray} (hL:Line nm) (r:Rl) (hr:FewR r):PC 112 [.agg (encRl r)] (vi (checkRl r)):=by
 cases hpm:pathMajor r.path with
 | none =>
  have e:(4:Int)=checkRl r:=by unfold checkRl; rw [hpm]
  have hl:=hL.none hr.1 hpm;refine Ps pl0 Tryz.func112 rfl (Nz rfl) ?_;refine Xi .pure (Xi _ (Yi (hl) ?_));refine Yi ?_ ?_
  ·intro _; exact .of_eq (congrArg vi e)
  ·intro h; exact absurd (show (4:Int)≠0 by decide) h
 | some m =>
  have er:checkRl r=if (!validB r.ver||!decide (r.ver.a=m))=true then 2 else if checkRqs r.reqs≠0 then checkRqs r.reqs else if (dgOk r.arch&&dgOk r.ifc&&dgOk r.cert)=true then 0 else 1:=by unfold checkRl; rw [hpm]
  have hl:=hL.some hr.1 hpm;have hv:=c100 r.ver;have hc:=c65 hL r.reqs hr.2;rcases Bt (validB r.ver) with h2 | h2
  ·rw [h2] at hv;refine Ps (plcut [2,4,6,7,9]) Tryz.func112 rfl (Nz rfl) ?_;refine Xi .pure (Xi _ (Yi (hl) ?_));refine Xi ⟨[(1,.ref 1 0),(4,vi m),(5,vi 0)],[(1,.cells (encRl r))],hfree⟩ (Yi ⟨Z3,Z1,Fh,Tv⟩ ?_)
   refine Yi ?_ ?_
   ·intro h; exact absurd rfl h
   intro _;refine Xi ⟨[(1,.ref 1 0),(4,vi m)],[(1,.cells (encRl r))],hfree⟩ (Yi ⟨Z2,Z1,Fh,Tv⟩ ?_)
   refine Yi (Nz rfl) ?_;refine Xi .pure (Xi _ (Yi (hv) ?_));refine Yi ?_ ?_
   ·intro h;have h:r.ver.a≠m:=h;have e:(2:Int)=checkRl r:=by rw [er,h2,decide_eq_false h]; rfl
    exact .of_eq (congrArg vi e)
   intro h;have h:¬ r.ver.a≠m:=h;have h3:r.ver.a=m:=Decidable.of_not_not h;have er2:checkRl r=if checkRqs r.reqs≠0 then checkRqs r.reqs else if (dgOk r.arch&&dgOk r.ifc&&dgOk r.cert)=true then 0 else 1:=by rw [er,h2,decide_eq_true h3]; rfl
   refine Xi ⟨[(1,.ref 1 0)],[(1,.cells (encRl r))],hfree⟩ (Yi ⟨Z1,Z1,Fh,Tv⟩ ?_)
   refine Xi .pure (Xi _ (Yi (hc) ?_));refine Xi ⟨[(1,.ref 1 0),(6,vi (checkRqs r.reqs))],[(1,.cells (encRl r))],hfree⟩ (Yi ⟨Z2,Z1,Fh,Tv⟩ ?_)
   refine Yi ?_ ?_
   ·intro h4;have h4:checkRqs r.reqs≠0:=h4;exact .of_eq (congrArg vi (show checkRqs r.reqs=checkRl r by rw [er2,if_pos h4]))
   intro h4;have h4:¬ checkRqs r.reqs≠0:=h4;have er3:checkRl r=if (dgOk r.arch&&dgOk r.ifc&&dgOk r.cert)=true then 0 else 1:=by rw [er2,if_neg h4]
   refine Xi ⟨[(1,.ref 1 0)],[(1,.cells (encRl r))],hfree⟩ (Yi ⟨Z1,Z1,Fh,Tv⟩ ?_)
   refine Xi {i:Nat // i≤3∧∀ j,j<i→dgOk (dgAt r j)=true} (Xi (fun i=>⟨[(41,.slice (.id 41 1) [[vs r.arch],[vs r.ifc],[vs r.cert]]),(42,vi 3),(43,vi i.1)],[(41,.tok 1 3)],hfree⟩) (Xi (fun i=>3 - i.1) (Yi (Xi ⟨0,by omega,fun j h=>by omega⟩ ?_) ?_)))
   ·exact ⟨Z3,Z1,Fh,Tv⟩
   intro ⟨i,i1,i2⟩;refine Yi ?_ ?_
   ·intro h;have h:(i:Int)<3:=h;have next:dgOk (dgAt r i)=true→∀ j,j<i+1→dgOk (dgAt r j)=true:=fun hz j hj=>by
     rcases Nat.lt_or_ge j i with q | q
     ·exact i2 j q
     ·have:j=i:=by omega
      subst this; exact hz
    match i,i1,i2,h,next with
    | 0,i1,i2,h,next =>
     refine Xi [vs r.arch] (Yi (Yi (by show (0:Int)≤0; decide) rfl) (Yi rfl ?_));refine Yi ?_ ?_
     ·intro h5;have h5:((r.arch.size:Nat):Int)≠0:=h5;refine Yi ?_ ?_
      ·intro h6;have h6:((r.arch.size:Nat):Int)≠32:=h6;have e:(1:Int)=checkRl r:=by rw [er3,dg_not (i:=0) (by decide) (show dgOk r.arch=false by unfold dgOk; rw [decide_eq_false (by omega),decide_eq_false (by omega)]; rfl)]; rfl
       exact .of_eq (congrArg vi e)
      ·intro h6;have h6:¬ ((r.arch.size:Nat):Int)≠32:=h6;refine Yi (Ii 0 (by omega)) ?_;refine Xi ⟨1,by omega,next (show dgOk r.arch=true by unfold dgOk; rw [decide_eq_true (by omega:r.arch.size=32),Bool.or_true])⟩ ?_
       exact ⟨by show 3 - 1<3 - 0; decide,Z3,Z1,Fh,Tv⟩
     ·intro h5;have h5:¬ ((r.arch.size:Nat):Int)≠0:=h5;refine Yi (Ii 0 (by omega)) ?_;refine Xi ⟨1,by omega,next (show dgOk r.arch=true by unfold dgOk; rw [decide_eq_true (by omega:r.arch.size=0)]; rfl)⟩ ?_
      exact ⟨by show 3 - 1<3 - 0; decide,Z3,Z1,Fh,Tv⟩
    | 1,i1,i2,h,next =>
     refine Xi [vs r.ifc] (Yi (Yi (by show (0:Int)≤1; decide) rfl) (Yi rfl ?_));refine Yi ?_ ?_
     ·intro h5;have h5:((r.ifc.size:Nat):Int)≠0:=h5;refine Yi ?_ ?_
      ·intro h6;have h6:((r.ifc.size:Nat):Int)≠32:=h6;have e:(1:Int)=checkRl r:=by rw [er3,dg_not (i:=1) (by decide) (show dgOk r.ifc=false by unfold dgOk; rw [decide_eq_false (by omega),decide_eq_false (by omega)]; rfl)]; rfl
       exact .of_eq (congrArg vi e)
      ·intro h6;have h6:¬ ((r.ifc.size:Nat):Int)≠32:=h6;refine Yi (Ii 1 (by omega)) ?_;refine Xi ⟨2,by omega,next (show dgOk r.ifc=true by unfold dgOk; rw [decide_eq_true (by omega:r.ifc.size=32),Bool.or_true])⟩ ?_
       exact ⟨by show 3 - 2<3 - 1; decide,Z3,Z1,Fh,Tv⟩
     ·intro h5;have h5:¬ ((r.ifc.size:Nat):Int)≠0:=h5;refine Yi (Ii 1 (by omega)) ?_;refine Xi ⟨2,by omega,next (show dgOk r.ifc=true by unfold dgOk; rw [decide_eq_true (by omega:r.ifc.size=0)]; rfl)⟩ ?_
      exact ⟨by show 3 - 2<3 - 1; decide,Z3,Z1,Fh,Tv⟩
    | 2,i1,i2,h,next =>
     refine Xi [vs r.cert] (Yi (Yi (by show (0:Int)≤2; decide) rfl) (Yi rfl ?_));refine Yi ?_ ?_
     ·intro h5;have h5:((r.cert.size:Nat):Int)≠0:=h5;refine Yi ?_ ?_
      ·intro h6;have h6:((r.cert.size:Nat):Int)≠32:=h6;have e:(1:Int)=checkRl r:=by rw [er3,dg_not (i:=2) (by decide) (show dgOk r.cert=false by unfold dgOk; rw [decide_eq_false (by omega),decide_eq_false (by omega)]; rfl)]; rfl
       exact .of_eq (congrArg vi e)
      ·intro h6;have h6:¬ ((r.cert.size:Nat):Int)≠32:=h6;refine Yi (Ii 2 (by omega)) ?_;refine Xi ⟨3,by omega,next (show dgOk r.cert=true by unfold dgOk; rw [decide_eq_true (by omega:r.cert.size=32),Bool.or_true])⟩ ?_
       exact ⟨by show 3 - 3<3 - 2; decide,Z3,Z1,Fh,Tv⟩
     ·intro h5;have h5:¬ ((r.cert.size:Nat):Int)≠0:=h5;refine Yi (Ii 2 (by omega)) ?_;refine Xi ⟨3,by omega,next (show dgOk r.cert=true by unfold dgOk; rw [decide_eq_true (by omega:r.cert.size=0)]; rfl)⟩ ?_
      exact ⟨by show 3 - 3<3 - 2; decide,Z3,Z1,Fh,Tv⟩
    | i+3,i1,i2,h,next=>omega
   ·intro h;have h:¬ (i:Int)<3:=h;have e:(0:Int)=checkRl r:=by rw [er3,if_pos (dg_all fun j hj=>i2 j (by omega))]
    exact .of_eq (congrArg vi e)
  ·rw [h2] at hv;have e:(2:Int)=checkRl r:=by rw [er,h2]; rfl
   refine Ps (plcut [2,4]) Tryz.func112 rfl (Nz rfl) ?_;refine Xi .pure (Xi _ (Yi (hl) ?_));refine Xi ⟨[(1,.ref 1 0),(4,vi m),(5,vi 0)],[(1,.cells (encRl r))],hfree⟩ (Yi ⟨Z3,Z1,Fh,Tv⟩ ?_)
   refine Yi ?_ ?_
   ·intro h; exact absurd rfl h
   intro _;refine Xi ⟨[(1,.ref 1 0),(4,vi m)],[(1,.cells (encRl r))],hfree⟩ (Yi ⟨Z2,Z1,Fh,Tv⟩ ?_)
   refine Yi (Nz rfl) ?_;refine Xi .pure (Xi _ (Yi (hv) ?_));exact .of_eq (congrArg vi e)
end Go.Eng

namespace Go.Eng
open Go.Proofs
theorem key_eq {a b:Rl} (h:a.path=b.path∧a.ver.a=b.ver.a∧a.ver.b=b.ver.b∧a.ver.c=b.ver.c):keyR a=keyR b:=by
 unfold keyR;obtain ⟨h1,h2,h3,h4⟩:=h
 have:a.ver=b.ver:=by
  cases ha:a.ver; cases hb:b.ver; rw [ha,hb] at h2 h3 h4; simp_all
 rw [h1,this]
theorem key_parts {a b:Rl} (h:keyR a=keyR b):a.path=b.path∧a.ver.a=b.ver.a∧a.ver.b=b.ver.b∧a.ver.c=b.ver.c:=by
 unfold keyR at h
 injection h with h1 h2
 exact ⟨h1,by rw [h2],by rw [h2],by rw [h2]⟩
abbrev befR (x:List Rl):Nat→Option Rl
 | 0=>none
 | k+1=>x[k]?
theorem c64 {nm:ByteArray→ByteArray} (hL:Line nm) (x:List Rl) (ifs:List (List AV)) (hs:∀ r ∈ x,FewR r):PC 59 [.agg (Ic x ifs)] (vi (checkIx x)):=by
 refine Ps (plcut [7,9,11,13]) Tryz.func59 rfl (Nz rfl) ?_;refine Yi ?_ ?_
 ·intro h;have h:(256:Int)<(x.map encRl).length:=h;exact .of_eq (congrArg vi (show (7:Int)=checkIx x by unfold checkIx; rw [if_pos (by rw [Lm] at h; omega)]))
 intro h;have h:¬ (256:Int)<(x.map encRl).length:=h;have hl:x.length≤256:=by rw [Lm] at h; omega
 have hck:checkIx x=checkIxGo none x:=by unfold checkIx; rw [if_neg (by omega)]
 refine Xi {i:Nat // i≤x.length∧checkIxGo none x=checkIxGo (befR x i) (x.drop i)} (Xi (fun i=>⟨[(1,.ref 1 0),(12,sl encRl x),(13,vi (x.map encRl).length),(14,vi i.1)],[(1,.cells (Ic x ifs))],hfree⟩) (Xi (fun i=>x.length - i.1) (Yi (Xi ⟨0,Nat.zero_le _,rfl⟩ ?_) ?_)))
 ·exact ⟨Z4,Z1,Fh,Tv⟩
 intro ⟨i,h1,h2⟩;refine Yi ?_ ?_
 ·intro h;have h:(i:Int)<(x.map encRl).length:=h;have h:i<x.length:=by simpa using h
  have hg:x[i]?=some x[i]:=Ge h;have hd:x.drop i=x[i] :: x.drop (i+1):=List.drop_eq_getElem_cons h;have hc:=c107 hL x[i] (hs x[i] (List.getElem_mem h));have hgo:checkIxGo none x=if checkRl x[i]≠0 then checkRl x[i] else match befR x i with
   | none=>checkIxGo (some x[i]) (x.drop (i+1))
   | some b=>if keyR b=keyR x[i] then 5 else if 0<cmpR b x[i] then 1 else checkIxGo (some x[i]) (x.drop (i+1)):=by rw [h2,hd]; rfl
  have hnext:befR x (i+1)=some x[i]:=Ge h;refine Xi (encRl x[i]) (Yi (Yi (Nn i) (by simp [hg])) (Yi rfl ?_));refine Yi (Nz rfl) (Yi (Nz rfl) (Yi (Nz rfl) ?_));refine Xi .pure (Xi _ (Yi (hc) ?_));refine Xi ⟨[(1,.ref 1 0),(3,vi i),(4,.ref 4 0),(5,vi (checkRl x[i])),(12,sl encRl x),(13,vi (x.map encRl).length),(14,vi i)],[(1,.cells (Ic x ifs)),(4,.cells (encRl x[i]))],hfree⟩ (Yi ⟨Z7,Z2,Fh,Tv⟩ ?_)
  refine Yi ?_ ?_
  ·intro h4;have h4:checkRl x[i]≠0:=h4;exact .of_eq (congrArg vi (show checkRl x[i]=checkIx x by rw [hck,hgo,if_pos h4]))
  intro h4;have h4:¬ checkRl x[i]≠0:=h4;refine Xi ⟨[(1,.ref 1 0),(3,vi i),(4,.ref 4 0),(12,sl encRl x),(13,vi (x.map encRl).length),(14,vi i)],[(1,.cells (Ic x ifs)),(4,.cells (encRl x[i]))],hfree⟩ (Yi ⟨Z6,Z2,Fh,Tv⟩ ?_)
  refine Yi ?_ ?_
  ·intro h5;have h5:(i:Int)=0:=h5;have h6:i=0:=by omega
   refine Yi (Ii i (by omega)) ?_;refine Xi ⟨i+1,by omega,by rw [hgo,if_neg h4,hnext]; subst h6; rfl⟩ ?_;exact ⟨Dl x.length i (by omega),Z4,Z1,Fh,Tv⟩
  intro h5;have h5:¬ (i:Int)=0:=h5;have hi1:i - 1<x.length:=by omega
  have hb:befR x i=some x[i - 1]:=by
   obtain ⟨k,rfl⟩ : ∃ k,i=k+1:=⟨i - 1,by omega⟩;exact Ge (by omega)
  have hgo2:checkIxGo none x=if keyR x[i - 1]=keyR x[i] then 5 else if 0<cmpR x[i - 1] x[i] then 1 else checkIxGo (some x[i]) (x.drop (i+1)):=by rw [hgo,if_neg h4,hb]
  refine Yi (by show InI64 ((i:Int) - 1); unfold InI64; omega) ?_;have hg1:(x.map encRl)[((i:Int) - 1).toNat]?=some (encRl x[i - 1]):=by rw [show ((i:Int) - 1).toNat=i - 1 by omega]; exact map_at (Ge hi1)
  refine Xi (encRl x[i - 1]) (Yi (Yi (by show (0:Int)≤(i:Int) - 1; omega) hg1) (Yi rfl ?_));refine Yi (Nz rfl) (Yi (Nz rfl) ?_);refine Xi ⟨[(1,.ref 1 0),(4,.ref 4 0),(6,.ref 6 0),(12,sl encRl x),(13,vi (x.map encRl).length),(14,vi i)],[(1,.cells (Ic x ifs)),(4,.cells (encRl x[i])),(6,.cells (encRl x[i - 1]))],hfree⟩ (Yi ⟨Z6,Z3,Fh,Tv⟩ ?_)
  refine Yi (Nz rfl) ?_;refine Xi _ (Yi (c108 x[i - 1]) ?_);refine Yi (Nz rfl) ?_;refine Xi _ (Yi (c108 x[i]) ?_);refine Yi ?_ ?_
  ·intro h6;refine Yi (by kernel_rfl) ?_;have e:(5:Int)=checkIx x:=by rw [hck,hgo2,if_pos (key_eq ⟨h6.1,h6.2.1,h6.2.2.1,h6.2.2.2.1⟩)]
   exact .of_eq (congrArg vi e)
  intro h6;refine Yi (by kernel_rfl) ?_;have h7:¬ keyR x[i - 1]=keyR x[i]:=fun e=>by
   have e:=key_parts e;exact h6 ⟨e.1,e.2.1,e.2.2.1,e.2.2.2,trivial⟩
  refine Xi ⟨[(1,.ref 1 0),(4,.ref 4 0),(6,.ref 6 0),(12,sl encRl x),(13,vi (x.map encRl).length),(14,vi i)],[(1,.cells (Ic x ifs)),(4,.cells (encRl x[i])),(6,.cells (encRl x[i - 1]))],hfree⟩ (Yi ⟨Z6,Z3,Fh,Tv⟩ ?_)
  refine Yi (Nz rfl) (Yi (Nz rfl) ?_);refine Xi .pure (Xi _ (Yi (c109 x[i - 1] x[i]) ?_));refine Yi ?_ ?_
  ·intro h8;have h8:(0:Int)<cmpR x[i - 1] x[i]:=h8;have e:(1:Int)=checkIx x:=by rw [hck,hgo2,if_neg h7,if_pos h8]
   exact .of_eq (congrArg vi e)
  ·intro h8;have h8:¬ (0:Int)<cmpR x[i - 1] x[i]:=h8;refine Yi (Ii i (by omega)) ?_;refine Xi ⟨i+1,by omega,by rw [hgo2,if_neg h7,if_neg h8,hnext]⟩ ?_;exact ⟨Dl x.length i (by omega),Z4,Z1,Fh,Tv⟩
 ·intro h;have h:¬ (i:Int)<(x.map encRl).length:=h;have h:¬ i<x.length:=by simpa using h
  have e:(0:Int)=checkIx x:=by rw [hck,h2,List.drop_eq_nil_of_le (by omega)]; rfl
  exact .of_eq (congrArg vi e)
end Go.Eng

namespace Go.Eng
open Go.Proofs
end Go.Eng
