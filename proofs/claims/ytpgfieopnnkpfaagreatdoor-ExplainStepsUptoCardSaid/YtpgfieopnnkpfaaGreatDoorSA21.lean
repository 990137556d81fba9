/- Lemmas for the claims of this seat, without a condition: part 21 (C69, C56, C57, C58, C59). -/
import Derived.Test.YtpgfieopnnkpfaaGreatDoorSA20
namespace Go.Eng
open Go.Proofs
def nextStep (before:List Sl) (acc:Option ByteArray) (q:Rq):Option ByteArray:=if hasPath before q.path then acc else match acc with
  | none=>some q.path
  | some p=>if blt q.path p then some q.path else some p
theorem nextGo_append (before:List Sl):∀ (a b:List Rq) (acc:Option ByteArray),nextGo before (a++b) acc=nextGo before b (nextGo before a acc)
 | [],_,_=>rfl
 | q :: a,b,acc=>nextGo_append before a b (if hasPath before q.path then acc else match acc with | none=>some q.path | some p=>if blt q.path p then some q.path else some p)
abbrev outStep (l:List ByteArray) (v:Vis):List ByteArray:=l++[v.rel.path]
theorem nextGo_take (before:List Sl) (l:List Rq) (acc:Option ByteArray) {j:Nat} (h:j<l.length):nextGo before (l.take (j+1)) acc=nextStep before (nextGo before (l.take j) acc) l[j]:=by
 rw [List.take_add_one,Ge h];show nextGo before (l.take j++[l[j]]) acc=_;rw [nextGo_append]; rfl
structure DI {S:Type} (x:List Rl) (roots:List Rq) (s:List Sl) (step:S→Vis→S) (st0:S) (before:List Sl) (needs:List Rq) (n:Nat) (st:S):Prop where
 nd:(before.map (·.path)).Nodup
 sub:∀ y ∈ before,y ∈ s
 fuel:before.length+n=s.length+1
 few:∀ q ∈ needs,Few q.set
 len:needs.length≤roots.length+16*before.length
 ok:(visits x roots s).2=(decideP x s n before needs).2
 fold:(visits x roots s).1.foldl step st0=(decideP x s n before needs).1.foldl step st
section
variable {S:Type} {x:List Rl} {roots:List Rq} {s:List Sl} {step:S→Vis→S} {st0:S} {before:List Sl} {needs:List Rq} {n:Nat} {st:S}
theorem DI.start (hq:∀ q ∈ roots,Few q.set) (st0:S):DI x roots s step st0 [] roots (s.length+1) st0 :=
 ⟨by simp,fun _ h=>(by cases h),by simp,hq,by simp,rfl,rfl⟩
theorem DI.lt (h:DI x roots s step st0 before needs n st):before.length≤s.length:=by
 have:=nodup_sub_len (m:=s.map (·.path)) h.nd fun p hp=>by
  obtain ⟨y,hy,e⟩:=List.mem_map.1 hp;exact List.mem_map.2 ⟨y,h.sub y hy,e⟩
 simpa using this
theorem DI.pos (h:DI x roots s step st0 before needs n st):∃ m,n=m+1:=by
 have:=h.lt
 have:=h.fuel
 exact ⟨n - 1,by omega⟩
theorem DI.stop {m:Nat} (h:DI x roots s step st0 before needs (m+1) st) (hp:nextP needs before=none):(visits x roots s).2=true∧(visits x roots s).1.foldl step st0=st:=by
 have h1:=h.ok;have h2:=h.fold;unfold decideP at h1 h2;rw [hp] at h1 h2;exact ⟨h1,h2⟩
theorem DI.lost {m:Nat} (h:DI x roots s step st0 before needs (m+1) st) {p:ByteArray} (hp:nextP needs before=some p) (hf:findSl s p=none):(visits x roots s).2=false∧(visits x roots s).1.foldl step st0=st:=by
 have h1:=h.ok;have h2:=h.fold;unfold decideP at h1 h2;rw [hp] at h1 h2;simp only [hf] at h1 h2;exact ⟨h1,h2⟩
theorem DI.gone {m:Nat} (h:DI x roots s step st0 before needs (m+1) st) {p:ByteArray} {y:Sl} (hp:nextP needs before=some p) (hf:findSl s p=some y) (hr:findRl x y=none):(visits x roots s).2=false∧(visits x roots s).1.foldl step st0=st:=by
 have h1:=h.ok;have h2:=h.fold;unfold decideP at h1 h2;rw [hp] at h1 h2;simp only [hf,hr] at h1 h2;exact ⟨h1,h2⟩
theorem DI.next {m:Nat} (h:DI x roots s step st0 before needs (m+1) st) {p:ByteArray} {y:Sl} {r:Rl} (hp:nextP needs before=some p) (hf:findSl s p=some y) (hr:findRl x y=some r) (hl:r.reqs.length≤16) (hq:∀ q ∈ r.reqs,Few q.set) :
  DI x roots s step st0 (before++[y]) (needs++r.reqs) m (step st ⟨before,needs,r⟩):=by
 have h1:=h.ok;have h2:=h.fold;unfold decideP at h1 h2;rw [hp] at h1 h2;simp only [hf,hr] at h1 h2;obtain ⟨g1,g2⟩:=nextP_some hp;have hy:=findSl_mem hf;have hyp:=findSl_path hf;refine ⟨?_,fun z hz=>?_,?_,fun q hq'=>?_,?_,h1,h2⟩
 ·rw [List.map_append,List.nodup_append];refine ⟨h.nd,by simp,fun a ha b hb=>?_⟩;have hb:b=y.path:=by simpa using hb
  intro e;subst e
  have:=hasPath_mem.2 ha
  rw [hb,hyp,g1] at this; cases this
 ·rcases List.mem_append.1 hz with hz | hz
  ·exact h.sub z hz
  ·rw [List.mem_singleton.1 hz]; exact hy
 ·have:=h.fuel; rw [List.length_append,List.length_singleton]; omega
 ·rcases List.mem_append.1 hq' with hq' | hq'
  ·exact h.few q hq'
  ·exact hq q hq'
 ·have:=h.len; rw [List.length_append,List.length_append,List.length_singleton]; omega
end
theorem idx_find1 (s:List Sl) (p:ByteArray):(idx (fun y:Sl=>decide (y.path=p)) s 0=-1∧findSl s p=none)∨∃ i y,idx (fun y:Sl=>decide (y.path=p)) s 0=(i:Nat)∧s[i]?=some y∧findSl s p=some y:=by
 rcases idx_find (p:=fun y:Sl=>decide (y.path=p)) s 0 with h | ⟨i,y,h1,h2,h3⟩
 ·exact .inl h
 ·exact .inr ⟨i,y,by omega,h2,h3⟩
abbrev pl42:Pol:=⟨[12],[(8,4)],[],[(49,[9])],[],[],[],[],[],[],[3,8,9,11,12,14,15,17,18,20,21]⟩
theorem c42d (x:List Rl) (ifs:List (List AV)) (roots:List Rq) (d:List (List Tm)) (s:List Sl)  (st0:List ByteArray) (h84:H84 x ifs) (h0:checkIx x=0) (hx:∀ r ∈ x,FewR r) (hrl:roots.length≤1000) (hrq:∀ q ∈ roots,Few q.set) (hs:s.length≤500) (hst0:st0.length=0) :
  ACall Tryz.prog 84 [.cptr (encCk x (.slice .none ifs) roots d),sl encSl s,.clo 89 [.ref 1000 0]] (heapOf (dH st0) hfree) fun r h'=>r=vb (visits x roots s).2∧h'=heapOf (dH ((visits x roots s).1.foldl (outStep) st0)) hfree:=by
 have hxr:=(ix_few h0).2;have hrf:Few roots:=by unfold Few; omega
 refine acall_sub (cxe pl42) [(1000,1000),(1001,1001)] rfl tab_ok hm rfl Tryz.func84 (by kernel_rfl) rfl (Nz rfl) (by kernel_rfl) rfl ?_;refine Xi (.gen [] 1) (Yi rfl ((c76t roots hrf).imp ?_));intro v g q;have q1:=q.1;have q2:=q.2;subst q1;subst q2
 clear q
 refine Xi {p:List Sl × List Rq × Nat × List ByteArray // DI x roots s (outStep) st0 p.1 p.2.1 p.2.2.1 p.2.2.2∧p.2.2.2.length=p.1.length} (Xi (fun p=>⟨[(0,.cptr (encCk x (.slice .none ifs) roots d)),(1,sl encSl s),(2,.clo 89 [.ref 1000 0]),(7,.slice (.id 12100 2) (p.1.2.1.map encRq)),(8,.slice (.id 8 4) (p.1.1.map encSl))],[(8,.tok 4 (p.1.1.map encSl).length),(12100,.tok 2 (p.1.2.1.map encRq).length),(1000,.cells [.slice (.id 1001 1) (List.map encStr1 p.1.2.2.2)]),(1001,.tok 1 (List.map encStr1 p.1.2.2.2).length)],hfree⟩) (Xi (fun p=>p.1.2.2.1) (Yi (Xi ⟨([],roots,s.length+1,st0),⟨DI.start hrq st0,hst0⟩⟩ ?_) ?_)))
 ·exact ⟨Z5,Z4,Fh,ext_dec (by kernel_rfl)⟩
 intro ⟨⟨before,needs,n,st⟩,inv⟩;have ex:st.length=before.length:=inv.2;have inv:DI x roots s (outStep) st0 before needs n st:=inv.1;refine Exists.elim inv.pos (fun m hm'=>?_);have inv:DI x roots s (outStep) st0 before needs (m+1) st:=hm'▸inv;have hbl:=inv.lt;have hnl:=inv.len;have hnf:Few needs:=by unfold Few; omega
 have hbf:Few before:=by unfold Few; omega
 refine Xi ⟨[(0,.cptr (encCk x (.slice .none ifs) roots d)),(1,sl encSl s),(2,.clo 89 [.ref 1000 0]),(7,.slice (.id 12100 2) (needs.map encRq)),(8,.slice (.id 8 4) (before.map encSl))],[(8,.tok 4 (before.map encSl).length),(12100,.tok 2 (needs.map encRq).length),(1000,.cells [.slice (.id 1001 1) (List.map encStr1 st)]),(1001,.tok 1 (List.map encStr1 st).length)],hfree⟩ (Yi ⟨Z5,Z4,Fh,ext_dec (by kernel_rfl)⟩ ?_)
 refine Yi (Nz rfl) ?_;refine Xi {p:Nat × Option ByteArray // p.1≤needs.length∧p.2=nextGo before (needs.take p.1) none} (Xi (fun p=>⟨[(0,.cptr (encCk x (.slice .none ifs) roots d)),(1,sl encSl s),(2,.clo 89 [.ref 1000 0]),(7,.slice (.id 12100 2) (needs.map encRq)),(8,.slice (.id 8 4) (before.map encSl)),(9,.ref 9 0),(10,vb p.1.2.isSome),(22,.slice (.id 12100 2) (needs.map encRq)),(23,vi (needs.map encRq).length),(24,vi p.1.1)],[(8,.tok 4 (before.map encSl).length),(12100,.tok 2 (needs.map encRq).length),(1000,.cells [.slice (.id 1001 1) (List.map encStr1 st)]),(1001,.tok 1 (List.map encStr1 st).length),(9,.cells [vs (p.1.2.getD mt)])],hfree⟩) (Xi (fun p=>needs.length - p.1.1) (Yi (Xi ⟨(0,none),Nat.zero_le _,rfl⟩ ?_) ?_)))
 ·exact ⟨Z10,Z5,Fh,ext_dec (by kernel_rfl)⟩
 intro ⟨⟨j,acc⟩,j1,j2⟩;have j1:j≤needs.length:=j1;have j2:acc=nextGo before (needs.take j) none:=j2;refine Yi ?_ ?_
 ·intro h;have h:(j:Int)<(needs.map encRq).length:=h;have h:j<needs.length:=by simpa using h
  have hg:needs[j]?=some needs[j]:=Ge h;have hnx:=nextGo_take before needs none h;rw [← j2] at hnx;refine Xi (encRq needs[j]) (Yi (Yi (Nn j) (by simp [hg])) (Yi rfl ?_));refine Yi (Nz rfl) (Yi (Nz rfl) ?_);refine Xi ⟨[(0,.cptr (encCk x (.slice .none ifs) roots d)),(1,sl encSl s),(2,.clo 89 [.ref 1000 0]),(7,.slice (.id 12100 2) (needs.map encRq)),(8,.slice (.id 8 4) (before.map encSl)),(9,.ref 9 0),(10,vb acc.isSome),(12,.ref 12 0),(22,.slice (.id 12100 2) (needs.map encRq)),(23,vi (needs.map encRq).length),(24,vi j)],[(8,.tok 4 (before.map encSl).length),(12100,.tok 2 (needs.map encRq).length),(1000,.cells [.slice (.id 1001 1) (List.map encStr1 st)]),(1001,.tok 1 (List.map encStr1 st).length),(9,.cells [vs (acc.getD mt)]),(12,.ro (encRq needs[j]))],hfree⟩ (Yi ⟨Z11,Z6,Fh,ext_dec (by kernel_rfl)⟩ ?_)
  have hc51:PC 145 [sl encSl before,.clo 146 [.cptr (encRq needs[j])]] (vb (hasPath before needs[j].path)):=c51 (fF:=146) (caps:=[.cptr (encRq needs[j])]) (fun c hc=>by
   obtain rfl:=List.mem_singleton.1 hc;intro h; rfl) before (fun y=>decide (y.path=needs[j].path)) (fun y _=>c77 y needs[j]) hbf
  refine Or.elim (Bt (hasPath before needs[j].path)) (fun hd=>?_) (fun hd=>?_)
  ·rw [hd] at hc51;refine Xi .pure (Xi _ (Yi (hc51) ?_));have hst:nextStep before acc needs[j]=acc:=by unfold nextStep; rw [if_pos hd]
   refine Xi ⟨[(0,.cptr (encCk x (.slice .none ifs) roots d)),(1,sl encSl s),(2,.clo 89 [.ref 1000 0]),(7,.slice (.id 12100 2) (needs.map encRq)),(8,.slice (.id 8 4) (before.map encSl)),(9,.ref 9 0),(10,vb acc.isSome),(13,vb true),(22,.slice (.id 12100 2) (needs.map encRq)),(23,vi (needs.map encRq).length),(24,vi j)],[(8,.tok 4 (before.map encSl).length),(12100,.tok 2 (needs.map encRq).length),(1000,.cells [.slice (.id 1001 1) (List.map encStr1 st)]),(1001,.tok 1 (List.map encStr1 st).length),(9,.cells [vs (acc.getD mt)])],hfree⟩ (Yi ⟨Z11,Z5,Fh,ext_dec (by kernel_rfl)⟩ ?_)
   refine Xi ⟨[(0,.cptr (encCk x (.slice .none ifs) roots d)),(1,sl encSl s),(2,.clo 89 [.ref 1000 0]),(7,.slice (.id 12100 2) (needs.map encRq)),(8,.slice (.id 8 4) (before.map encSl)),(9,.ref 9 0),(10,vb (nextStep before acc needs[j]).isSome),(22,.slice (.id 12100 2) (needs.map encRq)),(23,vi (needs.map encRq).length),(24,vi j)],[(8,.tok 4 (before.map encSl).length),(12100,.tok 2 (needs.map encRq).length),(1000,.cells [.slice (.id 1001 1) (List.map encStr1 st)]),(1001,.tok 1 (List.map encStr1 st).length),(9,.cells [vs ((nextStep before acc needs[j]).getD mt)])],hfree⟩ (Yi ⟨⟨Zr,Zr,Zr,Zr,Zr,Zr,⟨congrArg vb (congrArg Option.isSome hst.symm),rfl⟩,Zr,Zr,Zr,Tv⟩,⟨Zr,Zr,Zr,Zr,⟨congrArg (fun a=>HO.cells [vs (Option.getD a mt)]) hst.symm,rfl⟩,Tv⟩,Fh,ext_dec (by kernel_rfl)⟩ ?_)
   refine Yi (Ii j (by omega)) ?_;refine Xi ⟨(j+1,nextStep before acc needs[j]),by show j+1≤_; omega,hnx.symm⟩ ?_;exact ⟨Dl needs.length j (by omega),Z10,Z5,Fh,ext_dec (by kernel_rfl)⟩
  rw [hd] at hc51;refine Xi .pure (Xi _ (Yi (hc51) ?_));refine Or.elim (show acc=none∨∃ p,acc=some p by cases acc with | none=>exact .inl rfl | some p=>exact .inr ⟨p,rfl⟩) (fun ha=>?_) (fun ha=>?_)
  ·have hst:nextStep before acc needs[j]=some needs[j].path:=by unfold nextStep; rw [if_neg (by rw [hd]; decide),ha]
   refine Xi ⟨[(0,.cptr (encCk x (.slice .none ifs) roots d)),(1,sl encSl s),(2,.clo 89 [.ref 1000 0]),(7,.slice (.id 12100 2) (needs.map encRq)),(8,.slice (.id 8 4) (before.map encSl)),(9,.ref 9 0),(10,vb false),(12,.ref 12 0),(13,vb false),(22,.slice (.id 12100 2) (needs.map encRq)),(23,vi (needs.map encRq).length),(24,vi j)],[(8,.tok 4 (before.map encSl).length),(12100,.tok 2 (needs.map encRq).length),(1000,.cells [.slice (.id 1001 1) (List.map encStr1 st)]),(1001,.tok 1 (List.map encStr1 st).length),(9,.cells [vs mt]),(12,.ro (encRq needs[j]))],hfree⟩ (Yi ⟨⟨Zr,Zr,Zr,Zr,Zr,Zr,⟨by show vb acc.isSome=vb false; rw [ha]; rfl,rfl⟩,Zr,Zr,Zr,Zr,Zr,Tv⟩,⟨Zr,Zr,Zr,Zr,⟨by show HO.cells [vs (acc.getD mt)]=HO.cells [vs mt]; rw [ha]; rfl,rfl⟩,Zr,Tv⟩,Fh,ext_dec (by kernel_rfl)⟩ ?_)
   refine Yi (Nz rfl) ?_;refine Xi ⟨[(0,.cptr (encCk x (.slice .none ifs) roots d)),(1,sl encSl s),(2,.clo 89 [.ref 1000 0]),(7,.slice (.id 12100 2) (needs.map encRq)),(8,.slice (.id 8 4) (before.map encSl)),(9,.ref 9 0),(10,vb (nextStep before acc needs[j]).isSome),(22,.slice (.id 12100 2) (needs.map encRq)),(23,vi (needs.map encRq).length),(24,vi j)],[(8,.tok 4 (before.map encSl).length),(12100,.tok 2 (needs.map encRq).length),(1000,.cells [.slice (.id 1001 1) (List.map encStr1 st)]),(1001,.tok 1 (List.map encStr1 st).length),(9,.cells [vs ((nextStep before acc needs[j]).getD mt)])],hfree⟩ (Yi ⟨⟨Zr,Zr,Zr,Zr,Zr,Zr,⟨by show vb true=_; rw [hst]; rfl,rfl⟩,Zr,Zr,Zr,Tv⟩,⟨Zr,Zr,Zr,Zr,⟨by show HO.cells [vs needs[j].path]=_; rw [hst]; rfl,rfl⟩,Tv⟩,Fh,ext_dec (by kernel_rfl)⟩ ?_)
   refine Yi (Ii j (by omega)) ?_;refine Xi ⟨(j+1,nextStep before acc needs[j]),by show j+1≤_; omega,hnx.symm⟩ ?_;exact ⟨Dl needs.length j (by omega),Z10,Z5,Fh,ext_dec (by kernel_rfl)⟩
  refine Exists.elim ha (fun p ha=>?_);refine Xi ⟨[(0,.cptr (encCk x (.slice .none ifs) roots d)),(1,sl encSl s),(2,.clo 89 [.ref 1000 0]),(7,.slice (.id 12100 2) (needs.map encRq)),(8,.slice (.id 8 4) (before.map encSl)),(9,.ref 9 0),(10,vb true),(12,.ref 12 0),(13,vb false),(22,.slice (.id 12100 2) (needs.map encRq)),(23,vi (needs.map encRq).length),(24,vi j)],[(8,.tok 4 (before.map encSl).length),(12100,.tok 2 (needs.map encRq).length),(1000,.cells [.slice (.id 1001 1) (List.map encStr1 st)]),(1001,.tok 1 (List.map encStr1 st).length),(9,.cells [vs p]),(12,.ro (encRq needs[j]))],hfree⟩ (Yi ⟨⟨Zr,Zr,Zr,Zr,Zr,Zr,⟨by show vb acc.isSome=vb true; rw [ha]; rfl,rfl⟩,Zr,Zr,Zr,Zr,Zr,Tv⟩,⟨Zr,Zr,Zr,Zr,⟨by show HO.cells [vs (acc.getD mt)]=HO.cells [vs p]; rw [ha]; rfl,rfl⟩,Zr,Tv⟩,Fh,ext_dec (by kernel_rfl)⟩ ?_)
  refine Yi ?_ ?_
  ·intro hb;have hb:Op.bytesLess needs[j].path.toList p.toList=true:=hb;rw [← blt_eq] at hb;have hst:nextStep before acc needs[j]=some needs[j].path:=by unfold nextStep; rw [if_neg (by rw [hd]; decide),ha]; show (if _ then _ else _)=_; rw [if_pos hb]
   refine Yi (Nz rfl) ?_;refine Xi ⟨[(0,.cptr (encCk x (.slice .none ifs) roots d)),(1,sl encSl s),(2,.clo 89 [.ref 1000 0]),(7,.slice (.id 12100 2) (needs.map encRq)),(8,.slice (.id 8 4) (before.map encSl)),(9,.ref 9 0),(10,vb (nextStep before acc needs[j]).isSome),(22,.slice (.id 12100 2) (needs.map encRq)),(23,vi (needs.map encRq).length),(24,vi j)],[(8,.tok 4 (before.map encSl).length),(12100,.tok 2 (needs.map encRq).length),(1000,.cells [.slice (.id 1001 1) (List.map encStr1 st)]),(1001,.tok 1 (List.map encStr1 st).length),(9,.cells [vs ((nextStep before acc needs[j]).getD mt)])],hfree⟩ (Yi ⟨⟨Zr,Zr,Zr,Zr,Zr,Zr,⟨by show vb true=_; rw [hst]; rfl,rfl⟩,Zr,Zr,Zr,Tv⟩,⟨Zr,Zr,Zr,Zr,⟨by show HO.cells [vs needs[j].path]=_; rw [hst]; rfl,rfl⟩,Tv⟩,Fh,ext_dec (by kernel_rfl)⟩ ?_)
   refine Yi (Ii j (by omega)) ?_;refine Xi ⟨(j+1,nextStep before acc needs[j]),by show j+1≤_; omega,hnx.symm⟩ ?_;exact ⟨Dl needs.length j (by omega),Z10,Z5,Fh,ext_dec (by kernel_rfl)⟩
  ·intro hb;have hb:¬ Op.bytesLess needs[j].path.toList p.toList=true:=hb;rw [← blt_eq] at hb;have hst:nextStep before acc needs[j]=some p:=by unfold nextStep; rw [if_neg (by rw [hd]; decide),ha]; show (if _ then _ else _)=_; rw [if_neg hb]
   refine Xi ⟨[(0,.cptr (encCk x (.slice .none ifs) roots d)),(1,sl encSl s),(2,.clo 89 [.ref 1000 0]),(7,.slice (.id 12100 2) (needs.map encRq)),(8,.slice (.id 8 4) (before.map encSl)),(9,.ref 9 0),(10,vb (nextStep before acc needs[j]).isSome),(22,.slice (.id 12100 2) (needs.map encRq)),(23,vi (needs.map encRq).length),(24,vi j)],[(8,.tok 4 (before.map encSl).length),(12100,.tok 2 (needs.map encRq).length),(1000,.cells [.slice (.id 1001 1) (List.map encStr1 st)]),(1001,.tok 1 (List.map encStr1 st).length),(9,.cells [vs ((nextStep before acc needs[j]).getD mt)])],hfree⟩ (Yi ⟨⟨Zr,Zr,Zr,Zr,Zr,Zr,⟨by show vb true=_; rw [hst]; rfl,rfl⟩,Zr,Zr,Zr,Tv⟩,⟨Zr,Zr,Zr,Zr,⟨by show HO.cells [vs p]=_; rw [hst]; rfl,rfl⟩,Tv⟩,Fh,ext_dec (by kernel_rfl)⟩ ?_)
   refine Yi (Ii j (by omega)) ?_;refine Xi ⟨(j+1,nextStep before acc needs[j]),by show j+1≤_; omega,hnx.symm⟩ ?_;exact ⟨Dl needs.length j (by omega),Z10,Z5,Fh,ext_dec (by kernel_rfl)⟩
 intro h;have h:¬ (j:Int)<(needs.map encRq).length:=h;have h:¬ j<needs.length:=by simpa using h
 have hac:nextP needs before=acc:=by rw [j2,List.take_of_length_le (by omega)]; rfl
 refine Or.elim (show acc=none∨∃ p,acc=some p by cases acc with | none=>exact .inl rfl | some p=>exact .inr ⟨p,rfl⟩) (fun ha=>?_) (fun ha=>?_)
 ·have hend:=inv.stop (hac.trans ha);refine Xi ⟨[(10,vb false)],[(1000,.cells [.slice (.id 1001 1) (List.map encStr1 st)]),(1001,.tok 1 (List.map encStr1 st).length)],hfree⟩ (Yi ⟨⟨⟨by show vb acc.isSome=vb false; rw [ha]; rfl,rfl⟩,Tv⟩,Z2,Fh,ext_dec (by kernel_rfl)⟩ ?_)
  exact Xi _ (Yi (.refl _) (Yi (congrArg vb hend.1.symm) (congrArg (fun a=>heapOf (dH a) hfree) hend.2.symm)))
 refine Exists.elim ha (fun p ha=>?_);have hac:nextP needs before=some p:=hac.trans ha;refine Xi ⟨[(0,.cptr (encCk x (.slice .none ifs) roots d)),(1,sl encSl s),(2,.clo 89 [.ref 1000 0]),(7,.slice (.id 12100 2) (needs.map encRq)),(8,.slice (.id 8 4) (before.map encSl)),(9,.ref 9 0),(10,vb true)],[(8,.tok 4 (before.map encSl).length),(12100,.tok 2 (needs.map encRq).length),(1000,.cells [.slice (.id 1001 1) (List.map encStr1 st)]),(1001,.tok 1 (List.map encStr1 st).length),(9,.cells [vs p])],hfree⟩ (Yi ⟨⟨Zr,Zr,Zr,Zr,Zr,Zr,⟨by show vb acc.isSome=vb true; rw [ha]; rfl,rfl⟩,Tv⟩,⟨Zr,Zr,Zr,Zr,⟨by show HO.cells [vs (acc.getD mt)]=HO.cells [vs p]; rw [ha]; rfl,rfl⟩,Tv⟩,Fh,ext_dec (by kernel_rfl)⟩ ?_)
 refine Xi ⟨[(0,.cptr (encCk x (.slice .none ifs) roots d)),(1,sl encSl s),(2,.clo 89 [.ref 1000 0]),(7,.slice (.id 12100 2) (needs.map encRq)),(8,.slice (.id 8 4) (before.map encSl)),(9,.ref 9 0)],[(8,.tok 4 (before.map encSl).length),(12100,.tok 2 (needs.map encRq).length),(1000,.cells [.slice (.id 1001 1) (List.map encStr1 st)]),(1001,.tok 1 (List.map encStr1 st).length),(9,.cells [vs p])],hfree⟩ (Yi ⟨Z6,Z5,Fh,ext_dec (by kernel_rfl)⟩ ?_)
 have hc78:=c78 (fF:=147) (caps:=[.cptr [vs p]]) (fun c hc=>by
  obtain rfl:=List.mem_singleton.1 hc;intro h; rfl) s (fun y=>decide (y.path=p)) (fun y _=>c79 y p) (by omega)
 refine Or.elim (idx_find1 s p) (fun hi=>?_) (fun hi=>?_)
 ·rw [hi.1] at hc78;have hend:=inv.lost hac hi.2;refine Xi .pure (Xi _ (Yi (hc78) ?_));refine Xi ⟨[(14,vi (-1))],[(1000,.cells [.slice (.id 1001 1) (List.map encStr1 st)]),(1001,.tok 1 (List.map encStr1 st).length)],hfree⟩ (Yi ⟨Z1,Z2,Fh,ext_dec (by kernel_rfl)⟩ ?_)
  refine Yi ?_ ?_
  ·intro _;exact Xi _ (Yi (.refl _) (Yi (congrArg vb hend.1.symm) (congrArg (fun a=>heapOf (dH a) hfree) hend.2.symm)))
  ·intro hc;exact absurd (show ((-1:Int)<0) by decide) hc
 refine Exists.elim hi (fun i hi=>?_);refine Exists.elim hi (fun y hi=>?_);have hi2:=hi.2.1;have hi3:=hi.2.2;rw [hi.1] at hc78;refine Xi .pure (Xi _ (Yi (hc78) ?_));refine Xi ⟨[(0,.cptr (encCk x (.slice .none ifs) roots d)),(1,sl encSl s),(2,.clo 89 [.ref 1000 0]),(7,.slice (.id 12100 2) (needs.map encRq)),(8,.slice (.id 8 4) (before.map encSl)),(14,vi i)],[(8,.tok 4 (before.map encSl).length),(12100,.tok 2 (needs.map encRq).length),(1000,.cells [.slice (.id 1001 1) (List.map encStr1 st)]),(1001,.tok 1 (List.map encStr1 st).length)],hfree⟩ (Yi ⟨Z6,Z4,Fh,ext_dec (by kernel_rfl)⟩ ?_)
 refine Yi ?_ ?_
 ·intro hc;exact absurd (show ((i:Int)<0) from hc) (by omega)
 intro _;refine Xi ⟨[(0,.cptr (encCk x (.slice .none ifs) roots d)),(1,sl encSl s),(2,.clo 89 [.ref 1000 0]),(7,.slice (.id 12100 2) (needs.map encRq)),(8,.slice (.id 8 4) (before.map encSl)),(14,vi i)],[(8,.tok 4 (before.map encSl).length),(12100,.tok 2 (needs.map encRq).length),(1000,.cells [.slice (.id 1001 1) (List.map encStr1 st)]),(1001,.tok 1 (List.map encStr1 st).length)],hfree⟩ (Yi ⟨Z6,Z4,Fh,ext_dec (by kernel_rfl)⟩ ?_)
 have hgy:(s.map encSl)[(i:Int).toNat]?=some (encSl y):=by rw [Int.toNat_natCast,List.getElem?_map,hi2]; rfl
 have hc53:PC 148 [ixV x ifs,vs y.path,.agg (encVer y.ver)] (optRl (findRl x y)):=c53 x ifs y.path y.ver h84 hx;refine Yi (Nz rfl) ?_;refine Xi (encSl y) (Yi (Yi (Nn i) hgy) (Yi rfl ?_));refine Xi (encSl y) (Yi (Yi (Nn i) hgy) (Yi rfl ?_));refine Yi (Nz rfl) ?_;refine Or.elim (show findRl x y=none∨∃ r,findRl x y=some r by cases findRl x y with | none=>exact .inl rfl | some r=>exact .inr ⟨r,rfl⟩) (fun hr=>?_) (fun hr=>?_)
 ·rw [hr] at hc53;have hend:=inv.gone hac hi3 hr;refine Xi _ (Yi (hc53) ?_);refine Yi (Nz rfl) ?_;refine Yi (by kernel_rfl) ?_;refine Xi ⟨[(16,vb false)],[(1000,.cells [.slice (.id 1001 1) (List.map encStr1 st)]),(1001,.tok 1 (List.map encStr1 st).length)],hfree⟩ (Yi ⟨Z1,Z2,Fh,ext_dec (by kernel_rfl)⟩ ?_)
  exact Xi _ (Yi (.refl _) (Yi (congrArg vb hend.1.symm) (congrArg (fun a=>heapOf (dH a) hfree) hend.2.symm)))
 refine Exists.elim hr (fun r hr=>?_);rw [hr] at hc53;refine Xi _ (Yi (hc53) ?_);refine Yi (Nz rfl) ?_;refine Yi (by kernel_rfl) ?_;have hrx:r ∈ x:=(findRl_ok hr).2.1;have hinv:=inv.next hac hi3 hr (hxr r hrx) (fun q hq=>((hx r hrx).2 q hq).1)
 refine Xi ⟨[(0,.cptr (encCk x (.slice .none ifs) roots d)),(1,sl encSl s),(2,.clo 89 [.ref 1000 0]),(7,.slice (.id 12100 2) (needs.map encRq)),(8,.slice (.id 8 4) (before.map encSl)),(14,vi i),(15,.ref 15 0),(16,vb true)],[(8,.tok 4 (before.map encSl).length),(12100,.tok 2 (needs.map encRq).length),(1000,.cells [.slice (.id 1001 1) (List.map encStr1 st)]),(1001,.tok 1 (List.map encStr1 st).length),(15,.cells (encRl r))],hfree⟩ (Yi ⟨Z8,Z5,Fh,ext_dec (by kernel_rfl)⟩ ?_)
 refine Xi ⟨[(0,.cptr (encCk x (.slice .none ifs) roots d)),(1,sl encSl s),(2,.clo 89 [.ref 1000 0]),(7,.slice (.id 12100 2) (needs.map encRq)),(8,.slice (.id 8 4) (before.map encSl)),(14,vi i),(15,.ref 15 0)],[(8,.tok 4 (before.map encSl).length),(12100,.tok 2 (needs.map encRq).length),(1000,.cells [.slice (.id 1001 1) (List.map encStr1 st)]),(1001,.tok 1 (List.map encStr1 st).length),(15,.cells (encRl r))],hfree⟩ (Yi ⟨Z7,Z5,Fh,ext_dec (by kernel_rfl)⟩ ?_)
 refine Yi (Nz rfl) ?_;have hvis:=c43 st before needs r (by omega);refine Xi (.gen [(1000,1000),(1001,1001)] 0) (Yi rfl (hvis.imp ?_));intro v g q;have q1:=q.1;have q2:=q.2;subst q1;subst q2
 clear q
 refine Xi ⟨[(0,.cptr (encCk x (.slice .none ifs) roots d)),(1,sl encSl s),(2,.clo 89 [.ref 1000 0]),(7,.slice (.id 12100 2) (needs.map encRq)),(8,.slice (.id 8 4) (before.map encSl)),(14,vi i),(15,.ref 15 0)],[(8,.tok 4 (before.map encSl).length),(12100,.tok 2 (needs.map encRq).length),(1000,.cells [.slice (.id 1001 1) (List.map encStr1 (outStep st ⟨before,needs,r⟩))]),(1001,.tok 1 (List.map encStr1 (outStep st ⟨before,needs,r⟩)).length),(15,.cells (encRl r))],hfree⟩ (Yi ⟨Z7,Z5,Fh,ext_dec (by kernel_rfl)⟩ ?_)
 refine Xi (encSl y) (Yi (Yi (Nn i) hgy) (Yi rfl ?_));refine Yi (Nz rfl) ?_;have bulk:AllLen 4 [encSl y]∧(before.map encSl).length=(before.map encSl).length∧((before.map encSl).length+[encSl y].length)*40≤140737488355328∧(before.map encSl).length+[encSl y].length≤9223372036854775807 :=
  ⟨⟨rfl,trivial⟩,rfl,by rw [Lm,List.length_singleton]; omega,by rw [Lm,List.length_singleton]; omega⟩
 refine Yi bulk ?_;have hxl:=hxr r hrx;have bulk2:AllLen 2 (r.reqs.map encRq)∧(needs.map encRq).length=(needs.map encRq).length∧((needs.map encRq).length+(r.reqs.map encRq).length)*40≤140737488355328∧(needs.map encRq).length+(r.reqs.map encRq).length≤9223372036854775807 :=
  ⟨allLen_map (enc:=encRq) (n:=2) (fun _=>rfl) r.reqs,rfl,by rw [Lm,Lm]; omega,by rw [Lm,Lm]; omega⟩
 refine Yi bulk2 ?_;have e7:AV.slice (.id 12100 2) (needs.map encRq++r.reqs.map encRq)=.slice (.id 12100 2) ((needs++r.reqs).map encRq):=by rw [List.map_append]
 have e8:AV.slice (.id 8 4) (before.map encSl++[encSl y])=.slice (.id 8 4) ((before++[y]).map encSl):=by rw [List.map_append]; rfl
 have o7:HO.tok 2 ((needs.map encRq).length+(r.reqs.map encRq).length)=.tok 2 ((needs++r.reqs).map encRq).length:=by rw [List.map_append,List.length_append]
 have o8:HO.tok 4 ((before.map encSl).length+[encSl y].length)=.tok 4 ((before++[y]).map encSl).length:=by rw [List.map_append,List.length_append]; rfl
 refine Xi ⟨(before++[y],needs++r.reqs,m,(outStep) st ⟨before,needs,r⟩),⟨hinv,by show (st++[r.path]).length=(before++[y]).length; rw [List.length_append,List.length_append,ex]; rfl⟩⟩ ?_;exact ⟨by show m<n; omega,⟨Zr,Zr,Zr,⟨e7,rfl⟩,⟨e8,rfl⟩,Tv⟩,⟨⟨o8,rfl⟩,⟨o7,rfl⟩,Zr,Zr,Tv⟩,Fh,ext_dec (by kernel_rfl)⟩
theorem c42c (x:List Rl) (ifs:List (List AV)) (roots:List Rq) (d:List (List Tm)) (s:List Sl)  (st0:Bool × List Sk) (h84:H84 x ifs) (h0:checkIx x=0) (hx:∀ r ∈ x,FewR r) (hrl:roots.length≤1000) (hrq:∀ q ∈ roots,Few q.set) (hs:s.length≤500) (hd:d.length≤65536) (ht:∀ t ∈ d,FewT t) :
  ACall Tryz.prog 84 [.cptr (encCk x (.slice .none ifs) roots d),sl encSl s,.clo 85 [.cptr [.cptr (encCk x (.slice .none ifs) roots d)],.ref 1000 0,.ref 1001 0]] (heapOf (sH st0) hfree) fun r h'=>r=vb (visits x roots s).2∧h'=heapOf (sH ((visits x roots s).1.foldl (skipStep x d) st0)) hfree:=by
 have hxr:=(ix_few h0).2;have hrf:Few roots:=by unfold Few; omega
 refine acall_sub (cxe pl42) [(1000,1000),(1001,1001)] rfl tab_ok hm rfl Tryz.func84 (by kernel_rfl) rfl (Nz rfl) (by kernel_rfl) rfl ?_;refine Xi (.gen [] 1) (Yi rfl ((c76t roots hrf).imp ?_));intro v g q;have q1:=q.1;have q2:=q.2;subst q1;subst q2
 clear q
 refine Xi {p:List Sl × List Rq × Nat × Bool × List Sk // DI x roots s (skipStep x d) st0 p.1 p.2.1 p.2.2.1 p.2.2.2} (Xi (fun p=>⟨[(0,.cptr (encCk x (.slice .none ifs) roots d)),(1,sl encSl s),(2,.clo 85 [.cptr [.cptr (encCk x (.slice .none ifs) roots d)],.ref 1000 0,.ref 1001 0]),(7,.slice (.id 12100 2) (p.1.2.1.map encRq)),(8,.slice (.id 8 4) (p.1.1.map encSl))],[(8,.tok 4 (p.1.1.map encSl).length),(12100,.tok 2 (p.1.2.1.map encRq).length),(1000,.cells [sl encSk p.1.2.2.2.2]),(1001,.cells [vb p.1.2.2.2.1])],hfree⟩) (Xi (fun p=>p.1.2.2.1) (Yi (Xi ⟨([],roots,s.length+1,st0),DI.start hrq st0⟩ ?_) ?_)))
 ·exact ⟨Z5,Z4,Fh,ext_dec (by kernel_rfl)⟩
 intro ⟨⟨before,needs,n,st⟩,inv⟩;have inv:DI x roots s (skipStep x d) st0 before needs n st:=inv;refine Exists.elim inv.pos (fun m hm'=>?_);have inv:DI x roots s (skipStep x d) st0 before needs (m+1) st:=hm'▸inv;have hbl:=inv.lt;have hnl:=inv.len;have hnf:Few needs:=by unfold Few; omega
 have hbf:Few before:=by unfold Few; omega
 refine Xi ⟨[(0,.cptr (encCk x (.slice .none ifs) roots d)),(1,sl encSl s),(2,.clo 85 [.cptr [.cptr (encCk x (.slice .none ifs) roots d)],.ref 1000 0,.ref 1001 0]),(7,.slice (.id 12100 2) (needs.map encRq)),(8,.slice (.id 8 4) (before.map encSl))],[(8,.tok 4 (before.map encSl).length),(12100,.tok 2 (needs.map encRq).length),(1000,.cells [sl encSk st.2]),(1001,.cells [vb st.1])],hfree⟩ (Yi ⟨Z5,Z4,Fh,ext_dec (by kernel_rfl)⟩ ?_)
 refine Yi (Nz rfl) ?_;refine Xi {p:Nat × Option ByteArray // p.1≤needs.length∧p.2=nextGo before (needs.take p.1) none} (Xi (fun p=>⟨[(0,.cptr (encCk x (.slice .none ifs) roots d)),(1,sl encSl s),(2,.clo 85 [.cptr [.cptr (encCk x (.slice .none ifs) roots d)],.ref 1000 0,.ref 1001 0]),(7,.slice (.id 12100 2) (needs.map encRq)),(8,.slice (.id 8 4) (before.map encSl)),(9,.ref 9 0),(10,vb p.1.2.isSome),(22,.slice (.id 12100 2) (needs.map encRq)),(23,vi (needs.map encRq).length),(24,vi p.1.1)],[(8,.tok 4 (before.map encSl).length),(12100,.tok 2 (needs.map encRq).length),(1000,.cells [sl encSk st.2]),(1001,.cells [vb st.1]),(9,.cells [vs (p.1.2.getD mt)])],hfree⟩) (Xi (fun p=>needs.length - p.1.1) (Yi (Xi ⟨(0,none),Nat.zero_le _,rfl⟩ ?_) ?_)))
 ·exact ⟨Z10,Z5,Fh,ext_dec (by kernel_rfl)⟩
 intro ⟨⟨j,acc⟩,j1,j2⟩;have j1:j≤needs.length:=j1;have j2:acc=nextGo before (needs.take j) none:=j2;refine Yi ?_ ?_
 ·intro h;have h:(j:Int)<(needs.map encRq).length:=h;have h:j<needs.length:=by simpa using h
  have hg:needs[j]?=some needs[j]:=Ge h;have hnx:=nextGo_take before needs none h;rw [← j2] at hnx;refine Xi (encRq needs[j]) (Yi (Yi (Nn j) (by simp [hg])) (Yi rfl ?_));refine Yi (Nz rfl) (Yi (Nz rfl) ?_);refine Xi ⟨[(0,.cptr (encCk x (.slice .none ifs) roots d)),(1,sl encSl s),(2,.clo 85 [.cptr [.cptr (encCk x (.slice .none ifs) roots d)],.ref 1000 0,.ref 1001 0]),(7,.slice (.id 12100 2) (needs.map encRq)),(8,.slice (.id 8 4) (before.map encSl)),(9,.ref 9 0),(10,vb acc.isSome),(12,.ref 12 0),(22,.slice (.id 12100 2) (needs.map encRq)),(23,vi (needs.map encRq).length),(24,vi j)],[(8,.tok 4 (before.map encSl).length),(12100,.tok 2 (needs.map encRq).length),(1000,.cells [sl encSk st.2]),(1001,.cells [vb st.1]),(9,.cells [vs (acc.getD mt)]),(12,.ro (encRq needs[j]))],hfree⟩ (Yi ⟨Z11,Z6,Fh,ext_dec (by kernel_rfl)⟩ ?_)
  have hc51:PC 145 [sl encSl before,.clo 146 [.cptr (encRq needs[j])]] (vb (hasPath before needs[j].path)):=c51 (fF:=146) (caps:=[.cptr (encRq needs[j])]) (fun c hc=>by
   obtain rfl:=List.mem_singleton.1 hc;intro h; rfl) before (fun y=>decide (y.path=needs[j].path)) (fun y _=>c77 y needs[j]) hbf
  refine Or.elim (Bt (hasPath before needs[j].path)) (fun hd=>?_) (fun hd=>?_)
  ·rw [hd] at hc51;refine Xi .pure (Xi _ (Yi (hc51) ?_));have hst:nextStep before acc needs[j]=acc:=by unfold nextStep; rw [if_pos hd]
   refine Xi ⟨[(0,.cptr (encCk x (.slice .none ifs) roots d)),(1,sl encSl s),(2,.clo 85 [.cptr [.cptr (encCk x (.slice .none ifs) roots d)],.ref 1000 0,.ref 1001 0]),(7,.slice (.id 12100 2) (needs.map encRq)),(8,.slice (.id 8 4) (before.map encSl)),(9,.ref 9 0),(10,vb acc.isSome),(13,vb true),(22,.slice (.id 12100 2) (needs.map encRq)),(23,vi (needs.map encRq).length),(24,vi j)],[(8,.tok 4 (before.map encSl).length),(12100,.tok 2 (needs.map encRq).length),(1000,.cells [sl encSk st.2]),(1001,.cells [vb st.1]),(9,.cells [vs (acc.getD mt)])],hfree⟩ (Yi ⟨Z11,Z5,Fh,ext_dec (by kernel_rfl)⟩ ?_)
   refine Xi ⟨[(0,.cptr (encCk x (.slice .none ifs) roots d)),(1,sl encSl s),(2,.clo 85 [.cptr [.cptr (encCk x (.slice .none ifs) roots d)],.ref 1000 0,.ref 1001 0]),(7,.slice (.id 12100 2) (needs.map encRq)),(8,.slice (.id 8 4) (before.map encSl)),(9,.ref 9 0),(10,vb (nextStep before acc needs[j]).isSome),(22,.slice (.id 12100 2) (needs.map encRq)),(23,vi (needs.map encRq).length),(24,vi j)],[(8,.tok 4 (before.map encSl).length),(12100,.tok 2 (needs.map encRq).length),(1000,.cells [sl encSk st.2]),(1001,.cells [vb st.1]),(9,.cells [vs ((nextStep before acc needs[j]).getD mt)])],hfree⟩ (Yi ⟨⟨Zr,Zr,Zr,Zr,Zr,Zr,⟨congrArg vb (congrArg Option.isSome hst.symm),rfl⟩,Zr,Zr,Zr,Tv⟩,⟨Zr,Zr,Zr,Zr,⟨congrArg (fun a=>HO.cells [vs (Option.getD a mt)]) hst.symm,rfl⟩,Tv⟩,Fh,ext_dec (by kernel_rfl)⟩ ?_)
   refine Yi (Ii j (by omega)) ?_;refine Xi ⟨(j+1,nextStep before acc needs[j]),by show j+1≤_; omega,hnx.symm⟩ ?_;exact ⟨Dl needs.length j (by omega),Z10,Z5,Fh,ext_dec (by kernel_rfl)⟩
  rw [hd] at hc51;refine Xi .pure (Xi _ (Yi (hc51) ?_));refine Or.elim (show acc=none∨∃ p,acc=some p by cases acc with | none=>exact .inl rfl | some p=>exact .inr ⟨p,rfl⟩) (fun ha=>?_) (fun ha=>?_)
  ·have hst:nextStep before acc needs[j]=some needs[j].path:=by unfold nextStep; rw [if_neg (by rw [hd]; decide),ha]
   refine Xi ⟨[(0,.cptr (encCk x (.slice .none ifs) roots d)),(1,sl encSl s),(2,.clo 85 [.cptr [.cptr (encCk x (.slice .none ifs) roots d)],.ref 1000 0,.ref 1001 0]),(7,.slice (.id 12100 2) (needs.map encRq)),(8,.slice (.id 8 4) (before.map encSl)),(9,.ref 9 0),(10,vb false),(12,.ref 12 0),(13,vb false),(22,.slice (.id 12100 2) (needs.map encRq)),(23,vi (needs.map encRq).length),(24,vi j)],[(8,.tok 4 (before.map encSl).length),(12100,.tok 2 (needs.map encRq).length),(1000,.cells [sl encSk st.2]),(1001,.cells [vb st.1]),(9,.cells [vs mt]),(12,.ro (encRq needs[j]))],hfree⟩ (Yi ⟨⟨Zr,Zr,Zr,Zr,Zr,Zr,⟨by show vb acc.isSome=vb false; rw [ha]; rfl,rfl⟩,Zr,Zr,Zr,Zr,Zr,Tv⟩,⟨Zr,Zr,Zr,Zr,⟨by show HO.cells [vs (acc.getD mt)]=HO.cells [vs mt]; rw [ha]; rfl,rfl⟩,Zr,Tv⟩,Fh,ext_dec (by kernel_rfl)⟩ ?_)
   refine Yi (Nz rfl) ?_;refine Xi ⟨[(0,.cptr (encCk x (.slice .none ifs) roots d)),(1,sl encSl s),(2,.clo 85 [.cptr [.cptr (encCk x (.slice .none ifs) roots d)],.ref 1000 0,.ref 1001 0]),(7,.slice (.id 12100 2) (needs.map encRq)),(8,.slice (.id 8 4) (before.map encSl)),(9,.ref 9 0),(10,vb (nextStep before acc needs[j]).isSome),(22,.slice (.id 12100 2) (needs.map encRq)),(23,vi (needs.map encRq).length),(24,vi j)],[(8,.tok 4 (before.map encSl).length),(12100,.tok 2 (needs.map encRq).length),(1000,.cells [sl encSk st.2]),(1001,.cells [vb st.1]),(9,.cells [vs ((nextStep before acc needs[j]).getD mt)])],hfree⟩ (Yi ⟨⟨Zr,Zr,Zr,Zr,Zr,Zr,⟨by show vb true=_; rw [hst]; rfl,rfl⟩,Zr,Zr,Zr,Tv⟩,⟨Zr,Zr,Zr,Zr,⟨by show HO.cells [vs needs[j].path]=_; rw [hst]; rfl,rfl⟩,Tv⟩,Fh,ext_dec (by kernel_rfl)⟩ ?_)
   refine Yi (Ii j (by omega)) ?_;refine Xi ⟨(j+1,nextStep before acc needs[j]),by show j+1≤_; omega,hnx.symm⟩ ?_;exact ⟨Dl needs.length j (by omega),Z10,Z5,Fh,ext_dec (by kernel_rfl)⟩
  refine Exists.elim ha (fun p ha=>?_);refine Xi ⟨[(0,.cptr (encCk x (.slice .none ifs) roots d)),(1,sl encSl s),(2,.clo 85 [.cptr [.cptr (encCk x (.slice .none ifs) roots d)],.ref 1000 0,.ref 1001 0]),(7,.slice (.id 12100 2) (needs.map encRq)),(8,.slice (.id 8 4) (before.map encSl)),(9,.ref 9 0),(10,vb true),(12,.ref 12 0),(13,vb false),(22,.slice (.id 12100 2) (needs.map encRq)),(23,vi (needs.map encRq).length),(24,vi j)],[(8,.tok 4 (before.map encSl).length),(12100,.tok 2 (needs.map encRq).length),(1000,.cells [sl encSk st.2]),(1001,.cells [vb st.1]),(9,.cells [vs p]),(12,.ro (encRq needs[j]))],hfree⟩ (Yi ⟨⟨Zr,Zr,Zr,Zr,Zr,Zr,⟨by show vb acc.isSome=vb true; rw [ha]; rfl,rfl⟩,Zr,Zr,Zr,Zr,Zr,Tv⟩,⟨Zr,Zr,Zr,Zr,⟨by show HO.cells [vs (acc.getD mt)]=HO.cells [vs p]; rw [ha]; rfl,rfl⟩,Zr,Tv⟩,Fh,ext_dec (by kernel_rfl)⟩ ?_)
  refine Yi ?_ ?_
  ·intro hb;have hb:Op.bytesLess needs[j].path.toList p.toList=true:=hb;rw [← blt_eq] at hb;have hst:nextStep before acc needs[j]=some needs[j].path:=by unfold nextStep; rw [if_neg (by rw [hd]; decide),ha]; show (if _ then _ else _)=_; rw [if_pos hb]
   refine Yi (Nz rfl) ?_;refine Xi ⟨[(0,.cptr (encCk x (.slice .none ifs) roots d)),(1,sl encSl s),(2,.clo 85 [.cptr [.cptr (encCk x (.slice .none ifs) roots d)],.ref 1000 0,.ref 1001 0]),(7,.slice (.id 12100 2) (needs.map encRq)),(8,.slice (.id 8 4) (before.map encSl)),(9,.ref 9 0),(10,vb (nextStep before acc needs[j]).isSome),(22,.slice (.id 12100 2) (needs.map encRq)),(23,vi (needs.map encRq).length),(24,vi j)],[(8,.tok 4 (before.map encSl).length),(12100,.tok 2 (needs.map encRq).length),(1000,.cells [sl encSk st.2]),(1001,.cells [vb st.1]),(9,.cells [vs ((nextStep before acc needs[j]).getD mt)])],hfree⟩ (Yi ⟨⟨Zr,Zr,Zr,Zr,Zr,Zr,⟨by show vb true=_; rw [hst]; rfl,rfl⟩,Zr,Zr,Zr,Tv⟩,⟨Zr,Zr,Zr,Zr,⟨by show HO.cells [vs needs[j].path]=_; rw [hst]; rfl,rfl⟩,Tv⟩,Fh,ext_dec (by kernel_rfl)⟩ ?_)
   refine Yi (Ii j (by omega)) ?_;refine Xi ⟨(j+1,nextStep before acc needs[j]),by show j+1≤_; omega,hnx.symm⟩ ?_;exact ⟨Dl needs.length j (by omega),Z10,Z5,Fh,ext_dec (by kernel_rfl)⟩
  ·intro hb;have hb:¬ Op.bytesLess needs[j].path.toList p.toList=true:=hb;rw [← blt_eq] at hb;have hst:nextStep before acc needs[j]=some p:=by unfold nextStep; rw [if_neg (by rw [hd]; decide),ha]; show (if _ then _ else _)=_; rw [if_neg hb]
   refine Xi ⟨[(0,.cptr (encCk x (.slice .none ifs) roots d)),(1,sl encSl s),(2,.clo 85 [.cptr [.cptr (encCk x (.slice .none ifs) roots d)],.ref 1000 0,.ref 1001 0]),(7,.slice (.id 12100 2) (needs.map encRq)),(8,.slice (.id 8 4) (before.map encSl)),(9,.ref 9 0),(10,vb (nextStep before acc needs[j]).isSome),(22,.slice (.id 12100 2) (needs.map encRq)),(23,vi (needs.map encRq).length),(24,vi j)],[(8,.tok 4 (before.map encSl).length),(12100,.tok 2 (needs.map encRq).length),(1000,.cells [sl encSk st.2]),(1001,.cells [vb st.1]),(9,.cells [vs ((nextStep before acc needs[j]).getD mt)])],hfree⟩ (Yi ⟨⟨Zr,Zr,Zr,Zr,Zr,Zr,⟨by show vb true=_; rw [hst]; rfl,rfl⟩,Zr,Zr,Zr,Tv⟩,⟨Zr,Zr,Zr,Zr,⟨by show HO.cells [vs p]=_; rw [hst]; rfl,rfl⟩,Tv⟩,Fh,ext_dec (by kernel_rfl)⟩ ?_)
   refine Yi (Ii j (by omega)) ?_;refine Xi ⟨(j+1,nextStep before acc needs[j]),by show j+1≤_; omega,hnx.symm⟩ ?_;exact ⟨Dl needs.length j (by omega),Z10,Z5,Fh,ext_dec (by kernel_rfl)⟩
 intro h;have h:¬ (j:Int)<(needs.map encRq).length:=h;have h:¬ j<needs.length:=by simpa using h
 have hac:nextP needs before=acc:=by rw [j2,List.take_of_length_le (by omega)]; rfl
 refine Or.elim (show acc=none∨∃ p,acc=some p by cases acc with | none=>exact .inl rfl | some p=>exact .inr ⟨p,rfl⟩) (fun ha=>?_) (fun ha=>?_)
 ·have hend:=inv.stop (hac.trans ha);refine Xi ⟨[(10,vb false)],[(1000,.cells [sl encSk st.2]),(1001,.cells [vb st.1])],hfree⟩ (Yi ⟨⟨⟨by show vb acc.isSome=vb false; rw [ha]; rfl,rfl⟩,Tv⟩,Z2,Fh,ext_dec (by kernel_rfl)⟩ ?_)
  exact Xi _ (Yi (.refl _) (Yi (congrArg vb hend.1.symm) (congrArg (fun a=>heapOf (sH a) hfree) hend.2.symm)))
 refine Exists.elim ha (fun p ha=>?_);have hac:nextP needs before=some p:=hac.trans ha;refine Xi ⟨[(0,.cptr (encCk x (.slice .none ifs) roots d)),(1,sl encSl s),(2,.clo 85 [.cptr [.cptr (encCk x (.slice .none ifs) roots d)],.ref 1000 0,.ref 1001 0]),(7,.slice (.id 12100 2) (needs.map encRq)),(8,.slice (.id 8 4) (before.map encSl)),(9,.ref 9 0),(10,vb true)],[(8,.tok 4 (before.map encSl).length),(12100,.tok 2 (needs.map encRq).length),(1000,.cells [sl encSk st.2]),(1001,.cells [vb st.1]),(9,.cells [vs p])],hfree⟩ (Yi ⟨⟨Zr,Zr,Zr,Zr,Zr,Zr,⟨by show vb acc.isSome=vb true; rw [ha]; rfl,rfl⟩,Tv⟩,⟨Zr,Zr,Zr,Zr,⟨by show HO.cells [vs (acc.getD mt)]=HO.cells [vs p]; rw [ha]; rfl,rfl⟩,Tv⟩,Fh,ext_dec (by kernel_rfl)⟩ ?_)
 refine Xi ⟨[(0,.cptr (encCk x (.slice .none ifs) roots d)),(1,sl encSl s),(2,.clo 85 [.cptr [.cptr (encCk x (.slice .none ifs) roots d)],.ref 1000 0,.ref 1001 0]),(7,.slice (.id 12100 2) (needs.map encRq)),(8,.slice (.id 8 4) (before.map encSl)),(9,.ref 9 0)],[(8,.tok 4 (before.map encSl).length),(12100,.tok 2 (needs.map encRq).length),(1000,.cells [sl encSk st.2]),(1001,.cells [vb st.1]),(9,.cells [vs p])],hfree⟩ (Yi ⟨Z6,Z5,Fh,ext_dec (by kernel_rfl)⟩ ?_)
 have hc78:=c78 (fF:=147) (caps:=[.cptr [vs p]]) (fun c hc=>by
  obtain rfl:=List.mem_singleton.1 hc;intro h; rfl) s (fun y=>decide (y.path=p)) (fun y _=>c79 y p) (by omega)
 refine Or.elim (idx_find1 s p) (fun hi=>?_) (fun hi=>?_)
 ·rw [hi.1] at hc78;have hend:=inv.lost hac hi.2;refine Xi .pure (Xi _ (Yi (hc78) ?_));refine Xi ⟨[(14,vi (-1))],[(1000,.cells [sl encSk st.2]),(1001,.cells [vb st.1])],hfree⟩ (Yi ⟨Z1,Z2,Fh,ext_dec (by kernel_rfl)⟩ ?_)
  refine Yi ?_ ?_
  ·intro _;exact Xi _ (Yi (.refl _) (Yi (congrArg vb hend.1.symm) (congrArg (fun a=>heapOf (sH a) hfree) hend.2.symm)))
  ·intro hc;exact absurd (show ((-1:Int)<0) by decide) hc
 refine Exists.elim hi (fun i hi=>?_);refine Exists.elim hi (fun y hi=>?_);have hi2:=hi.2.1;have hi3:=hi.2.2;rw [hi.1] at hc78;refine Xi .pure (Xi _ (Yi (hc78) ?_));refine Xi ⟨[(0,.cptr (encCk x (.slice .none ifs) roots d)),(1,sl encSl s),(2,.clo 85 [.cptr [.cptr (encCk x (.slice .none ifs) roots d)],.ref 1000 0,.ref 1001 0]),(7,.slice (.id 12100 2) (needs.map encRq)),(8,.slice (.id 8 4) (before.map encSl)),(14,vi i)],[(8,.tok 4 (before.map encSl).length),(12100,.tok 2 (needs.map encRq).length),(1000,.cells [sl encSk st.2]),(1001,.cells [vb st.1])],hfree⟩ (Yi ⟨Z6,Z4,Fh,ext_dec (by kernel_rfl)⟩ ?_)
 refine Yi ?_ ?_
 ·intro hc;exact absurd (show ((i:Int)<0) from hc) (by omega)
 intro _;refine Xi ⟨[(0,.cptr (encCk x (.slice .none ifs) roots d)),(1,sl encSl s),(2,.clo 85 [.cptr [.cptr (encCk x (.slice .none ifs) roots d)],.ref 1000 0,.ref 1001 0]),(7,.slice (.id 12100 2) (needs.map encRq)),(8,.slice (.id 8 4) (before.map encSl)),(14,vi i)],[(8,.tok 4 (before.map encSl).length),(12100,.tok 2 (needs.map encRq).length),(1000,.cells [sl encSk st.2]),(1001,.cells [vb st.1])],hfree⟩ (Yi ⟨Z6,Z4,Fh,ext_dec (by kernel_rfl)⟩ ?_)
 have hgy:(s.map encSl)[(i:Int).toNat]?=some (encSl y):=by rw [Int.toNat_natCast,List.getElem?_map,hi2]; rfl
 have hc53:PC 148 [ixV x ifs,vs y.path,.agg (encVer y.ver)] (optRl (findRl x y)):=c53 x ifs y.path y.ver h84 hx;refine Yi (Nz rfl) ?_;refine Xi (encSl y) (Yi (Yi (Nn i) hgy) (Yi rfl ?_));refine Xi (encSl y) (Yi (Yi (Nn i) hgy) (Yi rfl ?_));refine Yi (Nz rfl) ?_;refine Or.elim (show findRl x y=none∨∃ r,findRl x y=some r by cases findRl x y with | none=>exact .inl rfl | some r=>exact .inr ⟨r,rfl⟩) (fun hr=>?_) (fun hr=>?_)
 ·rw [hr] at hc53;have hend:=inv.gone hac hi3 hr;refine Xi _ (Yi (hc53) ?_);refine Yi (Nz rfl) ?_;refine Yi (by kernel_rfl) ?_;refine Xi ⟨[(16,vb false)],[(1000,.cells [sl encSk st.2]),(1001,.cells [vb st.1])],hfree⟩ (Yi ⟨Z1,Z2,Fh,ext_dec (by kernel_rfl)⟩ ?_)
  exact Xi _ (Yi (.refl _) (Yi (congrArg vb hend.1.symm) (congrArg (fun a=>heapOf (sH a) hfree) hend.2.symm)))
 refine Exists.elim hr (fun r hr=>?_);rw [hr] at hc53;refine Xi _ (Yi (hc53) ?_);refine Yi (Nz rfl) ?_;refine Yi (by kernel_rfl) ?_;have hrx:r ∈ x:=(findRl_ok hr).2.1;have hinv:=inv.next hac hi3 hr (hxr r hrx) (fun q hq=>((hx r hrx).2 q hq).1)
 refine Xi ⟨[(0,.cptr (encCk x (.slice .none ifs) roots d)),(1,sl encSl s),(2,.clo 85 [.cptr [.cptr (encCk x (.slice .none ifs) roots d)],.ref 1000 0,.ref 1001 0]),(7,.slice (.id 12100 2) (needs.map encRq)),(8,.slice (.id 8 4) (before.map encSl)),(14,vi i),(15,.ref 15 0),(16,vb true)],[(8,.tok 4 (before.map encSl).length),(12100,.tok 2 (needs.map encRq).length),(1000,.cells [sl encSk st.2]),(1001,.cells [vb st.1]),(15,.cells (encRl r))],hfree⟩ (Yi ⟨Z8,Z5,Fh,ext_dec (by kernel_rfl)⟩ ?_)
 refine Xi ⟨[(0,.cptr (encCk x (.slice .none ifs) roots d)),(1,sl encSl s),(2,.clo 85 [.cptr [.cptr (encCk x (.slice .none ifs) roots d)],.ref 1000 0,.ref 1001 0]),(7,.slice (.id 12100 2) (needs.map encRq)),(8,.slice (.id 8 4) (before.map encSl)),(14,vi i),(15,.ref 15 0)],[(8,.tok 4 (before.map encSl).length),(12100,.tok 2 (needs.map encRq).length),(1000,.cells [sl encSk st.2]),(1001,.cells [vb st.1]),(15,.cells (encRl r))],hfree⟩ (Yi ⟨Z7,Z5,Fh,ext_dec (by kernel_rfl)⟩ ?_)
 refine Yi (Nz rfl) ?_;have hvis:=c46 x (.slice .none ifs) roots d st before needs r (ix_few h0).1 hd ht (by omega) hnf inv.few;refine Xi (.gen [(1000,1000),(1001,1001)] 0) (Yi rfl (hvis.imp ?_));intro v g q;have q1:=q.1;have q2:=q.2;subst q1;subst q2
 clear q
 refine Xi ⟨[(0,.cptr (encCk x (.slice .none ifs) roots d)),(1,sl encSl s),(2,.clo 85 [.cptr [.cptr (encCk x (.slice .none ifs) roots d)],.ref 1000 0,.ref 1001 0]),(7,.slice (.id 12100 2) (needs.map encRq)),(8,.slice (.id 8 4) (before.map encSl)),(14,vi i),(15,.ref 15 0)],[(8,.tok 4 (before.map encSl).length),(12100,.tok 2 (needs.map encRq).length),(1000,.cells [sl encSk (skipStep x d st ⟨before,needs,r⟩).2]),(1001,.cells [vb (skipStep x d st ⟨before,needs,r⟩).1]),(15,.cells (encRl r))],hfree⟩ (Yi ⟨Z7,Z5,Fh,ext_dec (by kernel_rfl)⟩ ?_)
 refine Xi (encSl y) (Yi (Yi (Nn i) hgy) (Yi rfl ?_));refine Yi (Nz rfl) ?_;have bulk:AllLen 4 [encSl y]∧(before.map encSl).length=(before.map encSl).length∧((before.map encSl).length+[encSl y].length)*40≤140737488355328∧(before.map encSl).length+[encSl y].length≤9223372036854775807 :=
  ⟨⟨rfl,trivial⟩,rfl,by rw [Lm,List.length_singleton]; omega,by rw [Lm,List.length_singleton]; omega⟩
 refine Yi bulk ?_;have hxl:=hxr r hrx;have bulk2:AllLen 2 (r.reqs.map encRq)∧(needs.map encRq).length=(needs.map encRq).length∧((needs.map encRq).length+(r.reqs.map encRq).length)*40≤140737488355328∧(needs.map encRq).length+(r.reqs.map encRq).length≤9223372036854775807 :=
  ⟨allLen_map (enc:=encRq) (n:=2) (fun _=>rfl) r.reqs,rfl,by rw [Lm,Lm]; omega,by rw [Lm,Lm]; omega⟩
 refine Yi bulk2 ?_;have e7:AV.slice (.id 12100 2) (needs.map encRq++r.reqs.map encRq)=.slice (.id 12100 2) ((needs++r.reqs).map encRq):=by rw [List.map_append]
 have e8:AV.slice (.id 8 4) (before.map encSl++[encSl y])=.slice (.id 8 4) ((before++[y]).map encSl):=by rw [List.map_append]; rfl
 have o7:HO.tok 2 ((needs.map encRq).length+(r.reqs.map encRq).length)=.tok 2 ((needs++r.reqs).map encRq).length:=by rw [List.map_append,List.length_append]
 have o8:HO.tok 4 ((before.map encSl).length+[encSl y].length)=.tok 4 ((before++[y]).map encSl).length:=by rw [List.map_append,List.length_append]; rfl
 refine Xi ⟨(before++[y],needs++r.reqs,m,(skipStep x d) st ⟨before,needs,r⟩),hinv⟩ ?_;exact ⟨by show m<n; omega,⟨Zr,Zr,Zr,⟨e7,rfl⟩,⟨e8,rfl⟩,Tv⟩,⟨⟨o8,rfl⟩,⟨o7,rfl⟩,Zr,Zr,Tv⟩,Fh,ext_dec (by kernel_rfl)⟩
end Go.Eng

namespace Go.Eng
open Go.Proofs
def smallQ (q:Rq):Bool:=decide (q.path.size≤100)&&decide (q.set.length≤8)
def smallQs (l:List Rq):Bool:=l.all smallQ&&decide (l.length≤20)
theorem c35 (l:List Rq) (hl:Few l):PC 57 [sl encRq l] (vb (smallQs l)):=by
 unfold Few at hl;refine Ps pl0 Tryz.func57 rfl (Nz rfl) ?_;refine Xi {i:Nat // i≤l.length∧∀ j (hj:j<l.length),j<i→smallQ l[j]=true} (Xi (fun i=>⟨[(0,sl encRq l),(3,vi i.1)],[],hfree⟩) (Xi (fun i=>l.length - i.1) (Yi (Xi ⟨0,Nat.zero_le _,fun j _ h=>by omega⟩ ?_) ?_)))
 ·exact ⟨Z2,Tv,Fh,Tv⟩
 intro ⟨i,h1,h2⟩;refine Yi ?_ ?_
 ·intro h;have h:(i:Int)<(l.map encRq).length:=h;have h:i<l.length:=by simpa using h
  have hg:l[i]?=some l[i]:=Ge h;have no:smallQ l[i]=false→false=smallQs l:=fun e=>by
   unfold smallQs
   have:l.all smallQ=false:=by
    rw [Bool.eq_false_iff]; intro ha
    have:=List.all_eq_true.1 ha _ (List.getElem_mem h)
    rw [e] at this; cases this
   rw [this]; rfl
  refine Xi (encRq l[i]) (Yi (Yi (Nn i) (by simp [hg])) (Yi rfl ?_));refine Yi ?_ ?_
  ·intro h3;have h3:(100:Int)<((l[i].path.size:Nat):Int):=h3;exact .of_eq (congrArg vb (no (by unfold smallQ; rw [decide_eq_false (by omega)]; rfl)))
  intro h3;have h3:¬ (100:Int)<((l[i].path.size:Nat):Int):=h3;refine Xi (encRq l[i]) (Yi (Yi (Nn i) (by simp [hg])) (Yi rfl ?_));refine Yi ?_ ?_
  ·intro h4;have h4:(8:Int)<((l[i].set.map encSpan).length:Int):=h4;rw [Lm] at h4;exact .of_eq (congrArg vb (no (by unfold smallQ; rw [decide_eq_false (by omega:¬ l[i].set.length≤8),Bool.and_false])))
  intro h4;have h4:¬ (8:Int)<((l[i].set.map encSpan).length:Int):=h4;have h5:l[i].set.length≤8:=by rw [Lm] at h4; omega
  refine Yi (Ii i (by omega)) ?_;refine Xi ⟨i+1,by omega,fun j hj hji=>?_⟩ ?_
  ·rcases Nat.lt_or_ge j i with z | z
   ·exact h2 j hj z
   ·have:j=i:=by omega
    subst this; unfold smallQ; rw [decide_eq_true (by omega),decide_eq_true h5]; rfl
  ·exact ⟨Dl l.length i (by omega),Z2,Tv,Fh,Tv⟩
 ·intro h;have h:¬ (i:Int)<(l.map encRq).length:=h;have h:¬ i<l.length:=by simpa using h
  have ha:l.all smallQ=true:=List.all_eq_true.2 fun q hq=>by
   obtain ⟨j,hj,rfl⟩:=List.getElem_of_mem hq;exact h2 j hj (by omega)
  refine Yi ?_ ?_
  ·intro h3;have h3:((l.map encRq).length:Int)≤20:=h3;rw [Lm] at h3;exact .of_eq (congrArg vb (show true=smallQs l by unfold smallQs; rw [ha,decide_eq_true (by omega)]; rfl))
  ·intro h3;have h3:¬ ((l.map encRq).length:Int)≤20:=h3;rw [Lm] at h3;exact .of_eq (congrArg vb (show false=smallQs l by unfold smallQs; rw [decide_eq_false (by omega),Bool.and_false]))
end Go.Eng

namespace Go.Eng
open Go.Proofs
def smallR (r:Rl):Bool:=decide (r.path.size≤100)&&decide (r.arch.size≤100)&&decide (r.ifc.size≤100)&&decide (r.cert.size≤100)&&smallQs r.reqs
def smallX (x:List Rl) (n:Nat):Bool:=x.all smallR&&decide (x.length≤n)
theorem c34 (x:List Rl) (n:Nat) (hl:Few x) (hr:∀ r ∈ x,Few r.reqs):PC 56 [sl encRl x,vi n] (vb (smallX x n)):=by
 unfold Few at hl;refine Ps pl0 Tryz.func56 rfl (Nz rfl) ?_;refine Xi {i:Nat // i≤x.length∧∀ j (hj:j<x.length),j<i→smallR x[j]=true} (Xi (fun i=>⟨[(0,sl encRl x),(1,vi n),(5,vi i.1)],[],hfree⟩) (Xi (fun i=>x.length - i.1) (Yi (Xi ⟨0,Nat.zero_le _,fun j _ h=>by omega⟩ ?_) ?_)))
 ·exact ⟨Z3,Tv,Fh,Tv⟩
 intro ⟨i,h1,h2⟩;refine Yi ?_ ?_
 ·intro h;have h:(i:Int)<(x.map encRl).length:=h;have h:i<x.length:=by simpa using h
  have hg:x[i]?=some x[i]:=Ge h;have no:smallR x[i]=false→false=smallX x n:=fun e=>by
   unfold smallX
   have:x.all smallR=false:=by
    rw [Bool.eq_false_iff]; intro ha
    have:=List.all_eq_true.1 ha _ (List.getElem_mem h)
    rw [e] at this; cases this
   rw [this]; rfl
  have hc:=c35 x[i].reqs (hr _ (List.getElem_mem h));refine Xi (encRl x[i]) (Yi (Yi (Nn i) (by simp [hg])) (Yi rfl ?_));refine Yi ?_ ?_
  ·intro h3;have h3:(100:Int)<((x[i].path.size:Nat):Int):=h3;exact .of_eq (congrArg vb (no (by unfold smallR; rw [decide_eq_false (by omega:¬ x[i].path.size≤100)]; simp)))
  intro h3;have h3:¬ (100:Int)<((x[i].path.size:Nat):Int):=h3;refine Xi (encRl x[i]) (Yi (Yi (Nn i) (by simp [hg])) (Yi rfl ?_));refine Yi ?_ ?_
  ·intro h4;have h4:(100:Int)<((x[i].arch.size:Nat):Int):=h4;exact .of_eq (congrArg vb (no (by unfold smallR; rw [decide_eq_false (by omega:¬ x[i].arch.size≤100)]; simp)))
  intro h4;have h4:¬ (100:Int)<((x[i].arch.size:Nat):Int):=h4;refine Xi (encRl x[i]) (Yi (Yi (Nn i) (by simp [hg])) (Yi rfl ?_));refine Yi ?_ ?_
  ·intro h5;have h5:(100:Int)<((x[i].ifc.size:Nat):Int):=h5;exact .of_eq (congrArg vb (no (by unfold smallR; rw [decide_eq_false (by omega:¬ x[i].ifc.size≤100)]; simp)))
  intro h5;have h5:¬ (100:Int)<((x[i].ifc.size:Nat):Int):=h5;refine Xi (encRl x[i]) (Yi (Yi (Nn i) (by simp [hg])) (Yi rfl ?_));refine Yi ?_ ?_
  ·intro h6;have h6:(100:Int)<((x[i].cert.size:Nat):Int):=h6;exact .of_eq (congrArg vb (no (by unfold smallR; rw [decide_eq_false (by omega:¬ x[i].cert.size≤100)]; simp)))
  intro h6;have h6:¬ (100:Int)<((x[i].cert.size:Nat):Int):=h6;refine Xi (encRl x[i]) (Yi (Yi (Nn i) (by simp [hg])) (Yi rfl ?_));refine Or.elim (Bt (smallQs x[i].reqs)) (fun e=>?_) (fun e=>?_)
  rotate_left
  ·rw [e] at hc;refine Xi .pure (Xi _ (Yi (hc) ?_));exact .of_eq (congrArg vb (no (by unfold smallR; rw [e,Bool.and_false])))
  rw [e] at hc;refine Xi .pure (Xi _ (Yi (hc) ?_));refine Yi (Ii i (by omega)) ?_;refine Xi ⟨i+1,by omega,fun j hj hji=>?_⟩ ?_
  ·rcases Nat.lt_or_ge j i with z | z
   ·exact h2 j hj z
   ·have:j=i:=by omega
    subst this; unfold smallR;rw [decide_eq_true (by omega:x[j].path.size≤100),decide_eq_true (by omega:x[j].arch.size≤100),decide_eq_true (by omega:x[j].ifc.size≤100),decide_eq_true (by omega:x[j].cert.size≤100),e]; rfl
  ·exact ⟨Dl x.length i (by omega),Z3,Tv,Fh,Tv⟩
 ·intro h;have h:¬ (i:Int)<(x.map encRl).length:=h;have h:¬ i<x.length:=by simpa using h
  have ha:x.all smallR=true:=List.all_eq_true.2 fun q hq=>by
   obtain ⟨j,hj,rfl⟩:=List.getElem_of_mem hq;exact h2 j hj (by omega)
  refine Yi ?_ ?_
  ·intro h3;have h3:((x.map encRl).length:Int)≤n:=h3;rw [Lm] at h3;exact .of_eq (congrArg vb (show true=smallX x n by unfold smallX; rw [ha,decide_eq_true (by omega)]; rfl))
  ·intro h3;have h3:¬ ((x.map encRl).length:Int)≤n:=h3;rw [Lm] at h3;exact .of_eq (congrArg vb (show false=smallX x n by unfold smallX; rw [decide_eq_false (by omega),Bool.and_false]))
theorem c11 (x:List Rl) (ifs:List (List AV)) (roots:List Rq) (hl:Few x) (hr:∀ r ∈ x,Few r.reqs) (hq:Few roots):PC 23 [ixV x ifs,sl encRq roots] (vb (smallX x 16&&smallQs roots)):=by
 have h1:=c34 x 16 hl hr;have h2:=c35 roots hq;cases e:smallX x 16 with
 | true =>
  rw [e] at h1;refine Ps pl0 Tryz.func23 rfl (Nz rfl) ?_;refine Xi .pure (Xi _ (Yi (h1) ?_));refine Xi .pure (Xi _ (Yi (h2) ?_));exact .refl _
 | false =>
  rw [e] at h1;refine Ps pl0 Tryz.func23 rfl (Nz rfl) ?_;refine Xi .pure (Xi _ (Yi (h1) ?_));exact .refl _
end Go.Eng

namespace Go.Eng
open Go.Proofs
abbrev nilA:AV:=.v (.slice none 0 0)
end Go.Eng

namespace Go.Eng
open Go.Proofs
abbrev H45 (x:List Rl) (ifs:List (List AV)) (roots:List Rq) (s:List Sl):Prop:=PC 83 [ixV x ifs,sl encRq roots,sl encSl s] (vi (solvesP x roots s))
end Go.Eng
