/- Lemmas for the claims of this seat, without a condition: part 7 (EngH, EngI, EngJ, EngK, EngL, EngM). -/
import Derived.Test.YtkmnnpmneamgoaaGreatDoorA06
import Derived.Laws.IdiomStrings
import Derived.Lib.BufferRead
namespace Go.Eng

section
variable {P:Program} {T:Tab} (hT:TabOk P T) {h:Nat→HO} {g:Gh} {w:World} {K:AV→Prop}

section
include hT
theorem indexAddrK_ok {t:Nat} {x ix:AV} {vx vi:Value} (hx:Rep g w (used h) x vx) (hi:Rep g w (used h) ix vi) (hk:indexAddrK T t x ix K):Gives P h g w (Instr.indexAt t vx vi) K:=by
 unfold indexAddrK at hk;split at hk
 ·rename_i e i ht;obtain rfl:=hi.v_eq;have hu:=hT.slice ht;split at hk
  ·exact hk.elim
  ·rename_i m hm;have hrun:∀ b off (len cap:Nat),0≤i→i<(len:Int)→(Instr.indexAt t (.slice (some ⟨b,off,none⟩) len cap) (.int .i64 i)).run P w=.ok (.pointer (some ⟨b,off+i.toNat*(T e).size,none⟩)) w:=fun b off len cap h0 h1=>by
    simp [Instr.indexAt,asIntOf,run_underlying hu,h0,h1,hT.size1 w hm,Addr.add_lit,hm]
   split at hk
   ·rename_i tk es;obtain ⟨cs,⟨h0,h1⟩,h2,hk⟩:=hk;have hs:=hx.slice_none;have hlt:=(List.getElem?_eq_some_iff.1 h1).1;cases hs with
    | snil=>simp at h1
    | slice _ _ b off sz cap val hc hl hcell hrep =>
     have hsz:sz=(T e).size:=by rw [← h2]; exact (hl _ _ h1).symm
     subst hsz;refine ⟨_,_,hrun b off es.length cap h0 (by omega),hk,.cptr _ cs b _ (val i.toNat) (fun j av hj=>?_) (fun j av hj=>hrep _ _ _ _ h1 hj)⟩;exact hcell _ _ _ _ h1 hj
   ·rename_i r n;obtain ⟨⟨h0,h1⟩,hk⟩:=hk;cases hx with
    | msl _ _ _ a cap hu' ht' hn ha hx' =>
     rcases ha with rfl | ⟨b,rfl⟩
     ·omega
     ·refine ⟨_,_,hrun b 0 n cap h0 h1,hk,?_⟩;rw [Nat.zero_add];exact .eref _ r n _ _ 0 b cap hu' ht' ⟨by omega,hn⟩ (fun e=>(hx' e).symm)
   ·exact hk.elim
 ·rename_i n e i ht;obtain rfl:=hi.v_eq;have hu:=hT.array ht;split at hk
  ·exact hk.elim
  ·rename_i m hm;have hrun:∀ b off,0≤i→i<(n:Int)→(Instr.indexAt t (.pointer (some ⟨b,off,none⟩)) (.int .i64 i)).run P w=.ok (.pointer (some ⟨b,off+i.toNat*(T e).size,none⟩)) w:=fun b off h0 h1=>by
    simp [Instr.indexAt,asIntOf,run_underlying hu,h0,h1,hT.size1 w hm,Addr.add_lit,hm,Instr.sureAddr]
   split at hk
   ·cases hx with
    | cptr _ _ b off val hcell hrep=>exact ⟨_,_,hrun b off hk.1.1 hk.1.2,hk.2,(Rep.cptr _ _ b off val hcell hrep).cptr_drop _⟩
   ·rename_i r off;cases hx with
    | ref _ _ _ b hu ht hp=>exact ⟨_,_,hrun b off hk.1.1 hk.1.2,hk.2,.ref _ r _ b hu ht hp⟩
   ·exact hk.elim
 ·exact hk.elim

theorem indexK_ok {t:Nat} {x ix:AV} {vx vi:Value} (hx:Rep g w (used h) x vx) (hi:Rep g w (used h) ix vi) (hk:indexK T t x ix K):Gives P h g w (Instr.index t vx vi) K:=by
 unfold indexK at hk;split at hk
 ·rename_i s i ht;obtain rfl:=hx.v_eq;obtain rfl:=hi.v_eq;obtain ⟨b,⟨h0,h1⟩,hk⟩:=hk;refine Gives.val (x:=.int .u8 b.toNat) ?_ hk;have h2:s[i.toNat]?=some b:=by
   have:=(Array.getElem?_eq_some_iff.1 h1)
   obtain ⟨l1,l2⟩:=this;have l1' : i.toNat<s.size:=l1;rw [getElem?_pos s i.toNat l1'];exact congrArg some l2
  simp [Instr.index,asIntOf,run_underlying (hT.string ht),h0,h2]
 ·rename_i n e cs i ht;obtain rfl:=hi.v_eq;obtain ⟨⟨h0,h1⟩,hk⟩:=hk;cases hx with
  | agg _ _ xs a1 a2 a3 =>
   have hd:(T e).d≠.other:=by
    intro e';unfold partK loadK at hk;rw [e'] at hk;exact hk.elim
   obtain ⟨y,av,p1,p2,p3⟩:=partK_ok hT (InAgg.of_agg (.agg _ _ xs a1 a2 a3) _) hk;refine ⟨y,av,?_,p2,p3⟩;simp [Instr.index,asIntOf,run_underlying (hT.array ht),h0,h1,hT.size w hd,p1]
 ·exact hk.elim

theorem convK_ok {s t:Nat} {x:AV} {vx:Value} (hx:Rep g w (used h) x vx) (hk:convK T s t x K):Gives P h g w (convert s t vx) K:=by
 unfold convK at hk;split at hk
 ·rename_i k n h1 h2;obtain rfl:=hx.v_eq;refine Gives.val (x:=.int .i64 n) ?_ hk.2;have hw:=wrap_in hk.1;simp [convert,run_underlying (hT.int h1),run_underlying (hT.int h2),Conv.intToInt,hw]
 ·rename_i k k' m n hne h1 h2;obtain rfl:=hx.v_eq;refine Gives.val (x:=.int k' (k'.wrap n)) ?_ hk;simp [convert,run_underlying (hT.int h1),run_underlying (hT.int h2),Conv.intToInt]
 ·rename_i s' h1 h2;obtain rfl:=hx.v_eq;refine Gives.val (x:=.string s') ?_ hk;simp [convert,run_underlying (hT.string h1),run_underlying (hT.string h2)]
 ·rename_i e tk es h1 h2;split at hk
  ·rename_i h3;obtain ⟨l,rfl,hk⟩:=hk;have hr:=hx.slice_none;refine Gives.val (x:=.string ⟨l.toArray⟩) ?_ hk;generalize hes:l.map (fun b=>[AV.v (.int .u8 b.toNat)])=es at hr;cases hr with
   | snil _ a cap =>
    have hl:l=[]:=by cases l with | nil=>rfl | cons b l=>cases hes
    subst hl;cases a with
    | none=>exact Lib.run_convert_nil_bytes w s t e cap (hT.slice h1) (hT.int h3) (hT.string h2)
    | some a=>exact run_convert_bytes_back w s t e a cap [] (hT.slice h1) (hT.int h3) (hT.string h2) (fun j hj=>by simp at hj)
   | slice _ _ b off sz cap val hc hl hcell hrep =>
    have hlen:l.length=es.length:=by rw [← hes]; simp
    have:=run_convert_bytes_back (P:=P) w s t e ⟨b,off,none⟩ cap l (hT.slice h1) (hT.int h3) (hT.string h2) (fun j hj=>by
     have hg:es[j]?=some [AV.v (.int .u8 l[j].toNat)]:=by rw [← hes,List.getElem?_map,List.getElem?_eq_getElem hj]; rfl
     have hone:sz=1:=(hl j _ hg).symm;have h4:=hcell j _ 0 _ hg rfl;have h5:=hrep j _ 0 _ hg rfl;rw [Addr.add_lit];rw [hone,Nat.mul_one,Nat.add_zero] at h4;rw [h4.2.1,h5.v_eq])
    rw [hlen] at this;exact this
  ·exact hk.elim
 ·exact hk.elim
end

theorem unopK_ok {op:UnOp} {x:AV} {vx:Value} (hx:Rep g w (used h) x vx) (hk:unopK op x K):Gives P h g w (Op.unary op vx) K:=by
 unfold unopK at hk;split at hk
 ·unfold notK at hk;split at hk
  ·obtain rfl:=hx.v_eq; exact Gives.val (x:=.bool false) (by simp [Op.unary]) hk
  ·obtain rfl:=hx.v_eq; exact Gives.val (x:=.bool true) (by simp [Op.unary]) hk
  ·exact hk.elim
 ·rename_i a;obtain rfl:=hx.v_eq;refine Gives.val (x:=.int .i64 (-a)) ?_ hk.2
  have:=wrap_in hk.1
  simp [Op.unary,Op.intArith,this]
 ·exact hk.elim
theorem nthO_get:∀ {l:List AV} {j:Nat} {a:AV},nthO l j=some a→l[j]?=some a
 | [],j,a,h=>by cases h
 | b :: r,0,a,h=>by simpa [nthO] using h
 | b :: r,j+1,a,h=>by simpa using nthO_get (l:=r) (j:=j) h
theorem extractK_ok {i:Nat} {x:AV} {vx:Value} (hx:Rep g w (used h) x vx) (hk:extractK x i K):Gives P h g w (Instr.extract vx i) K:=by
 unfold extractK at hk;split at hk
 ·rename_i cs;cases hx with
  | tup _ _ vs hs hh =>
   split at hk
   ·rename_i a ha;have hc:=nthO_get ha;have hi:i<vs.size:=by rw [hs]; exact (List.getElem?_eq_some_iff.1 hc).1
    exact ⟨vs[i],_,by simp [Instr.extract,hi],hk,hh _ _ _ hc (by simp [hi])⟩
   ·exact hk.elim
 ·exact hk.elim
theorem pickK_ok {c a b:AV} {vc va vb:Value} (hc:Rep g w (used h) c vc) (ha:Rep g w (used h) a va) (hb:Rep g w (used h) b vb) (hk:pickK c a b K) :
  Gives P h g w (do pure (if ← asBool vc then va else vb)) K:=by
 unfold pickK at hk;split at hk
 ·obtain rfl:=hc.v_eq; exact ⟨va,a,by simp [asBool],hk,ha⟩
 ·obtain rfl:=hc.v_eq; exact ⟨vb,b,by simp [asBool],hk,hb⟩
 ·exact hk.elim
theorem maxK_ok {t:Nat} {tys:Array TypeId} {x y:AV} {vx vy:Value} (hx:Rep g w (used h) x vx) (hy:Rep g w (used h) y vy) (hk:mmK max x y K):Gives P h g w (Builtin.max_ tys t #[vx,vy]) K:=by
 unfold mmK at hk;split at hk
 ·rename_i k a k' b;split at hk
  ·obtain rfl:=hx.v_eq;obtain rfl:=hy.v_eq;refine Gives.val (x:=.int k (max a b)) ?_ hk;simp [Builtin.max_,Builtin.max2];omega
  ·exact hk.elim
 ·exact hk.elim
theorem minK_ok {t:Nat} {tys:Array TypeId} {x y:AV} {vx vy:Value} (hx:Rep g w (used h) x vx) (hy:Rep g w (used h) y vy) (hk:mmK min x y K):Gives P h g w (Builtin.min_ tys t #[vx,vy]) K:=by
 unfold mmK at hk;split at hk
 ·rename_i k a k' b;split at hk
  ·obtain rfl:=hx.v_eq;obtain rfl:=hy.v_eq;refine Gives.val (x:=.int k (min a b)) ?_ hk;simp [Builtin.min_,Builtin.min2];omega
  ·exact hk.elim
 ·exact hk.elim
end
end Go.Eng

namespace Go.Eng

theorem RepL.at {g:Gh} {w:World} {U:Nat→Prop} {cs:List AV} {vs:List Value} (h:RepL g w U cs vs) {i:Nat} {av:AV} (hi:cs[i]?=some av):∃ x,vs[i]?=some x∧x.oneCell'=true∧Rep g w U av x:=by
 have hlt:i<vs.length:=by rw [h.1]; exact (List.getElem?_eq_some_iff.1 hi).1
 exact ⟨vs[i],List.getElem?_eq_getElem hlt,h.2.1 _ (List.getElem_mem hlt),h.2.2 i av _ hi (List.getElem?_eq_getElem hlt)⟩

theorem flatten_get {α:Type} {n:Nat} : ∀ {es:List (List α)},(∀ c ∈ es,c.length=n)→∀ {i j:Nat} {c:List α},es[i]?=some c→j<n→es.flatten[i*n+j]?=c[j]?
 | [],_,i,j,c,h,_=>by simp at h
 | d :: es,hl,0,j,c,h,hj=>by
  simp at h; subst h
  have:=hl d (List.mem_cons_self ..)
  rw [List.flatten_cons,List.getElem?_append_left (by omega)]
  congr 1; omega
 | d :: es,hl,i+1,j,c,h,hj=>by
  have hd:=hl d (List.mem_cons_self ..);rw [List.flatten_cons,List.getElem?_append_right (by rw [hd,Nat.succ_mul]; omega)];rw [show (i+1)*n+j - d.length=i*n+j by rw [hd,Nat.succ_mul]; omega];exact flatten_get (fun c hc=>hl c (List.mem_cons_of_mem _ hc)) (by simpa using h) hj
theorem flatten_len {α:Type} {n:Nat} : ∀ {es:List (List α)},(∀ c ∈ es,c.length=n)→es.flatten.length=es.length*n
 | [],_=>by simp
 | d :: es,hl=>by
  rw [List.flatten_cons,List.length_append,hl d (List.mem_cons_self ..),flatten_len (fun c hc=>hl c (List.mem_cons_of_mem _ hc)),List.length_cons,Nat.succ_mul,Nat.add_comm]

section
variable {P:Program} {T:Tab} (hT:TabOk P T) {h:Nat→HO} {g:Gh} {w:World} {K:AV→Prop} (ho:∀ r,ObjRep g w (used h) r (h r))
include ho

theorem loadHK_ok (hT:TabOk P T) {t:Nat} {p:AV} {vp:Value} (hp:Rep g w (used h) p vp) (hk:loadHK T h t p K):Gives P h g w (Instr.loadAt t vp) K:=by
 have wrapUp:∀ b off,Gives P h g w (loadVar t ⟨b,off,none⟩) K→Gives P h g w (Instr.loadAt t (.pointer (some ⟨b,off,none⟩))) K:=by
  rintro b off ⟨x,av,h1,h2,h3⟩
  exact ⟨x,av,by simp [Instr.loadAt,Instr.sureAddr,h1],h2,h3⟩
 unfold loadHK at hk;split at hk
 ·cases hp with
  | cptr _ _ b off val hcell hrep=>exact wrapUp b off (loadK_ok hT (AtCells.of_cptr (.cptr NoU _ b off val hcell hrep) _) hk)
 ·rename_i r off;have hr:=ho r;cases hp with
  | ref _ _ _ b hu ht hx =>
   split at hk
   ·rename_i cs e;rw [e] at hr;obtain ⟨_,b',E,vs,a1,a2,a3,a4,a5⟩:=hr;rw [a2] at hx; cases hx
    have:=(AtCells.of_row a3 a4).drop off
    rw [Nat.zero_add] at this;exact wrapUp b off (loadK_ok hT this hk)
   ·rename_i cs e;rw [e] at hr;obtain ⟨_,b',a1,a2⟩:=hr;rw [a1] at hx; cases hx
    have:=(AtCells.of_cptr a2 (used h)).drop off
    rw [Nat.zero_add] at this;exact wrapUp b off (loadK_ok hT this hk)
   ·exact hk.elim
 ·rename_i r n sz i off;have hr:=ho r;cases hp with
  | eref _ _ _ _ _ _ b cap hu ht hn hx =>
   split at hk
   ·rename_i sz' es e;rw [e] at hr;split at hk
    ·rename_i hz;obtain rfl:=Nat.eq_of_beq_eq_true hz;obtain ⟨hlen,cs,h1,hk⟩:=hk;obtain ⟨t1,l1,al,a1⟩:=hr;have hlt:=(List.getElem?_eq_some_iff.1 h1).1;rcases a1 with ⟨rfl,_⟩ | ⟨b',cap',E,vs,e1,e2,e3,e4,e5,e6,e7⟩
     ·simp at h1
     ·have:=hx (hlen.trans l1.symm)
      rw [e1] at this;simp only [Value.slice.injEq,Option.some.injEq,Addr.mk.injEq] at this;obtain ⟨⟨rfl,_,_⟩,_,_⟩:=this;refine wrapUp _ _ (loadK_ok hT (cs:=cs.drop off) (fun j av hj=>?_) hk);rw [List.getElem?_drop] at hj;have hcl:=al cs (List.mem_of_getElem? h1);have hj2:off+j<sz:=by rw [← hcl]; exact (List.getElem?_eq_some_iff.1 hj).1
      have hf:=flatten_get al h1 hj2;rw [hj] at hf;obtain ⟨x,x1,x2,x3⟩:=e6.at hf;refine ⟨x,?_,x2,x3.up _⟩;rw [cell_row e4];have hlt2:i*sz+(off+j)<es.length*sz:=by
       have:=Nat.mul_le_mul_right sz (show i+1≤es.length from hlt)
       rw [Nat.succ_mul] at this; omega
      rw [List.getElem?_take_of_lt hlt2] at x1;rw [← Nat.add_assoc] at x1;simpa using x1
    ·exact hk.elim
   ·exact hk.elim
 ·exact hk.elim
end
end Go.Eng

namespace Go.Eng

theorem over_len {α:Type} : ∀ (cs:List α) (o:Nat) (vs:List α),(over cs o vs).length=cs.length
 | [],_,_=>rfl
 | c :: cs,o+1,vs=>by simp [over,over_len cs o vs]
 | c :: cs,0,[]=>rfl
 | c :: cs,0,v :: vs=>by simp [over,over_len cs 0 vs]
theorem over_get {α:Type} : ∀ (cs:List α) (o:Nat) (vs:List α) (i:Nat),o+vs.length≤cs.length→(over cs o vs)[i]?=if o≤i∧i<o+vs.length then vs[i - o]? else cs[i]?
 | [],o,vs,i,h=>by
  simp at h;obtain ⟨rfl,rfl⟩:=h;simp [over]
 | c :: cs,o+1,vs,0,h=>by simp [over]
 | c :: cs,o+1,vs,i+1,h=>by
  have:=over_get cs o vs i (by simp at h; omega)
  simp only [over,List.getElem?_cons_succ,this]
  by_cases hc:o≤i∧i<o+vs.length
  ·rw [if_pos hc,if_pos (by omega)]; congr 1; omega
  ·rw [if_neg hc,if_neg (by omega)]
 | c :: cs,0,[],i,h=>by
  have:¬ (0≤i∧i<0+([]:List α).length):=by simp
  rw [if_neg this]; rfl
 | c :: cs,0,v :: vs,0,h=>by simp [over]
 | c :: cs,0,v :: vs,i+1,h=>by
  have:=over_get cs 0 vs i (by simp at h; omega)
  simp only [over,List.getElem?_cons_succ,this]
  by_cases hc:0≤i∧i<0+vs.length
  ·rw [if_pos hc,if_pos (by simp; omega)]; simp
  ·rw [if_neg hc,if_neg (by simp at hc ⊢; omega)]

theorem RepL.over {g:Gh} {w:World} {U:Nat→Prop} {cs as1:List AV} {xs vs:List Value} (h:RepL g w U cs xs) (k:RepL g w U as1 vs) (o:Nat) (hle:o+as1.length≤cs.length) :
  RepL g w U (Eng.over cs o as1) (Eng.over xs o vs):=by
 have hle' : o+vs.length≤xs.length:=by rw [k.1,h.1]; exact hle
 refine ⟨by rw [over_len,over_len,h.1],fun x hx=>?_,fun i av x h1 h2=>?_⟩
 ·obtain ⟨i,hi⟩:=List.mem_iff_getElem?.1 hx;rw [over_get _ _ _ _ hle'] at hi;split at hi
  ·exact k.2.1 _ (List.mem_of_getElem? hi)
  ·exact h.2.1 _ (List.mem_of_getElem? hi)
 ·rw [over_get _ _ _ _ hle] at h1;rw [over_get _ _ _ _ hle',k.1] at h2;split at h1
  ·rename_i hc; rw [if_pos hc] at h2; exact k.2.2 _ _ _ h1 h2
  ·rename_i hc; rw [if_neg hc] at h2; exact h.2.2 _ _ _ h1 h2

theorem one_ok {g:Gh} {w:World} {U:Nat→Prop} {a:AV} {x:Value} (h:Rep g w U a x) (h1:one a=true):x.oneCell'=true:=by
 cases h with
 | v=>exact h1
 | tok _ r sz es _ h=>cases h with
  | snil=>rfl
  | slice=>rfl
 | ver _ r sz v es _ h=>cases h with
  | snil=>rfl
  | slice=>rfl
 | full _ sz es _ h=>cases h with
  | snil=>rfl
  | slice=>rfl
 | _=>first | rfl | (cases h1; done)
theorem one_cells {x:Value} (h:x.oneCell'=true):x.cells=#[x]:=by
 cases x <;> first | rfl | (simp [Value.oneCell'] at h)
theorem cellsK_ok {g:Gh} {w:World} {U:Nat→Prop} {n:Nat} {a:AV} {K:List AV→Prop} {x:Value} (h:Rep g w U a x) (hk:cellsK n a K) :
  ∃ cs,K cs∧cs.length=n∧RepL g w U cs x.cells.toList:=by
 have single:one a=true→n=1→K [a]→∃ cs,K cs∧cs.length=n∧RepL g w U cs x.cells.toList:=by
  intro h1 hn hk;have hx:=one_ok h h1;rw [one_cells hx];refine ⟨[a],hk,hn.symm,rfl,by simpa using hx,fun i av y e1 e2=>?_⟩;cases i with
  | zero=>simp at e1 e2; subst e1; subst e2; exact h
  | succ i=>simp at e1
 unfold cellsK at hk;split at hk
 ·rename_i cs;split at hk
  ·rename_i hl;cases h with
   | agg _ _ vs hs h1 hr =>
    refine ⟨cs,hk,Nat.eq_of_beq_eq_true hl,by simpa [Value.cells] using hs,fun y hy=>?_,fun i av y e1 e2=>?_⟩
    ·obtain ⟨i,hi⟩:=List.mem_iff_getElem?.1 hy;exact h1 i y (by simpa [Value.cells] using hi)
    ·exact hr i av y e1 (by simpa [Value.cells] using e2)
  ·exact hk.elim
 ·split at hk
  ·rename_i h1;split at hk
   ·exact single h1 rfl hk
   ·exact hk.elim
  ·exact hk.elim

theorem foldl_over:∀ (vs:List Value) (k o:Nat) (cs:Array Value),o+k+vs.length≤cs.size →
  ((vs.zipIdx k).foldl (fun (cs:Array Value) (p:Value × Nat)=>cs.setIfInBounds (o+p.2) p.1) cs).toList=over cs.toList (o+k) vs
 | [],k,o,cs,_=>by
  have:∀ (l:List Value) (o:Nat),over l o []=l:=by
   intro l
   induction l with
   | nil=>intro o; rfl
   | cons c l ih=>intro o; cases o with
    | zero=>rfl
    | succ o=>simp [over,ih]
  simp [this]
 | v :: vs,k,o,cs,h=>by
  simp at h;rw [List.zipIdx_cons,List.foldl_cons,foldl_over vs (k+1) o _ (by simp; omega)];simp only [Array.toList_setIfInBounds];apply List.ext_getElem?;intro i;rw [over_get _ _ _ _ (by simp; omega),over_get _ _ _ _ (by simp; omega)];simp only [List.length_cons,List.getElem?_set]
  by_cases h1:i=o+k
  ·subst h1;rw [if_neg (by omega),if_pos (by omega)];have hlt:o+k<cs.size:=by omega
   simp [hlt]
  ·by_cases h2:o+k≤i∧i<o+k+(vs.length+1)
   ·rw [if_pos (by omega),if_pos h2,show i - (o+k)=(i - (o+(k+1)))+1 by omega];simp
   ·rw [if_neg (by omega),if_neg (by omega),if_neg h2]

theorem fillK_ok {g:Gh} {w:World} {U:Nat→Prop} {t:Nat→AV} {ρ:Operand→Value} (ht:∀ x:Operand,Rep g w U (ev t x) (ρ x)) {pl pl' : Nat→Option (Nat × Nat)} (hpl:∀ i p,pl i=some p→pl' i=some p) :
  ∀ {ps:List (Nat × Operand)} {cs:List AV} {xs:Array Value} {K:List AV→Prop},RepL g w U cs xs.toList→fillK pl cs t ps K →
   ∃ cs' xs',K cs'∧RepL g w U cs' xs'.toList∧Instr.fill pl' xs (ps.map fun (i,x)=>(i,ρ x))=some xs'
 | [],cs,xs,K,h,hk=>⟨cs,xs,hk,h,rfl⟩
 | (i,x) :: ps,cs,xs,K,h,hk=>by
  unfold fillK at hk;split at hk
  ·exact hk.elim
  ·rename_i o n hp;obtain ⟨as1,hk,hn,hr⟩:=cellsK_ok (ht x) hk;split at hk
   ·rename_i hle;have hle:=Nat.le_of_ble_eq_true hle;have hsz:(ρ x).cells.size=n:=by rw [← hn]; simpa using hr.1
    have hxs:cs.length=xs.size:=by simpa using h.1.symm
    have hnew:=h.over hr o (by rw [hn]; exact hle);have e:=foldl_over (ρ x).cells.toList 0 o xs (by simp [hsz]; omega);simp only [Nat.add_zero] at e;rw [← e] at hnew;obtain ⟨cs',xs',k1,k2,k3⟩:=fillK_ok ht hpl hnew hk;refine ⟨cs',xs',k1,k2,?_⟩;simp only [List.map_cons,Instr.fill,hpl _ _ hp];have e2:(ρ x).cells.zipIdx.foldl (fun cs (c,j)=>cs.setIfInBounds (o+j) c) xs=((ρ x).cells.toList.zipIdx 0).foldl (fun (cs:Array Value) (p:Value × Nat)=>cs.setIfInBounds (o+p.2) p.1) xs:=by
     rw [← Array.foldl_toList]; simp
    rw [if_neg (by simp [hsz]; omega),e2];exact k3
   ·exact hk.elim

theorem allOne_ok:∀ {l:List AV},allOne l=true→∀ a ∈ l,one a=true
 | [],_,a,h=>by cases h
 | b :: r,h,a,ha=>by
  unfold allOne at h;split at h
  ·rename_i hb;rcases List.mem_cons.1 ha with rfl | ha
   ·exact hb
   ·exact allOne_ok h a ha
  ·cases h
theorem RepL.vals {g:Gh} {w:World} {U:Nat→Prop} {vs:List Value} (h:allOne (vs.map .v)=true):RepL g w U (vs.map .v) vs:=by
 refine ⟨by simp,fun x hx=>?_,fun i av x h1 h2=>?_⟩
 ·have:=allOne_ok h (.v x) (List.mem_map.2 ⟨x,hx,rfl⟩)
  simpa [one] using this
 ·rw [List.getElem?_map,h2] at h1;simp at h1; subst h1; exact .v _ _

section
variable {P:Program} {T:Tab} (hT:TabOk P T) {h:Nat→HO} {g:Gh} {w:World} {K:AV→Prop}

theorem mapM_run {α β:Type} (P:Program) (w:World) (f:α→Sem β) (f' : α→β):∀ (l:List α),(∀ a ∈ l,(f a).run P w=.ok (f' a) w)→(l.mapM f).run P w=.ok (l.map f') w
 | [],_=>rfl
 | a :: l,h=>by
  have h1:=h a (List.mem_cons_self ..);have h2:=mapM_run P w f f' l (fun b hb=>h b (List.mem_cons_of_mem _ hb));simp [List.mapM_cons,Sem.run_bind,h1,h2]
theorem allSized_ok:∀ {fs:List (Nat × Nat)},allSized T fs=true→∀ p ∈ fs,∃ n,(T p.1).size=n+1
 | [],_,p,h=>by cases h
 | (t,o) :: r,h,p,hp=>by
  unfold allSized at h;split at h
  ·cases h
  ·rename_i n hn;rcases List.mem_cons.1 hp with rfl | hp
   ·exact ⟨n,hn⟩
   ·exact allSized_ok h p hp
include hT
theorem zero_run {t:Nat} (hd:(T t).d≠.other):∃ z,(zeroValue t).run P w=.ok z w∧(T t).zc=z.cells.toList∧(T t).zero=z:=by
 obtain ⟨d,i,z,h1,h2,h3,h4,h5,h6,h7,h8⟩:=hT.get hd;exact ⟨z,by simp [zeroValue,typeInfo,h3,h4],by rw [TI.zc_cells,h7],h7⟩

theorem zero_run1 {t n:Nat} (h:(T t).size=n+1):∃ z,(zeroValue t).run P w=.ok z w∧(T t).zc=z.cells.toList:=by
 rcases hT t with e | e
 ·rw [e] at h; cases h
 unfold tiOf at e;split at e
 ·split at e
  ·rename_i d i h1 h2 _ z h3;exact ⟨z,by simp [zeroValue,typeInfo,h2,h3],by rw [TI.zc_cells,e]⟩
  ·rw [e] at h; cases h
 ·rw [e] at h; cases h
theorem buildK_ok {ty:Nat} {t:Nat→AV} {ρ:Operand→Value} (ht:∀ x:Operand,Rep g w (used h) (ev t x) (ρ x)) {ps:Array (Nat × Operand)} (hk:buildK T ty t ps.toList K) :
  Gives P h g w (Instr.build ty (ps.map fun (i,x)=>(i,ρ x))) K:=by
 unfold buildK at hk;split at hk
 ·exact hk.elim
 ·rename_i hone;have fin:∀ (cs' : List AV) (xs' : Array Value),RepL g w (used h) cs' xs'.toList→Rep g w (used h) (.agg cs') (.agg xs'):=fun cs' xs' hr =>
   .agg _ _ _ (by simpa using hr.1) (fun i x hx=>hr.2.1 x (List.mem_of_getElem? (by simpa using hx))) (fun i av x h1 h2=>hr.2.2 i av x h1 (by simpa using h2))
  split at hk
  ·rename_i fs hs;have hd:(T ty).d≠.other:=by rw [hs]; simp
   obtain ⟨z,z1,z2,_⟩:=zero_run hT (w:=w) hd;split at hk
   ·exact hk.elim
   ·rename_i hsz;obtain ⟨fa,u1,u2,u3⟩:=hT.struct hs;have hplaces:(fa.mapM fun (f:Field)=>(do pure (f.offset,← sizeOf f.type):Sem (Nat × Nat))).run P w=.ok (fa.map fun f=>(f.offset,(T f.type).size)) w:=by
     rw [Array.mapM_eq_mapM_toList]
     have:=mapM_run P w (fun f:Field=>(do pure (f.offset,← sizeOf f.type):Sem (Nat × Nat))) (fun f=>(f.offset,(T f.type).size)) fa.toList (fun f hf=>by
      obtain ⟨n,hn⟩:=allSized_ok hsz (f.type,f.offset) (by rw [u2]; exact List.mem_map.2 ⟨f,hf,rfl⟩);simp [hT.size1 w hn,hn])
     simp only [Sem.run_map,this,Result.andThen_ok]
     congr 1
     apply Array.ext';simp
    rw [z2] at hk hone;obtain ⟨cs',xs',k1,k2,k3⟩:=fillK_ok ht (pl':=fun i=>(fa.map fun f=>(f.offset,(T f.type).size))[i]?) (fun i p hp=>by
     split at hp
     ·rename_i t' o hf;cases hp;obtain ⟨fa',fd,v1,v2,rfl,rfl⟩:=foff_field hT hs hf;rw [u1] at v1; cases v1;simp [v2]
     ·cases hp) (RepL.vals (vs:=z.cells.toList) hone) hk
    refine ⟨_,_,?_,k1,fin cs' xs' k2⟩;simp only [Instr.build,Sem.run_bind,z1,Result.andThen_ok,run_underlying u1,hplaces];have e3:(Array.map (fun x:Nat × Operand=>match x with | (i,x)=>(i,ρ x)) ps).toList=ps.toList.map fun (i,x)=>(i,ρ x):=by simp
    rw [e3];rw [k3]
    rfl
  ·rename_i n e hs;have hd:(T ty).d≠.other:=by rw [hs]; simp
   obtain ⟨z,z1,z2,_⟩:=zero_run hT (w:=w) hd;split at hk
   ·exact hk.elim
   ·rename_i m hm;rw [z2] at hk hone;obtain ⟨cs',xs',k1,k2,k3⟩:=fillK_ok ht (pl':=fun i=>some (i*(T e).size,(T e).size)) (fun i p hp=>hp) (RepL.vals (vs:=z.cells.toList) hone) hk;refine ⟨_,_,?_,k1,fin cs' xs' k2⟩;simp only [Instr.build,Sem.run_bind,z1,Result.andThen_ok,run_underlying (hT.array hs),hT.size1 w hm];have e3:(Array.map (fun x:Nat × Operand=>match x with | (i,x)=>(i,ρ x)) ps).toList=ps.toList.map fun (i,x)=>(i,ρ x):=by simp
    rw [e3];simp only [hm] at k3;rw [k3]
    rfl
  ·exact hk.elim
end
end Go.Eng

namespace Go.Eng

theorem ksEq_eq {a b:KS} (h:ksEq a b=true):a=b:=by
 cases a <;> cases b <;> first | rfl | (simp [ksEq] at h; done) | (simp only [ksEq] at h; obtain rfl:=ikB_eq h; rfl)
theorem ksLEq_eq:∀ {a b:List KS},ksLEq a b=true→a=b
 | [],[],_=>rfl
 | x :: a,y :: b,h=>by
  unfold ksLEq at h;split at h
  ·rename_i e; obtain rfl:=ksEq_eq e; obtain rfl:=ksLEq_eq h; rfl
  ·cases h
 | [],_ :: _,h=>by simp [ksLEq] at h
 | _ :: _,[],h=>by simp [ksLEq] at h
theorem shEq_eq {a b:Shape} (h:shEq a b=true):a=b:=by
 obtain ⟨a1,a2⟩:=a;obtain ⟨b1,b2⟩:=b;cases a1 <;> cases b1 <;> simp only [shEq] at h <;> first | (obtain rfl:=ksLEq_eq h; rfl) | cases h

section
variable {P:Program} {T:Tab} (hT:TabOk P T)
include hT

def CheckSem (P:Program) (w:World) (b:Bool) (d t:Nat) (xs:Array Value) (o:Nat):Prop :=
 (do let a ← part t xs o; Instr.checkKey b d t a).run P w=.ok () w


theorem check_flat (w:World) (b:Bool):∀ (n t:Nat) (l:List KS),flatT T n t=some l→∀ d,n≤d→∀ (xs:Array Value) (o:Nat),ksL l (seg xs.toList o l.length)=true→CheckSem P w b d t xs o
 | 0,t,l,h=>by simp [flatT] at h
 | n+1,t,l,h=>by
  intro d hd xs o hx;obtain ⟨d,rfl⟩ : ∃ d',d=d'+1:=⟨d - 1,by omega⟩;have scalar:∀ k,(T t).d≠.other→aggT (T t).d=false→l=[k]→(∀ x,ksB k x=true→(Instr.checkKey b (d+1) t x).run P w=.ok () w)→CheckSem P w b (d+1) t xs o:=by
   rintro k hdd hs rfl hk
   obtain ⟨x,x1,x2,x3⟩:=seg_one hx;unfold CheckSem;simp [Sem.run_bind,run_part_scalar hT w hdd hs xs o _ x1,hk x x2]
  unfold flatT at h;split at h
  ·rename_i k hk;split at h
   ·cases h
    refine scalar _ (by rw [hk]; simp) (by rw [hk]; rfl) rfl (fun x hx=>?_);cases x <;> simp [ksB] at hx
    simp [Instr.checkKey,run_underlying (hT.int hk)]
   ·cases h
  ·rename_i hk;split at h
   ·cases h
    refine scalar _ (by rw [hk]; simp) (by rw [hk]; rfl) rfl (fun x hx=>?_);cases x <;> simp [ksB] at hx
    simp [Instr.checkKey,run_underlying (hT.string hk)]
   ·cases h
  ·rename_i hk;split at h
   ·cases h
    refine scalar _ (by rw [hk]; simp) (by rw [hk]; rfl) rfl (fun x hx=>?_);cases x <;> simp [ksB] at hx
    simp [Instr.checkKey,run_underlying (hT.bool hk)]
   ·cases h
  ·rename_i fs hk;split at h
   ·split at h
    ·rename_i l' hgo;split at h
     ·rename_i hlen;cases h;have hlen:=Nat.eq_of_beq_eq_true hlen;have hdd:(T t).d≠.other:=by rw [hk]; simp
      have hs:aggT (T t).d=true:=by rw [hk]; rfl
      obtain ⟨fa,u1,u2,u3⟩:=hT.struct hk;rw [u2] at hgo;have ex:(xs.extract o (o+(T t).size)).toList=seg xs.toList o l.length:=by
       rw [← hlen]; simp [seg]
      have s0:seg (seg xs.toList o l.length) 0 l.length=seg xs.toList o l.length:=by
       rw [seg_seg _ _ _ _ _ (by omega)]; rfl
      unfold CheckSem;simp only [Sem.run_bind,run_part_agg hT w hdd hs,Result.andThen_ok];have ih:=check_flat w b n;have hq:ksL l (seg (xs.extract o (o+(T t).size)).toList 0 l.length)=true:=by rw [ex,s0]; exact hx
      generalize xs.extract o (o+(T t).size)=ys at hq;simp only [Instr.checkKey,Sem.run_bind,run_underlying u1,Result.andThen_ok];rw [← Array.forIn_toList]
      clear u2 hk
      have key : ∀ (fl : List Field) (m : Nat) (l : List KS), flatGo (flatT T n) m (fl.map fun f => (f.type, f.offset)) = some l → (∀ f ∈ fl, f.name ≠ "_") → ksL l (seg ys.toList m l.length) = true →
        (forIn fl PUnit.unit (fun (f : Field) (_ : PUnit) => ((if f.name ≠ "_" then (do
         let x ← part f.type ys f.offset
         Instr.checkKey b d f.type x
         pure (ForInStep.yield PUnit.unit)) else pure (ForInStep.yield PUnit.unit)):Sem (ForInStep PUnit)))).run P w=.ok PUnit.unit w:=by
       intro fl
       induction fl with
       | nil=>intro m l _ _ _; rfl
       | cons f fl ihf =>
        intro m l hg hn hy;obtain ⟨ho,a,c,ha,hc,rfl⟩:=flatGo_fields hg;rw [List.length_append] at hy;obtain ⟨y1,y2⟩:=ksL_app hy;rw [seg_take _ _ _ _ (by omega)] at y1;rw [seg_drop,Nat.add_sub_cancel_left] at y2;have h1:=ih f.type a ha d (by omega) ys m y1;unfold CheckSem at h1;rw [List.forIn_cons];simp only [Sem.run_bind,if_pos (hn f (List.mem_cons_self ..))];simp only [Sem.run_bind] at h1;rw [ho];generalize (part f.type ys m).run P w=r1 at h1 ⊢;cases r1 with
        | halt x w1=>cases h1
        | ok u w1 =>
         simp only [Result.andThen_ok] at h1 ⊢;rw [h1];simp only [Result.andThen_ok,Sem.run_pure];exact ihf (m+a.length) c hc (fun f hf=>hn f (List.mem_cons_of_mem _ hf)) y2
      rw [key fa.toList 0 l hgo u3 hq]
      rfl
     ·cases h
    ·cases h
   ·cases h
  ·cases h

theorem shape_eq {kt:Nat} {sh:Shape} (hs:shapeOf T kt=some sh) (w:World) {x y:Value} (hx:shB sh x=true) (hy:shB sh y=true) :
  ∃ b:Bool,(Op.equal kt x y).run P w=.ok b w∧(b=true↔x=y):=by
 unfold shapeOf at hs;split at hs
 ·rename_i fs hk;split at hs
  ·rename_i l hl;cases hs;cases x <;> simp only [shB] at hx <;> try (cases hx; done)
   cases y <;> simp only [shB] at hy <;> try (cases hy; done)
   rename_i xs ys;have hd:(T kt).d≠.other:=by rw [hk]; simp
   have ha:aggT (T kt).d=true:=by rw [hk]; rfl
   have hlen:l.length=(T kt).size:=by
    unfold flatT at hl;rw [hk] at hl;dsimp only at hl;split at hl
    ·split at hl
     ·split at hl
      ·rename_i e; cases hl; exact Nat.eq_of_beq_eq_true e
      ·cases hl
     ·cases hl
    ·cases hl
   have s0:∀ zs:Array Value,ksL l zs.toList=true→seg zs.toList 0 l.length=zs.toList:=fun zs hz=>by
    have:=ksL_len hz
    simp only [seg,List.drop_zero];rw [List.take_of_length_le (by omega)]
   have ex:∀ zs:Array Value,ksL l zs.toList=true→zs.extract 0 (0+(T kt).size)=zs:=fun zs hz=>by
    have:=ksL_len hz
    rw [← hlen,← this]; simp
   obtain ⟨b,b1,b2⟩:=eq_flat hT w 8 kt l hl 10000 (by omega) xs ys 0 (by rw [s0 _ hx]; exact hx) (by rw [s0 _ hy]; exact hy);simp only [Sem.run_bind,run_part_agg hT w hd ha,Result.andThen_ok,ex _ hx,ex _ hy] at b1;rw [s0 _ hx,s0 _ hy] at b2;refine ⟨b,b1,b2.trans ⟨fun e=>by rw [Array.ext' e],fun e=>by cases e; rfl⟩⟩
  ·cases hs
 ·rename_i hno;split at hs
  ·rename_i l hl;cases hs;have hx' : ksL l [x]=true:=by cases x <;> exact hx
   have hy' : ksL l [y]=true:=by cases y <;> exact hy
   have single:∀ k,l=[k]→ksB k x=true∧ksB k y=true:=by
    rintro k rfl
    unfold ksL at hx' hy';split at hx'
    ·split at hy'
     ·exact ⟨‹_›,‹_›⟩
     ·cases hy'
    ·cases hx'
   have e9:Op.equal kt x y=Op.equalIn (9999+1) kt x y:=rfl;rw [e9];unfold flatT at hl;split at hl
   ·rename_i k hk;split at hl
    ·cases hl
     obtain ⟨h1,h2⟩:=single _ rfl;cases x <;> simp [ksB] at h1
     cases y <;> simp [ksB] at h2
     obtain rfl:=ikB_eq h1;obtain rfl:=ikB_eq h2;exact ⟨_,run_equalIn_int w 9999 kt _ _ _ _ (hT.int hk),by simp⟩
    ·cases hl
   ·rename_i hk;split at hl
    ·cases hl
     obtain ⟨h1,h2⟩:=single _ rfl;cases x <;> simp [ksB] at h1
     cases y <;> simp [ksB] at h2
     exact ⟨_,run_equalIn_string w 9999 kt _ _ (hT.string hk),by rw [toList_beq]; simp⟩
    ·cases hl
   ·rename_i hk;split at hl
    ·cases hl
     obtain ⟨h1,h2⟩:=single _ rfl;cases x <;> simp [ksB] at h1
     cases y <;> simp [ksB] at h2
     exact ⟨_,run_equalIn_bool' w 9999 kt _ _ (hT.bool hk),by simp⟩
    ·cases hl
   ·rename_i fs hk;exact absurd hk (hno fs)
   ·cases hl
  ·cases hs

theorem shape_check {kt:Nat} {sh:Shape} (hs:shapeOf T kt=some sh) (w:World) (b:Bool) {x:Value} (hx:shB sh x=true):(Instr.checkKey b 10000 kt x).run P w=.ok () w:=by
 unfold shapeOf at hs;split at hs
 ·rename_i fs hk;split at hs
  ·rename_i l hl;cases hs;cases x <;> simp only [shB] at hx <;> try (cases hx; done)
   rename_i xs;have hd:(T kt).d≠.other:=by rw [hk]; simp
   have ha:aggT (T kt).d=true:=by rw [hk]; rfl
   have hlen:l.length=(T kt).size:=by
    unfold flatT at hl;rw [hk] at hl;dsimp only at hl;split at hl
    ·split at hl
     ·split at hl
      ·rename_i e; cases hl; exact Nat.eq_of_beq_eq_true e
      ·cases hl
     ·cases hl
    ·cases hl
   have:=ksL_len hx
   have h0:seg xs.toList 0 l.length=xs.toList:=by
    simp only [seg,List.drop_zero];rw [List.take_of_length_le (by omega)]
   have h1:=check_flat hT w b 8 kt l hl 10000 (by omega) xs 0 (by rw [h0]; exact hx);unfold CheckSem at h1;simp only [Sem.run_bind,run_part_agg hT w hd ha,Result.andThen_ok] at h1;have ex:xs.extract 0 (0+(T kt).size)=xs:=by rw [← hlen,← this]; simp
   rw [ex] at h1;exact h1
  ·cases hs
 ·rename_i hno;split at hs
  ·rename_i l hl;cases hs;have key:∀ d,(Instr.checkKey b (d+1) kt x).run P w=.ok () w:=by
    intro d;unfold flatT at hl;split at hl
    ·rename_i k hk; simp [Instr.checkKey,run_underlying (hT.int hk)]
    ·rename_i hk; simp [Instr.checkKey,run_underlying (hT.string hk)]
    ·rename_i hk; simp [Instr.checkKey,run_underlying (hT.bool hk)]
    ·rename_i fs hk; exact absurd hk (hno fs)
    ·cases hl
   exact key 9999
  ·cases hs
end
end Go.Eng

namespace Go.Eng

def Finds (x:Value) (es:List MapEntry) (i:Nat) (r:Option (Nat × Value)):Prop :=
 (r=none∧∀ e ∈ es,e.key≠x)∨∃ (j:Nat) (e:MapEntry),r=some (i+j,e.val)∧es[j]?=some e∧e.key=x
theorem Finds.here {x:Value} {es:List MapEntry} {i:Nat} {e:MapEntry} (h:e.key=x):Finds x (e :: es) i (some (i,e.val)) :=
 .inr ⟨0,e,rfl,rfl,h⟩
theorem Finds.there {x:Value} {es:List MapEntry} {i:Nat} {e:MapEntry} {r:Option (Nat × Value)} (h:e.key≠x) (k:Finds x es (i+1) r):Finds x (e :: es) i r:=by
 rcases k with ⟨h1,h2⟩ | ⟨j,e',h1,h2,h3⟩
 ·exact .inl ⟨h1,fun d hd=>(List.mem_cons.1 hd).elim (fun e'=>e'▸h) (h2 d)⟩
 ·exact .inr ⟨j+1,e',by rw [h1,Nat.add_assoc,Nat.add_comm 1 j],h2,h3⟩

theorem findNow_ok {kind:TypeDesc} {x:Value} : ∀ (es:List MapEntry) (i:Nat),(∀ e ∈ es,∃ b,Instr.sameNow kind x e.key=some b∧(b=true↔x=e.key))→∃ r,Instr.findNow kind x es i=some r∧Finds x es i r
 | [],i,_=>⟨none,rfl,.inl ⟨rfl,fun _ h=>by cases h⟩⟩
 | e :: es,i,h=>by
  obtain ⟨b,b1,b2⟩:=h e (List.mem_cons_self ..);cases b with
  | true=>exact ⟨_,by simp [Instr.findNow,b1],.here (b2.1 rfl).symm⟩
  | false =>
   obtain ⟨r,r1,r2⟩:=findNow_ok es (i+1) (fun d hd=>h d (List.mem_cons_of_mem _ hd));exact ⟨r,by simp [Instr.findNow,b1,r1],.there (fun e'=>by have:=b2.2 e'.symm; cases this) r2⟩

section
variable {P:Program} {T:Tab} (hT:TabOk P T)
include hT

theorem findAsking_ok {kt:Nat} {sh:Shape} (hs:shapeOf T kt=some sh) (w:World) {x:Value} (hx:shB sh x=true) :
  ∀ (es:List MapEntry) (i:Nat),(∀ e ∈ es,shB sh e.key=true)→∃ r,(Instr.findAsking kt x es i).run P w=.ok r w∧Finds x es i r
 | [],i,_=>⟨none,rfl,.inl ⟨rfl,fun _ h=>by cases h⟩⟩
 | e :: es,i,h=>by
  obtain ⟨b,b1,b2⟩:=shape_eq hT hs w hx (h e (List.mem_cons_self ..));cases b with
  | true=>exact ⟨_,by simp [Instr.findAsking,b1],.here (b2.1 rfl).symm⟩
  | false =>
   obtain ⟨r,r1,r2⟩:=findAsking_ok hs w hx es (i+1) (fun d hd=>h d (List.mem_cons_of_mem _ hd));exact ⟨r,by simp [Instr.findAsking,b1,r1],.there (fun e'=>by have:=b2.2 e'.symm; cases this) r2⟩

theorem shape_find {kt:Nat} {sh:Shape} (hs:shapeOf T kt=some sh) (w:World) {x:Value} (hx:shB sh x=true) (es:List MapEntry) (he:∀ e ∈ es,shB sh e.key=true) :
  ∃ r,(Instr.findKey kt x es).run P w=.ok r w∧Finds x es 0 r:=by
 have asking:∀ d,P.underlying kt=some d→Instr.findNow d x es 0=none→∃ r,(Instr.findKey kt x es).run P w=.ok r w∧Finds x es 0 r:=by
  intro d hd hn;obtain ⟨r,r1,r2⟩:=findAsking_ok hT hs w hx es 0 he;exact ⟨r,by simp [Instr.findKey,run_underlying hd,hn,r1],r2⟩
 have now:∀ d,P.underlying kt=some d→(∀ e ∈ es,∃ b,Instr.sameNow d x e.key=some b∧(b=true↔x=e.key))→∃ r,(Instr.findKey kt x es).run P w=.ok r w∧Finds x es 0 r:=by
  intro d hd hn;obtain ⟨r,r1,r2⟩:=findNow_ok es 0 hn;exact ⟨r,by simp [Instr.findKey,run_underlying hd,r1],r2⟩
 have hs':=hs;unfold shapeOf at hs';split at hs'
 ·rename_i fs hk;obtain ⟨fa,u1,_⟩:=hT.struct hk;cases es with
  | nil=>exact ⟨none,by simp [Instr.findKey,run_underlying u1,Instr.findNow],.inl ⟨rfl,fun _ h=>by cases h⟩⟩
  | cons e es =>
   refine asking _ u1 ?_;split at hs'
   ·cases hs'
    cases x <;> simp only [shB] at hx <;> try (cases hx; done)
    simp [Instr.findNow,Instr.sameNow]
   ·cases hs'
 ·rename_i hno;split at hs'
  ·rename_i l hl;cases hs';have cv:∀ y,shB ⟨false,l⟩ y=true→ksL l [y]=true:=fun y hy=>by cases y <;> exact hy
   have hx':=cv x hx;have he' : ∀ e ∈ es,ksL l [e.key]=true:=fun e h=>cv _ (he e h)
   clear hx he cv
   have single:∀ k y,l=[k]→ksL l [y]=true→ksB k y=true:=by
    rintro k y rfl h
    unfold ksL at h;split at h
    ·assumption
    ·cases h
   unfold flatT at hl;split at hl
   ·rename_i k hk;split at hl
    ·cases hl
     refine now _ (hT.int hk) (fun e h=>?_);have h1:=single _ _ rfl hx';have h2:=single _ _ rfl (he' e h);generalize e.key=y at h2;cases x <;> simp [ksB] at h1
     cases y <;> simp [ksB] at h2
     obtain rfl:=ikB_eq h1;obtain rfl:=ikB_eq h2;exact ⟨_,by simp [Instr.sameNow]; rfl,by simp⟩
    ·cases hl
   ·rename_i hk;split at hl
    ·cases hl
     refine now _ (hT.string hk) (fun e h=>?_);have h1:=single _ _ rfl hx';have h2:=single _ _ rfl (he' e h);generalize e.key=y at h2;cases x <;> simp [ksB] at h1
     cases y <;> simp [ksB] at h2
     exact ⟨_,by simp [Instr.sameNow]; rfl,by rw [beq_toListBytes,toList_beq]; simp⟩
    ·cases hl
   ·rename_i hk;split at hl
    ·cases hl
     refine now _ (hT.bool hk) (fun e h=>?_);have h1:=single _ _ rfl hx';have h2:=single _ _ rfl (he' e h);generalize e.key=y at h2;cases x <;> simp [ksB] at h1
     cases y <;> simp [ksB] at h2
     exact ⟨_,by simp [Instr.sameNow]; rfl,by simp⟩
    ·cases hl
   ·rename_i fs hk; exact absurd hk (hno fs)
   ·cases hl
  ·cases hs'
end

theorem shape_stays {P:Program} (w:World) {sh:Shape} {x:Value} (hx:shB sh x=true):(Instr.keyThatStays x x).run P w=.ok x w:=by
 have scalar:∀ (k:KS) (y:Value) (n:Nat),ksB k y=true→Instr.sameBits n y y=true:=by
  intro k y n h;cases k <;> cases y <;> simp [ksB] at h <;> cases n <;> simp [Instr.sameBits,beq_toListBytes]
 have lst:∀ (l:List KS) (ys:List Value) (n:Nat),ksL l ys=true→((ys.zip ys).all fun (a,b)=>Instr.sameBits n a b)=true:=by
  intro l ys n
  induction ys generalizing l with
  | nil=>intro _; rfl
  | cons y ys ih =>
   intro h;cases l with
   | nil=>simp [ksL] at h
   | cons k l =>
    unfold ksL at h;split at h
    ·rename_i hk;simp only [List.zip_cons_cons,List.all_cons,scalar k y n hk,Bool.true_and];exact ih l h
    ·cases h
 have h1:∀ n,Instr.sameBits (n+1) x x=true:=by
  intro n;obtain ⟨ag,l⟩:=sh;cases ag with
  | true =>
   cases x <;> simp only [shB] at hx <;> try (cases hx; done)
   have:=lst l _ n hx
   simp only [Instr.sameBits,beq_self_eq_true,Bool.true_and];exact this
  | false =>
   have hx' : ksL l [x]=true:=by cases x <;> exact hx
   cases l with
   | nil=>simp [ksL] at hx'
   | cons k l =>
    unfold ksL at hx';split at hx'
    ·rename_i hk; exact scalar k x (n+1) hk
    ·cases hx'
 have:=h1 9999
 simp only [Instr.keyThatStays];rw [if_pos this]
 rfl

theorem valsOf_ok:∀ {cs:List AV} {l:List Value},valsOf cs=some l→cs=l.map .v
 | [],l,h=>by cases h; rfl
 | a :: r,l,h=>by
  cases a <;> simp only [valsOf] at h <;> try (cases h; done)
  split at h
  ·rename_i l' hl;cases h;rw [valsOf_ok hl]; rfl
  ·cases h
theorem keyV_ok {g:Gh} {w:World} {U:Nat→Prop} {a:AV} {x y:Value} (h:Rep g w U a x) (hk:keyV a=some y):x=y:=by
 unfold keyV at hk;split at hk
 ·cases hk; exact h.v_eq
 ·split at hk
  ·rename_i l hl;cases hk;obtain rfl:=valsOf_ok hl;exact h.agg_vals
  ·cases hk
 ·cases hk
theorem keyK_ok {T:Tab} {g:Gh} {w:World} {U:Nat→Prop} {ty:Nat} {sh:Shape} {a:AV} {x:Value} {K:Value→Prop} (h:Rep g w U a x) (hk:keyK T ty sh a K) :
  ∃ kt e,(T ty).d=.map kt e∧shapeOf T kt=some sh∧shB sh x=true∧K x:=by
 unfold keyK at hk;split at hk
 ·rename_i kt e ht;split at hk
  ·rename_i sh' hs;split at hk
   ·rename_i heq;obtain rfl:=shEq_eq heq;split at hk
    ·rename_i kx hkv;obtain rfl:=keyV_ok h hkv;split at hk
     ·rename_i hb; exact ⟨kt,e,ht,hs,hb,hk⟩
     ·exact hk.elim
    ·exact hk.elim
   ·exact hk.elim
  ·exact hk.elim
 ·exact hk.elim
end Go.Eng

namespace Go.Eng

theorem MapOk.shape {sh:Shape} {es:Array MapEntry} {ck:Nat} {kvs:List (Value × AV)} (h:MapOk sh es ck kvs):∀ e ∈ es.toList,shB sh e.key=true:=by
 intro e he;obtain ⟨h1,h2,h3,_⟩:=h;obtain ⟨i,hi⟩:=List.mem_iff_getElem?.1 he;have hlt:i<kvs.length:=by rw [← h1]; have:=(List.getElem?_eq_some_iff.1 hi).1; simpa using this
 rw [h2 i kvs[i] e (List.getElem?_eq_getElem hlt) (by simpa using hi)];exact h3 _ (List.getElem_mem hlt)
theorem MapOk.none {sh:Shape} {es:Array MapEntry} {ck:Nat} {kvs:List (Value × AV)} (h:MapOk sh es ck kvs) {x:Value} (hn:∀ e ∈ es.toList,e.key≠x) (a:AV):(x,a) ∉ kvs:=by
 intro hm;obtain ⟨h1,h2,_⟩:=h;obtain ⟨i,hi⟩:=List.mem_iff_getElem?.1 hm;have hlt:i<es.size:=by rw [h1]; exact (List.getElem?_eq_some_iff.1 hi).1
 exact hn es[i] (by simp) (h2 i _ es[i] hi (by simp [hlt]))
theorem MapOk.some {sh:Shape} {es:Array MapEntry} {ck:Nat} {kvs:List (Value × AV)} (h:MapOk sh es ck kvs) {x:Value} {j:Nat} {e:MapEntry} (he:es.toList[j]?=some e) (hk:e.key=x) :
  ∃ a,kvs[j]?=some (x,a)∧(x,a) ∈ kvs:=by
 obtain ⟨h1,h2,_⟩:=h;have hlt:j<kvs.length:=by rw [← h1]; have:=(List.getElem?_eq_some_iff.1 he).1; simpa using this
 have hg:kvs[j]?=Option.some kvs[j]:=List.getElem?_eq_getElem hlt
 have:=h2 j kvs[j] e hg (by simpa using he)
 have e2:kvs[j]=(x,kvs[j].2):=by rw [← hk,this]
 exact ⟨kvs[j].2,by rw [hg]; exact congrArg _ e2,by rw [← e2]; exact List.getElem_mem hlt⟩

section
variable {P:Program} {T:Tab} (hT:TabOk P T) {h:Nat→HO} {g:Gh} {w:World} {K:AV→Prop}

section
include hT
theorem zeroAV_ok {t:Nat} (hk:zeroAV T t K):Gives P h g w (zeroValue t) K:=by
 unfold zeroAV at hk;split at hk
 ·exact hk.elim
 ·rename_i hd;obtain ⟨z,z1,z2,z3⟩:=zero_run hT (w:=w) hd;rw [z3] at hk;split at hk
  ·rename_i cs;split at hk
   ·rename_i ha;have hr:=RepL.vals (g:=g) (w:=w) (U:=used h) ha;exact ⟨_,_,z1,hk,.agg _ _ _ (by simp) (fun i x hx=>hr.2.1 x (List.mem_of_getElem? (by simpa using hx))) (fun i av x h1 h2=>hr.2.2 i av x h1 (by simpa using h2))⟩
   ·exact hk.elim
  ·exact ⟨_,_,z1,hk,.v _ _⟩

theorem lookup_core {ty b:Nat} {kt e:Nat} {sh:Shape} {es:Array MapEntry} {ck:Nat} {kvs:List (Value × AV)} {x:Value} {ok:Bool} (ht:(T ty).d=.map kt e) (hs:shapeOf T kt=some sh) (hx:shB sh x=true)
  (hb:w.heap[b]?=some (.map es ck)) (hm:MapOk sh es ck kvs) (hv:∀ (i:Nat) (kv:Value × AV) (e:MapEntry),kvs[i]?=some kv→es[i]?=some e→Rep g w (used h) kv.2 e.val)
  (hk:foundK T ty ok kvs x K):Gives P h g w (Instr.lookup ty (.map (some b)) x ok) K:=by
 have hu:=hT.map ht;have hget:=run_getObj_map (P:=P) w b es ck hb;have hck:=fun bb=>shape_check hT hs w bb hx;obtain ⟨r,r1,r2⟩:=shape_find hT hs w hx es.toList hm.shape;unfold foundK at hk;rw [ht] at hk;dsimp only at hk;rcases r2 with ⟨rfl,hn⟩ | ⟨j,en,rfl,hj,hkey⟩
 ·have hn':=fun a=>hm.none hn a;cases ok with
  | true =>
   obtain ⟨y,av,y1,y2,y3⟩:=zeroAV_ok hT (K:=fun z=>K (.tup [z,.v (.bool false)])) (P:=P) (h:=h) (g:=g) (w:=w) (hk.2 hn');refine ⟨.tuple #[y,.bool false],_,?_,y2,.tup _ _ _ rfl (fun i a x h1 h2=>?_)⟩
   ·simp [Instr.lookup,run_underlying hu,hget,hck,r1,y1]
   ·match i,h1,h2 with
    | 0,h1,h2=>simp at h1 h2; subst h1; subst h2; exact y3
    | 1,h1,h2=>simp at h1 h2; subst h1; subst h2; exact .v _ _
  | false =>
   obtain ⟨y,av,y1,y2,y3⟩:=zeroAV_ok hT (K:=K) (P:=P) (h:=h) (g:=g) (w:=w) (hk.2 hn');exact ⟨y,av,by simp [Instr.lookup,run_underlying hu,hget,hck,r1,y1],y2,y3⟩
 ·obtain ⟨a,a1,a2⟩:=hm.some hj hkey;have hr:=hv j (x,a) en a1 (by simpa using hj);cases ok with
  | true =>
   refine ⟨.tuple #[en.val,.bool true],_,?_,hk.1 a a2,.tup _ _ _ rfl (fun i av y h1 h2=>?_)⟩
   ·simp [Instr.lookup,run_underlying hu,hget,hck,r1]
   ·match i,h1,h2 with
    | 0,h1,h2=>simp at h1 h2; subst h1; subst h2; exact hr
    | 1,h1,h2=>simp at h1 h2; subst h1; subst h2; exact .v _ _
  | false=>exact ⟨en.val,a,by simp [Instr.lookup,run_underlying hu,hget,hck,r1],hk.1 a a2,hr⟩

theorem lookupK_ok (ho:∀ r,ObjRep g w (used h) r (h r)) {ty:Nat} {m k:AV} {vm vk:Value} {ok:Bool} (hm:Rep g w (used h) m vm) (hx:Rep g w (used h) k vk) (hk:lookupK T h ty m k ok K) :
  Gives P h g w (Instr.lookup ty vm vk ok) K:=by
 unfold lookupK at hk;split at hk
 ·obtain ⟨kt,e,k1,k2,k3,k4⟩:=keyK_ok hx hk;cases hm with
  | cmap _ _ _ b es ck hS hb hmm hv=>exact lookup_core hT k1 k2 k3 hb hmm (fun i kv e p q=>(hv i kv e p q).up _) k4
 ·rename_i r;have hr:=ho r;cases hm with
  | mref _ _ b hu ht hp =>
   split at hk
   ·rename_i sh kvs e;rw [e] at hr;obtain ⟨_,b',es,ck,a1,a2,a3,a4,a5,a6⟩:=hr;rw [a2] at hp; cases hp;obtain ⟨kt,e,k1,k2,k3,k4⟩:=keyK_ok hx hk;exact lookup_core hT k1 k2 k3 a3 a4 (fun i kv e p q=>(a5 i kv e p q).up _) k4
   ·rename_i sh kvs e;rw [e] at hr;obtain ⟨_,b',es,ck,a1,a2,a3,a4,a5,a6⟩:=hr;rw [a2] at hp; cases hp;obtain ⟨kt,e,k1,k2,k3,k4⟩:=keyK_ok hx hk;exact lookup_core hT k1 k2 k3 a3 a4 a5 k4
   ·rename_i sh kvs e;rw [e] at hr;obtain ⟨_,b',a1,a2⟩:=hr;rw [a1] at hp; cases hp;obtain ⟨kt,e,k1,k2,k3,k4⟩:=keyK_ok hx hk;cases a2 with
    | cmap _ _ _ _ es ck hS hb hmm hv=>exact lookup_core hT k1 k2 k3 hb hmm (fun i kv e p q=>(hv i kv e p q).up _) k4
   ·exact hk.elim
 ·exact hk.elim

omit hT in
theorem foundD_K {ty:Nat} {ok:Bool} {kvs:List (Value × AV)} {kx:Value} (hk:foundD T ty ok kvs kx K):foundK T ty ok kvs kx K:=by
 unfold foundD at hk;unfold foundK;split at hk
 ·rename_i e;split at hk
  ·rcases hk with ⟨a,⟨h1,h2⟩,h3⟩ | ⟨h1,h2⟩
   ·exact ⟨fun b hb=>by rw [h2 b hb]; exact h3,fun hn=>absurd h1 (hn a)⟩
   ·exact ⟨fun b hb=>absurd hb (h1 b),fun _=>h2⟩
  ·rcases hk with ⟨a,⟨h1,h2⟩,h3⟩ | ⟨h1,h2⟩
   ·exact ⟨fun b hb=>by rw [h2 b hb]; exact h3,fun hn=>absurd h1 (hn a)⟩
   ·exact ⟨fun b hb=>absurd hb (h1 b),fun _=>h2⟩
 ·exact hk.elim
omit hT in
theorem keyK_mono {ty:Nat} {sh:Shape} {k:AV} {A B:Value→Prop} (hk:keyK T ty sh k A) (hab:∀ x,A x→B x):keyK T ty sh k B:=by
 unfold keyK at *
 repeat' split at hk
 all_goals first | exact hk.elim | skip
 simp_all
omit hT in
theorem lookupD_K {ty:Nat} {m k:AV} {ok:Bool} (hk:lookupD T h ty m k ok K):lookupK T h ty m k ok K:=by
 unfold lookupD at hk;unfold lookupK;split at hk
 ·exact keyK_mono hk fun _=>foundD_K
 ·split at hk
  ·exact keyK_mono hk fun _=>foundD_K
  ·exact keyK_mono hk fun _=>foundD_K
  ·exact keyK_mono hk fun _=>foundD_K
  ·exact hk.elim
 ·exact hk.elim

theorem lenHK_ok (ho:∀ r,ObjRep g w (used h) r (h r)) {t ty:Nat} {x:AV} {vx:Value} (hx:Rep g w (used h) x vx) (hk:lenHK T t h x K):Gives P h g w (Builtin.len_ #[t] ty #[vx]) K:=by
 unfold lenHK at hk;split at hk
 ·rename_i e ht;have hu:=hT.slice ht;have run:∀ a n c,(Builtin.len_ #[t] ty #[.slice a n c]).run P w=.ok (.int .i64 n) w:=fun a n c=>by simp [Builtin.len_,run_underlying hu,goInt]
  split at hk
  ·have hs:=hx.slice_none;cases hs with
   | snil _ a cap=>exact ⟨_,_,run a 0 cap,hk,.v _ _⟩
   | slice _ _ b off sz cap val hc=>exact ⟨_,_,run _ _ _,hk,.v _ _⟩
  ·cases hx with
   | msl=>exact ⟨_,_,run _ _ _,hk,.v _ _⟩
  ·obtain rfl:=hx.v_eq;exact ⟨_,_,run _ _ _,hk,.v _ _⟩
  ·exact hk.elim
 ·rename_i ht;split at hk
  ·obtain rfl:=hx.v_eq;exact ⟨_,_,by simp [Builtin.len_,run_underlying (hT.string ht),goInt],hk,.v _ _⟩
  ·exact hk.elim
 ·rename_i k e ht;have hu:=hT.map ht;have run:∀ b es ck,w.heap[b]?=some (.map es ck)→(Builtin.len_ #[t] ty #[.map (some b)]).run P w=.ok (.int .i64 es.size) w:=fun b es ck hb=>by
   simp [Builtin.len_,run_underlying hu,goInt,run_getObj_map (P:=P) w b es ck hb]
  split at hk
  ·cases hx with
   | cmap _ _ _ b es ck hS hb hmm hv=>exact ⟨_,_,run b es ck hb,by rw [hmm.1]; exact hk,.v _ _⟩
  ·rename_i r;have hr:=ho r;cases hx with
   | mref _ _ b hu' ht' hp =>
    split at hk
    ·rename_i sh kvs e;rw [e] at hr;obtain ⟨_,b',es,ck,a1,a2,a3,a4,a5,a6⟩:=hr;rw [a2] at hp; cases hp;exact ⟨_,_,run _ es ck a3,by rw [a4.1]; exact hk,.v _ _⟩
    ·rename_i sh kvs e;rw [e] at hr;obtain ⟨_,b',es,ck,a1,a2,a3,a4,a5,a6⟩:=hr;rw [a2] at hp; cases hp;exact ⟨_,_,run _ es ck a3,by rw [a4.1]; exact hk,.v _ _⟩
    ·rename_i sh kvs e;rw [e] at hr;obtain ⟨_,b',a1,a2⟩:=hr;rw [a1] at hp; cases hp;cases a2 with
     | cmap _ _ _ _ es ck hS hb hmm hv=>exact ⟨_,_,run _ es ck hb,by rw [hmm.1]; exact hk,.v _ _⟩
    ·exact hk.elim
  ·exact hk.elim
 ·exact hk.elim
end

theorem makeFuncK_ok (ho:∀ r,ObjRep g w (used h) r (h r)) {t:Nat→AV} {ρ:Operand→Value} (ht:∀ x:Operand,Rep g w (used h) (ev t x) (ρ x)) {fn:Fn} {first cap:Array Operand} (hk:makeFuncK t h fn first.toList cap.toList K) :
  Gives P h g w (Instr.makeFunc fn (first.map ρ) (cap.map ρ)) K:=by
 unfold makeFuncK at hk;split at hk
 ·rename_i f e;have hf:first=#[]:=by
   apply Array.ext';simpa using e
  subst hf;refine ⟨_,_,rfl,hk,?_⟩;have e0:Array.map ρ (#[]:Array Operand)=#[]:=by simp
  rw [e0];refine .clo _ f (cap.toList.map fun x=>rsv h (ev t x)) (cap.map ρ) (by simp) (fun i av x h1 h2=>?_);rw [List.getElem?_map,Option.map_eq_some_iff] at h1;obtain ⟨y,y1,rfl⟩:=h1;rw [Array.getElem?_map,Option.map_eq_some_iff] at h2;obtain ⟨z,z1,rfl⟩:=h2
  have:y=z:=by
   have:=y1
   rw [Array.getElem?_toList,z1] at this;exact (Option.some.inj this).symm
  subst this;exact (ht y).rsv ho
 ·exact hk.elim
theorem nilCheckK_ok {x:AV} {vx:Value} (hx:Rep g w (used h) x vx) (hk:nilCheckK x K) {pos:String} {after:Array Edge} {gd:Option (Nat × Bool)} {dst:Option Tmp} {ty:Nat} {ρ:Operand→Value} {X:Operand} (hX:ρ X=vx) :
  (execOp ρ ⟨dst,.nilCheck X,ty,pos,after,gd⟩).run P w=.ok (.value vx) w∧K x:=by
 subst hX;unfold nilCheckK at hk;split at hk
 all_goals first
  | exact hk.elim
  | (refine ⟨?_,hk⟩; generalize hq:ρ X=q at hx; cases hx; simp [execOp,hq]; done)
theorem entryK_ok (ho:∀ r,ObjRep g w (used h) r (h r)) {x:AV} {vx:Value} (hx:Rep g w (used h) x vx) (hk:entryK h x K):Gives P h g w (Instr.entry vx) K:=by
 unfold entryK at hk;split at hk
 ·rename_i r;have hr:=ho r;split at hk
  ·rename_i all rem kv e;rw [e] at hr;cases hx with
   | ref _ _ _ b hu ht hp =>
    obtain ⟨_,b',mb,since,seen,st,es,ck,a1,a2,a3,a4,a5,⟨sh,a6⟩,a7,a8,a9,a10,a11,a12,a13⟩:=hr;rw [a2] at hp; cases hp;obtain ⟨i,en,c1,c2,c3⟩:=a12;have hfind:es.find? (fun e=>e.born == en.born)=some en:=by
     rw [Array.find?_eq_some_iff_getElem];obtain ⟨hlt,he⟩:=Array.getElem?_eq_some_iff.1 c2;refine ⟨by simp,i,hlt,he,fun j hj=>?_⟩;have hlt' : j<es.size:=by omega
     simp only [Bool.not_eq_true',beq_eq_false_iff_ne,ne_eq];intro e'
     have:=a6.2.2.2.2.2 j i es[j] en (by simp [hlt']) c2 e'
     omega
    have hkey:=a6.2.1 i kv en c1 c2;refine ⟨.tuple #[en.key,en.val],_,?_,hk,.tup _ _ _ rfl (fun k av y h1 h2=>?_)⟩
    ·have hg1:(getObj b).run P w=.ok (.mapIter (some mb) since seen st) w:=by simp [getObj,Sem.run,a3]
     have hg2:=run_getObj_map (P:=P) w mb es ck a5;simp [Instr.entry,hg1,c3,hg2,a8,hfind]
    ·match k,h1,h2 with
     | 0,h1,h2=>simp at h1 h2; subst h1; subst h2; rw [hkey]; exact .v _ _
     | 1,h1,h2=>simp at h1 h2; subst h1; subst h2; exact (a9 i kv en c1 c2).up _
  ·exact hk.elim
 ·exact hk.elim
end
end Go.Eng
