/- Lemmas for the claims of this seat, without a condition: part 22 (S1, S2, S3, S4). -/
import Derived.Test.YtkmnnpmneamgoaaGreatDoorA21
namespace Go.Eng
open Go.Proofs
abbrev encCd (c:Cd):List AV:=vi c.place :: encRl c.rel
abbrev encNd (n:Nd):List AV:=[vs n.rq.path,sl encSpan n.rq.set,vs n.path,vi n.place,vi n.number]
abbrev encSks (l:List Sk):List AV:=[sl encSk l]
abbrev encIn (i:Nat):List AV:=[vi (i:Nat)]
def shN:Shape:=⟨true,[.int .i64,.str,.int .i64,.int .i64,.int .i64,.int .i64]⟩
def keyNf (i:Nf):Value:=.agg [.int .i64 i.kind,.string i.path,.int .i64 i.place,.int .i64 i.number,.int .i64 i.left,.int .i64 i.right].toArray
def knL:Nat→List Nf→List (Value × AV)
 | _,[]=>[]
 | k,i :: l=>(keyNf i,vi (k:Nat)) :: knL (k+1) l
abbrev srC (roots:List Rq) (C A:List (Value × AV)) (s:SS) (dec:List Cd) (n:Nat):List AV :=
 [sl encRq roots,.cmap shS C,.cmap shS A,.slice (.id 1001 6) (s.infs.map encNf),.slice (.id 1002 1) (s.drv.map encInc),.mref 1003,vb s.full,sl encCd dec,sl encSl (keysC dec),.msl 1004 n]
abbrev srM (roots:List Rq) (C A:List (Value × AV)) (s:SS) (dec:List Cd) (k n:Nat):List AV :=
 [sl encRq roots,.cmap shS C,.cmap shS A,.slice (.id 1001 6) (s.infs.map encNf),.slice (.id 1002 1) (s.drv.map encInc),.mref 1003,vb s.full,sl encCd dec,sl encSl (keysC dec),.msl k n]
abbrev srH (roots:List Rq) (C A:List (Value × AV)) (s:SS) (dec:List Cd) (st:List (List Sk)):List (Nat × HO) :=
 [(1000,.cells (srC roots C A s dec st.length)),(1001,.tok 6 s.infs.length),(1002,.tok 1 s.drv.length),(1003,.map shN (knL 0 s.infs)),(1004,.arr 1 (st.map encSks))]
theorem s217 {fF:Nat} {caps:List AV} (hs:Stable caps) (l:List (Cd)) (p:Cd→Bool) (hF:∀ x ∈ l,PC fF ([.agg (encCd x)]++caps) (vb (p x))) (hl:l.length<9223372036854775807) :
  PC 217 [sl encCd l,.clo fF caps] (vi (idx p l 0)):=by
 refine Ps pl0 Tryz.func217 rfl (Nz rfl) ?_;refine Xi {i:Nat // i≤l.length∧∀ j (hj:j<l.length),j<i→p l[j]=false} (Xi (fun i=>⟨[(0,sl encCd l),(1,.clo fF caps),(7,vi (l.map encCd).length),(8,vi i.1)],[],hfree⟩) (Xi (fun i=>l.length - i.1) (Yi (Xi ⟨0,by simp⟩ ?_) ?_)))
 ·exact ⟨⟨Zr,⟨rfl,hs.ids _⟩,Zr,Zr,Tv⟩,Tv,Fh,Tv⟩
 ·intro ⟨i,h1,h2⟩;refine Yi ?_ ?_
  ·intro h;have h:(i:Int)<(l.map encCd).length:=h;have h:i<l.length:=by simpa using h
   have hg:l[i]?=some l[i]:=Ge h;refine Xi (encCd l[i]) (Yi (Yi (Nn i) (by simp [hg])) (Yi rfl (Yi (Nz rfl) ?_)));have hcall:∀ h,PC fF ([.agg (encCd l[i])]++caps.map (str0 h)) (vb (p l[i])):=fun h=>by rw [hs.map]; exact hF l[i] (List.getElem_mem _)
   cases hp:p l[i] with
   | true =>
    rw [hp] at hcall;refine Xi .pure (Xi (vb true) (Yi (hcall _) ?_));rw [idx_at h (fun j hj hji=>h2 j hj hji) hp,Int.zero_add];exact .refl _
   | false =>
    rw [hp] at hcall;refine Xi .pure (Xi (vb false) (Yi (hcall _) ?_));refine Yi (Ii i (by omega)) ?_;refine Xi ⟨i+1,by omega,fun j hj hji=>?_⟩ ?_
    ·by_cases e:j=i
     ·subst e; exact hp
     ·exact h2 j hj (by omega)
    ·exact ⟨Dl l.length i (by omega),⟨Zr,⟨rfl,hs.ids _⟩,Zr,Zr,Tv⟩,Tv,Fh,Tv⟩
  ·intro h;have h:¬ (i:Int)<(l.map encCd).length:=h;have h:¬ i<l.length:=by simpa using h
   rw [idx_none fun j hj=>h2 j hj (by omega)];exact .refl _
theorem s86 {fF:Nat} {caps:List AV} (hs:Stable caps) (l:List (Nd)) (p:Nd→Bool) (hF:∀ x ∈ l,PC fF ([.agg (encNd x)]++caps) (vb (p x))) (hl:l.length<9223372036854775807) :
  PC 86 [sl encNd l,.clo fF caps] (vi (idx p l 0)):=by
 refine Ps pl0 Tryz.func86 rfl (Nz rfl) ?_;refine Xi {i:Nat // i≤l.length∧∀ j (hj:j<l.length),j<i→p l[j]=false} (Xi (fun i=>⟨[(0,sl encNd l),(1,.clo fF caps),(7,vi (l.map encNd).length),(8,vi i.1)],[],hfree⟩) (Xi (fun i=>l.length - i.1) (Yi (Xi ⟨0,by simp⟩ ?_) ?_)))
 ·exact ⟨⟨Zr,⟨rfl,hs.ids _⟩,Zr,Zr,Tv⟩,Tv,Fh,Tv⟩
 ·intro ⟨i,h1,h2⟩;refine Yi ?_ ?_
  ·intro h;have h:(i:Int)<(l.map encNd).length:=h;have h:i<l.length:=by simpa using h
   have hg:l[i]?=some l[i]:=Ge h;refine Xi (encNd l[i]) (Yi (Yi (Nn i) (by simp [hg])) (Yi rfl (Yi (Nz rfl) ?_)));have hcall:∀ h,PC fF ([.agg (encNd l[i])]++caps.map (str0 h)) (vb (p l[i])):=fun h=>by rw [hs.map]; exact hF l[i] (List.getElem_mem _)
   cases hp:p l[i] with
   | true =>
    rw [hp] at hcall;refine Xi .pure (Xi (vb true) (Yi (hcall _) ?_));rw [idx_at h (fun j hj hji=>h2 j hj hji) hp,Int.zero_add];exact .refl _
   | false =>
    rw [hp] at hcall;refine Xi .pure (Xi (vb false) (Yi (hcall _) ?_));refine Yi (Ii i (by omega)) ?_;refine Xi ⟨i+1,by omega,fun j hj hji=>?_⟩ ?_
    ·by_cases e:j=i
     ·subst e; exact hp
     ·exact h2 j hj (by omega)
    ·exact ⟨Dl l.length i (by omega),⟨Zr,⟨rfl,hs.ids _⟩,Zr,Zr,Tv⟩,Tv,Fh,Tv⟩
  ·intro h;have h:¬ (i:Int)<(l.map encNd).length:=h;have h:¬ i<l.length:=by simpa using h
   rw [idx_none fun j hj=>h2 j hj (by omega)];exact .refl _
theorem s171 {fF:Nat} {caps:List AV} (hs:Stable caps) (l:List (Cd)) (p:Cd→Bool) (hF:∀ x ∈ l,PC fF ([.agg (encCd x)]++caps) (vb (p x))) (hl:Few l) :
  PC 171 [sl encCd l,.clo fF caps] (vb (l.any p)):=by
 refine Ps pl0 Tryz.func171 rfl (Nz rfl) ?_;have hi:=s217 hs l p hF (by unfold Few at hl; omega);have hcall:∀ h,PC 217 [sl encCd l,.clo fF (caps.map (str0 h))] (vi (idx p l 0)):=fun h=>by rw [hs.map]; exact hi
 refine Xi .pure (Xi _ (Yi (hcall _) ?_));have ha:=idx_any (p:=p) l 0 (Int.le_refl 0);refine Yi ?_ ?_
 ·intro h;have h:(0:Int)≤idx p l 0:=h;rw [← ha,decide_eq_true h];exact .refl _
 ·intro h;have h:¬ (0:Int)≤idx p l 0:=h;rw [← ha,decide_eq_false h];exact .refl _
theorem s66 {fF:Nat} {caps:List AV} (hs:Stable caps) (l:List (Nd)) (p:Nd→Bool) (hF:∀ x ∈ l,PC fF ([.agg (encNd x)]++caps) (vb (p x))) (hl:Few l) :
  PC 66 [sl encNd l,.clo fF caps] (vb (l.any p)):=by
 refine Ps pl0 Tryz.func66 rfl (Nz rfl) ?_;have hi:=s86 hs l p hF (by unfold Few at hl; omega);have hcall:∀ h,PC 86 [sl encNd l,.clo fF (caps.map (str0 h))] (vi (idx p l 0)):=fun h=>by rw [hs.map]; exact hi
 refine Xi .pure (Xi _ (Yi (hcall _) ?_));have ha:=idx_any (p:=p) l 0 (Int.le_refl 0);refine Yi ?_ ?_
 ·intro h;have h:(0:Int)≤idx p l 0:=h;rw [← ha,decide_eq_true h];exact .refl _
 ·intro h;have h:¬ (0:Int)≤idx p l 0:=h;rw [← ha,decide_eq_false h];exact .refl _
theorem s70t (l:List Cd) (hl:Few l):ACall Tryz.prog 70 [sl encCd l] (heapOf [] hfree) fun r h'=>r=.slice (.id 2000 10) (l.map encCd)∧h'=heapOf [(2000,.tok 10 (l.map encCd).length)] hfree:=by
 refine acall_sub (cxe (plT 10)) [(2,2000)] rfl tab_ok hm rfl Tryz.func70 (by kernel_rfl) rfl (Nz rfl) (by kernel_rfl) rfl ?_;have bulk:AllLen 10 (l.map encCd)∧([]:List (List AV)).length=0∧(([]:List (List AV)).length+(l.map encCd).length)*128≤140737488355328∧([]:List (List AV)).length+(l.map encCd).length≤9223372036854775807:=by
  refine ⟨allLen_map (enc:=encCd) (n:=10) (fun _=>rfl) l,rfl,?_,?_⟩ <;> simp only [List.length_nil,Lm] <;> unfold Few at hl <;> omega
 have e2:HO.tok 10 (([]:List (List AV)).length+(l.map encCd).length)=.tok 10 (l.map encCd).length:=by rw [List.length_nil,Nat.zero_add]
 have e3:AV.slice (.id 2000 10) ([]++l.map encCd)=.slice (.id 2000 10) (l.map encCd):=rfl;have full:∀ st:St,(∃ s:LS,St.le (cxe (plT 10)) st s∧True)→True:=fun _ _=>trivial;refine Xi 0 ?_;refine Xi 0 ?_;refine Yi ?_ ?_
 ·intro _;refine Xi ⟨[(0,sl encCd l)],[],hfree⟩ (Yi ⟨Z1,Tv,Fh,ext_dec (by kernel_rfl)⟩ ?_)
  refine Xi 2 ?_;refine Yi bulk ?_;exact Xi _ (Yi (.refl _) (Yi e3 (congrArg (fun o=>heapOf [(2000,o)] hfree) e2)))
 ·intro h;have h:l.map encCd=[]:=h;refine Yi ?_ ?_
  ·refine Xi ⟨[],[],hfree⟩ (Yi ⟨trivial,trivial,fun _=>.inl rfl,ext_dec (by kernel_rfl)⟩ ?_)
   refine Xi 0 ?_;exact Xi _ (Yi (.refl _) (Yi (show AV.slice (.id 2000 10) []=_ by rw [h]) (show heapOf [(2000,HO.tok 10 0)] hfree=_ by rw [h]; rfl)))
  ·refine Xi ⟨[(0,sl encCd l)],[],hfree⟩ (Yi ⟨Z1,Tv,Fh,ext_dec (by kernel_rfl)⟩ ?_)
   refine Xi 2 ?_;refine Yi bulk ?_;exact Xi _ (Yi (.refl _) (Yi e3 (congrArg (fun o=>heapOf [(2000,o)] hfree) e2)))
end Go.Eng

namespace Go.Eng
open Go.Proofs
theorem knL_mem:∀ {l:List Nf} {k:Nat} {kx:Value} {a:AV},(kx,a) ∈ knL k l↔∃ j i,l[j]?=some i∧kx=keyNf i∧a=vi ((k+j:Nat):Int)
 | [],k,kx,a=>by simp [knL]
 | y :: l,k,kx,a=>by
  unfold knL;rw [List.mem_cons,knL_mem];constructor
  ·rintro (h | ⟨j,i,h1,h2,h3⟩)
   ·cases h; exact ⟨0,y,rfl,rfl,rfl⟩
   ·exact ⟨j+1,i,h1,h2,by rw [h3,show k+1+j=k+(j+1) by omega]⟩
  ·rintro ⟨j,i,h1,h2,h3⟩
   cases j with
   | zero=>cases h1; exact .inl (by rw [h2,h3]; rfl)
   | succ j=>exact .inr ⟨j,i,h1,h2,by rw [h3,show k+1+j=k+(j+1) by omega]⟩
theorem keyNf_inj {a b:Nf} (h:keyNf a=keyNf b):a=b:=by
 obtain ⟨a1,a2,a3,a4,a5,a6⟩:=a;obtain ⟨b1,b2,b3,b4,b5,b6⟩:=b;unfold keyNf at h;simp at h;obtain ⟨rfl,rfl,rfl,rfl,rfl,rfl⟩:=h
 rfl
theorem kn_in {l:List Nf} {i:Nf} {k:Nat} (h:posN i 0 l=some k):(keyNf i,vi (k:Nat)) ∈ knL 0 l:=by
 obtain ⟨j,e,hj⟩:=posN_some h;exact knL_mem.2 ⟨j,i,hj,rfl,by rw [e]⟩
theorem kn_uniq {l:List Nf} (hn:l.Nodup) {i:Nf} {k:Nat} (h:posN i 0 l=some k):∀ b,(keyNf i,b) ∈ knL 0 l→b=vi (k:Nat):=fun b hb=>by
 obtain ⟨j,e,hj⟩:=posN_some h;obtain ⟨j',i',h1,h2,h3⟩:=knL_mem.1 hb
 have:=keyNf_inj h2
 subst this;obtain ⟨a1,a2⟩:=List.getElem?_eq_some_iff.1 hj;obtain ⟨b1,b2⟩:=List.getElem?_eq_some_iff.1 h1
 have:j'=j:=(List.getElem_inj hn).1 (b2.trans a2.symm)
 subst this;rw [h3,e]
theorem kn_no {l:List Nf} {i:Nf} (h:posN i 0 l=none):∀ a,(keyNf i,a) ∉ knL 0 l:=fun a ha=>by
 obtain ⟨j,i',h1,h2,_⟩:=knL_mem.1 ha
 have:=keyNf_inj h2
 subst this;exact posN_none h (List.mem_of_getElem? h1)
theorem knL_app:∀ (l:List Nf) (k:Nat) (i:Nf),knL k (l++[i])=knL k l++[(keyNf i,vi ((k+l.length:Nat):Int))]
 | [],k,i=>by simp [knL]
 | y :: l,k,i=>by
  show (keyNf y,_) :: knL (k+1) (l++[i])=_;rw [knL_app l (k+1) i];simp [knL,show k+1+l.length=k+(l.length+1) by omega]
theorem kn_put {l:List Nf} {i:Nf} (h:posN i 0 l=none):mput (knL 0 l) (keyNf i) (vi ((l.map encNf).length:Int))=knL 0 (l++[i]):=by
 rw [mput_app (kn_no h),knL_app,Lm,Nat.zero_add]
theorem addI_old {s:SS} {i:Nf} {l:List Tm} {k:Nat} (h:posN i 0 s.infs=some k):addI s i l=(k,s):=by unfold addI; rw [h]
theorem addI_full {s:SS} {i:Nf} {l:List Tm} (h:posN i 0 s.infs=none) (hf:65536≤s.infs.length):addI s i l=(s.infs.length - 1,⟨s.infs,s.drv,true⟩):=by unfold addI; rw [h]; exact if_pos hf
theorem addI_new {s:SS} {i:Nf} {l:List Tm} (h:posN i 0 s.infs=none) (hf:¬ 65536≤s.infs.length):addI s i l=(s.infs.length,⟨s.infs++[i],s.drv++[l],s.full⟩):=by unfold addI; rw [h]; exact if_neg hf
section
variable {roots:List Rq} {C A:List (Value × AV)} {s s' : SS} {dec:List Cd} {st:List (List Sk)} {i:Nf} {l:List Tm}
theorem add_q {k:Nat} {z:Int} (e:addI s i l=(k,s')) (hz:z=k):vi z=vi ((addI s i l).1:Nat)∧heapOf (srH roots C A s' dec st) hfree=heapOf (srH roots C A (addI s i l).2 dec st) hfree:=by rw [e,hz]; exact Zr
theorem add_h (h:posN i 0 s.infs=none):heapOf [(1000,.cells [sl encRq roots,.cmap shS C,.cmap shS A,.slice (.id 1001 6) (s.infs.map encNf++[encNf i]),.slice (.id 1002 1) (s.drv.map encInc++[encInc l]),.mref 1003,vb s.full,sl encCd dec,sl encSl (keysC dec),.msl 1004 st.length]),
      (1001,.tok 6 ((s.infs.map encNf).length+[encNf i].length)),(1002,.tok 1 ((s.drv.map encInc).length+[encInc l].length)),(1003,.map shN (mput (knL 0 s.infs) (keyNf i) (vi ((s.infs.map encNf).length:Int)))),(1004,.arr 1 (st.map encSks))] hfree=heapOf (srH roots C A ⟨s.infs++[i],s.drv++[l],s.full⟩ dec st) hfree:=by
  have e1:s.infs.map encNf++[encNf i]=(s.infs++[i]).map encNf:=by simp
  have e2:s.drv.map encInc++[encInc l]=(s.drv++[l]).map encInc:=by simp
  have e3:(s.infs.map encNf).length+[encNf i].length=(s.infs++[i]).length:=by simp
  have e4:(s.drv.map encInc).length+[encInc l].length=(s.drv++[l]).length:=by simp
  rw [e1,e2,e3,e4,kn_put h]
end
theorem s172 (c:Cd) (p:ByteArray):PC 172 [.agg (encCd c),.cptr [vs p]] (vb (decide (c.rel.path=p))):=by
 refine Ps ⟨[2],[],[],[],[],[],[],[],[],[],[]⟩ Tryz.func172 rfl (Nz rfl) ?_;refine Yi (fun h1=>?_) (fun h1=>?_)
 ·have h1:(c.rel.path:ByteArray)=p:=h1;exact .of_eq (show vb true=vb (decide (c.rel.path=p)) by rw [decide_eq_true h1])
 have h1:¬ (c.rel.path:ByteArray)=p:=h1;exact .of_eq (show vb false=vb (decide (c.rel.path=p)) by rw [decide_eq_false h1])
theorem s136 (t:Tm) (p:ByteArray):PC 136 [.agg (encTm t),.cptr [vs p]] (vb (decide (t.path=p))):=by
 refine Ps ⟨[2],[],[],[],[],[],[],[],[],[],[]⟩ Tryz.func136 rfl (Nz rfl) ?_;refine Yi (fun h1=>?_) (fun h1=>?_)
 ·have h1:(t.path:ByteArray)=p:=h1;exact .of_eq (show vb true=vb (decide (t.path=p)) by rw [decide_eq_true h1])
 have h1:¬ (t.path:ByteArray)=p:=h1;exact .of_eq (show vb false=vb (decide (t.path=p)) by rw [decide_eq_false h1])
theorem s90 (l:List Tm) (p:ByteArray) (hl:Few l):PC 90 [sl encTm l,vs p] (vb (concB l p)):=by
 refine Ps ⟨[3],[],[],[],[],[],[],[],[],[],[]⟩ Tryz.func90 rfl (Nz rfl) ?_;refine Or.elim (Bt (concB l p)) (fun h1=>?_) (fun h1=>?_)
 ·have h1:(concB l p)=true:=h1;have hc2:=(show PC 135 [sl encTm l,.clo 136 [.cptr [vs p]]] (vb (concB l p)) from c129 (fF:=136) (caps:=[.cptr [vs p]]) (fun c hc=>by obtain rfl:=List.mem_singleton.1 hc; intro h; rfl) l (fun t=>decide (t.path=p)) (fun t _=>s136 t p) hl);rw [show (concB l p)=true from h1] at hc2;refine Xi .pure (Xi _ (Yi hc2 ?_));exact .of_eq (show vb true=vb (concB l p) by rw [h1])
 have h1:(concB l p)=false:=h1;have hc4:=(show PC 135 [sl encTm l,.clo 136 [.cptr [vs p]]] (vb (concB l p)) from c129 (fF:=136) (caps:=[.cptr [vs p]]) (fun c hc=>by obtain rfl:=List.mem_singleton.1 hc; intro h; rfl) l (fun t=>decide (t.path=p)) (fun t _=>s136 t p) hl);rw [show (concB l p)=false from h1] at hc4;refine Xi .pure (Xi _ (Yi hc4 ?_));exact .of_eq (show vb false=vb (concB l p) by rw [h1])
theorem s118 (roots:List Rq) (C A:List (Value × AV)) (s:SS) (dec:List Cd) (st:List (List Sk)) (p:ByteArray) (hl:Few dec):ACall Tryz.prog 118 [.ref 1000 0,vs p] (heapOf (srH roots C A s dec st) hfree) fun r h'=>r=vb (doneC dec p)∧h'=heapOf (srH roots C A s dec st) hfree:=by
 refine acall_sub (cxe ⟨[3],[],[],[],[],[],[],[],[],[],[]⟩) [(1000,1000),(1001,1001),(1002,1002),(1003,1003),(1004,1004)] rfl tab_ok hm rfl Tryz.func118 (by kernel_rfl) rfl (Nz rfl) (by kernel_rfl) rfl ?_;refine Or.elim (Bt (doneC dec p)) (fun h1=>?_) (fun h1=>?_)
 ·have h1:(doneC dec p)=true:=h1;have hc2:=(show PC 171 [sl encCd dec,.clo 172 [.cptr [vs p]]] (vb (doneC dec p)) from s171 (fF:=172) (caps:=[.cptr [vs p]]) (fun c hc=>by obtain rfl:=List.mem_singleton.1 hc; intro h; rfl) dec (fun c=>decide (c.rel.path=p)) (fun c _=>s172 c p) hl);rw [show (doneC dec p)=true from h1] at hc2;refine Xi .pure (Xi _ (Yi hc2 ?_));exact Xi _ (Yi (.refl _) (Yi (show vb true=vb (doneC dec p) by rw [h1]) rfl))
 have h1:(doneC dec p)=false:=h1;have hc4:=(show PC 171 [sl encCd dec,.clo 172 [.cptr [vs p]]] (vb (doneC dec p)) from s171 (fF:=172) (caps:=[.cptr [vs p]]) (fun c hc=>by obtain rfl:=List.mem_singleton.1 hc; intro h; rfl) dec (fun c=>decide (c.rel.path=p)) (fun c _=>s172 c p) hl);rw [show (doneC dec p)=false from h1] at hc4;refine Xi .pure (Xi _ (Yi hc4 ?_));exact Xi _ (Yi (.refl _) (Yi (show vb false=vb (doneC dec p) by rw [h1]) rfl))
set_option maxHeartbeats 4000000 in
theorem s132old (roots:List Rq) (C A:List (Value × AV)) (s:SS) (dec:List Cd) (st:List (List Sk)) (i:Nf) (l:List Tm) (k:Nat) (hk:posN i 0 s.infs=some k) (hnd:s.infs.Nodup):ACall Tryz.prog 132 [.ref 1000 0,.agg (encNf i),sl encTm l] (heapOf (srH roots C A s dec st) hfree) fun r h'=>r=vi ((addI s i l).1:Nat)∧h'=heapOf (srH roots C A (addI s i l).2 dec st) hfree:=by
 refine acall_sub (cxe ⟨[4],[],[],[],[],[],[],[],[],[],[2,5,7,8,9,10,11]⟩) [(1000,1000),(1001,1001),(1002,1002),(1003,1003),(1004,1004)] rfl tab_ok hm rfl Tryz.func132 (by kernel_rfl) rfl (Nz rfl) (by kernel_rfl) rfl ?_;refine Yi (Nz rfl) ?_;refine Or.inl (Xi (vi (k:Nat)) (Yi (Yi (kn_in hk) (kn_uniq hnd hk)) ?_));refine Yi (by kernel_rfl) ?_;refine Xi ⟨[(0,.ref 1000 0),(2,sl encTm l),(4,.ref 4 0),(7,vi (k:Nat)),(8,vb true)],[(4,.ro (encNf i)),(1000,.cells (srM roots C A s dec 1004 st.length)),(1001,.tok 6 s.infs.length),(1002,.tok 1 s.drv.length),(1003,.map shN (knL 0 s.infs)),(1004,.arr 1 (st.map encSks))],hfree⟩ (Yi ⟨Z5,Z6,Fh,ext_dec (by kernel_rfl)⟩ ?_)
 exact Xi _ (Yi (.refl _) (add_q (addI_old hk) rfl))
set_option maxHeartbeats 4000000 in
theorem s132new (roots:List Rq) (C A:List (Value × AV)) (s:SS) (dec:List Cd) (st:List (List Sk)) (i:Nf) (l:List Tm) (hk:posN i 0 s.infs=none) (hn:s.infs.length≤65536) (hdl:s.drv.length=s.infs.length):ACall Tryz.prog 132 [.ref 1000 0,.agg (encNf i),sl encTm l] (heapOf (srH roots C A s dec st) hfree) fun r h'=>r=vi ((addI s i l).1:Nat)∧h'=heapOf (srH roots C A (addI s i l).2 dec st) hfree:=by
 have hdn:s.drv.length≤65536:=by omega
 have hml:(s.infs.map encNf).length=s.infs.length:=Lm _;refine acall_sub (cxe ⟨[4],[],[],[],[],[],[],[],[],[],[2,5,7,8,9,10,11]⟩) [(1000,1000),(1001,1001),(1002,1002),(1003,1003),(1004,1004)] rfl tab_ok hm rfl Tryz.func132 (by kernel_rfl) rfl (Nz rfl) (by kernel_rfl) rfl ?_;refine Yi (Nz rfl) ?_;refine Or.inr (Yi (kn_no hk) ?_);refine Yi (by kernel_rfl) ?_;refine Xi ⟨[(0,.ref 1000 0),(2,sl encTm l),(4,.ref 4 0),(7,vi 0),(8,vb false)],[(4,.ro (encNf i)),(1000,.cells (srM roots C A s dec 1004 st.length)),(1001,.tok 6 s.infs.length),(1002,.tok 1 s.drv.length),(1003,.map shN (knL 0 s.infs)),(1004,.arr 1 (st.map encSks))],hfree⟩ (Yi ⟨Z5,Z6,Fh,ext_dec (by kernel_rfl)⟩ ?_)
 refine Yi (fun h1=>?_) (fun h1=>?_)
 ·have h1:(65536:Int)≤((s.infs.map encNf).length:Int):=h1;refine Xi ⟨[(0,.ref 1000 0)],[(1000,.cells (srM roots C A s dec 1004 st.length)),(1001,.tok 6 s.infs.length),(1002,.tok 1 s.drv.length),(1003,.map shN (knL 0 s.infs)),(1004,.arr 1 (st.map encSks))],hfree⟩ (Yi ⟨Z1,Z5,Fh,ext_dec (by kernel_rfl)⟩ ?_)
  refine Yi (Nz rfl) ?_;refine Yi (by show InI64 (((s.infs.map encNf).length:Int) - (1:Int)); unfold InI64; omega) ?_;exact Xi _ (Yi (.refl _) (add_q (addI_full hk (by have q:=h1; rw [Lm] at q; omega)) (by have q:=h1; rw [Lm] at q ⊢; omega)))
 have h1:¬ ((65536:Int)≤((s.infs.map encNf).length:Int)):=h1;refine Xi ⟨[(0,.ref 1000 0),(2,sl encTm l),(4,.ref 4 0)],[(4,.ro (encNf i)),(1000,.cells (srM roots C A s dec 1004 st.length)),(1001,.tok 6 s.infs.length),(1002,.tok 1 s.drv.length),(1003,.map shN (knL 0 s.infs)),(1004,.arr 1 (st.map encSks))],hfree⟩ (Yi ⟨Z3,Z6,Fh,ext_dec (by kernel_rfl)⟩ ?_)
 refine Xi ⟨[(0,.ref 1000 0),(2,sl encTm l),(4,.ref 4 0),(9,vi (s.infs.map encNf).length)],[(4,.ro (encNf i)),(1000,.cells (srM roots C A s dec 1004 st.length)),(1001,.tok 6 s.infs.length),(1002,.tok 1 s.drv.length),(1003,.map shN (knL 0 s.infs)),(1004,.arr 1 (st.map encSks))],hfree⟩ (Yi ⟨Z4,Z6,Fh,ext_dec (by kernel_rfl)⟩ ?_)
 refine Yi (Nz rfl) ?_;refine Yi (by kernel_rfl) ?_;refine Xi ⟨[(0,.ref 1000 0),(2,sl encTm l),(4,.ref 4 0),(9,vi (s.infs.map encNf).length)],[(4,.ro (encNf i)),(1000,.cells (srM roots C A s dec 1004 st.length)),(1001,.tok 6 s.infs.length),(1002,.tok 1 s.drv.length),(1003,.map shN (mput (knL 0 s.infs) (keyNf i) (vi (s.infs.map encNf).length))),(1004,.arr 1 (st.map encSks))],hfree⟩ (Yi ⟨Z4,Z6,Fh,ext_dec (by kernel_rfl)⟩ ?_)
 refine Yi (Nz rfl) ?_;have b3:AllLen 6 [(encNf i)]∧(s.infs.map encNf).length=s.infs.length∧((s.infs.map encNf).length+([(encNf i)]:List (List AV)).length)*56≤140737488355328∧(s.infs.map encNf).length+([(encNf i)]:List (List AV)).length≤9223372036854775807:=⟨⟨rfl,trivial⟩,(by rw [Lm]),(by simp only [Lm,List.length_cons,List.length_nil]; omega),(by simp only [Lm,List.length_cons,List.length_nil]; omega)⟩;refine Yi b3 ?_;refine Yi (Nz rfl) ?_;refine Yi (by kernel_rfl) ?_;refine Xi ⟨[(0,.ref 1000 0),(2,sl encTm l),(9,vi (s.infs.map encNf).length)],[(1000,.cells [sl encRq roots,.cmap shS C,.cmap shS A,.slice (.id 1001 6) ((s.infs.map encNf)++[(encNf i)]),.slice (.id 1002 1) (s.drv.map encInc),.mref 1003,vb s.full,sl encCd dec,sl encSl (keysC dec),.msl 1004 st.length]),(1001,.tok 6 ((s.infs.map encNf).length+([(encNf i)]:List (List AV)).length)),(1002,.tok 1 s.drv.length),(1003,.map shN (mput (knL 0 s.infs) (keyNf i) (vi (s.infs.map encNf).length))),(1004,.arr 1 (st.map encSks))],hfree⟩ (Yi ⟨Z3,Z5,Fh,ext_dec (by kernel_rfl)⟩ ?_)
 have b4:AllLen 1 [[sl encTm l]]∧(s.drv.map encInc).length=s.drv.length∧((s.drv.map encInc).length+([[sl encTm l]]:List (List AV)).length)*24≤140737488355328∧(s.drv.map encInc).length+([[sl encTm l]]:List (List AV)).length≤9223372036854775807:=⟨⟨rfl,trivial⟩,(by rw [Lm]),(by simp only [Lm,List.length_cons,List.length_nil]; omega),(by simp only [Lm,List.length_cons,List.length_nil]; omega)⟩;refine Yi b4 ?_;refine Yi (Nz rfl) ?_;refine Xi ⟨[(9,vi (s.infs.map encNf).length)],[(1000,.cells [sl encRq roots,.cmap shS C,.cmap shS A,.slice (.id 1001 6) ((s.infs.map encNf)++[(encNf i)]),.slice (.id 1002 1) ((s.drv.map encInc)++[[sl encTm l]]),.mref 1003,vb s.full,sl encCd dec,sl encSl (keysC dec),.msl 1004 st.length]),(1001,.tok 6 ((s.infs.map encNf).length+([(encNf i)]:List (List AV)).length)),(1002,.tok 1 ((s.drv.map encInc).length+([[sl encTm l]]:List (List AV)).length)),(1003,.map shN (mput (knL 0 s.infs) (keyNf i) (vi (s.infs.map encNf).length))),(1004,.arr 1 (st.map encSks))],hfree⟩ (Yi ⟨Z1,Z5,Fh,ext_dec (by kernel_rfl)⟩ ?_)
 have hq:=add_q (roots:=roots) (C:=C) (A:=A) (dec:=dec) (st:=st) (z:=((s.infs.map encNf).length:Int)) (addI_new (l:=l) hk (by have q:=h1; rw [Lm] at q; omega)) (by rw [Lm]);exact Xi _ (Yi (.refl _) (Yi hq.1 ((add_h hk).trans hq.2)))
structure SsOk (x:List Rl) (roots:List Rq) (s:SS):Prop where
 der:DerOk x roots s
 nodup:s.infs.Nodup
abbrev AddQ (roots:List Rq) (C A:List (Value × AV)) (dec:List Cd) (st:List (List Sk)) (o:Nat × SS) (r:AV) (h' : Nat→HO):Prop:=r=vi (o.1:Nat)∧h'=heapOf (srH roots C A o.2 dec st) hfree
theorem s132 (roots:List Rq) (C A:List (Value × AV)) (s:SS) (dec:List Cd) (st:List (List Sk)) (i:Nf) (l:List Tm) (hn:s.infs.length≤65536) (hdl:s.drv.length=s.infs.length) (hnd:s.infs.Nodup) :
  ACall Tryz.prog 132 [.ref 1000 0,.agg (encNf i),sl encTm l] (heapOf (srH roots C A s dec st) hfree) (AddQ roots C A dec st (addI s i l)):=by
 cases hk:posN i 0 s.infs with
 | some k=>exact s132old roots C A s dec st i l k hk hnd
 | none=>exact s132new roots C A s dec st i l hk hn hdl
end Go.Eng

namespace Go.Eng
open Go.Proofs
abbrev ID5:Ren:=[(1000,1000),(1001,1001),(1002,1002),(1003,1003),(1004,1004)]
theorem gen5 {h2:Nat→HO} {cs:List AV} {o1 o2 o3 o4:HO} (e0:h2 1000=.cells cs) (e1:h2 1001=o1) (e2:h2 1002=o2) (e3:h2 1003=o3) (e4:h2 1004=o4) :
  renH ID5 h2=heapOf [(1000,.cells (cs.map (ren1 (rfwd ID5) h2))),(1001,o1.ren (rfwd ID5) h2),(1002,o2.ren (rfwd ID5) h2),(1003,o3.ren (rfwd ID5) h2),(1004,o4.ren (rfwd ID5) h2)] hfree:=by
 unfold renH;simp only [renL];rw [e0,e1,e2,e3,e4]; rfl
theorem infS_root {s:SS} {n:Nd} (h:n.path=mt):addI s ⟨0,mt,0,n.number,0,0⟩ (rootT n.rq)=infS s n:=by unfold infS infN incN; rw [if_pos h,if_pos h]
theorem infS_rel {s:SS} {n:Nd} (h:¬ n.path=mt):addI s ⟨1,n.path,n.place,n.number,0,0⟩ (requiresT n.path n.place n.rq)=infS s n:=by unfold infS infN incN; rw [if_neg h,if_neg h]
abbrev entV (d:List (List Tm)) (S:List Sl):AV:=.tup [vi (((entN d S).getD 0:Nat):Int),vb (entN d S).isSome]
theorem entGo_at {S:List Sl} : ∀ {l:List (List Tm)} {b i:Nat} {t:List Tm},l[i]?=some t→entailed t S=true→(∀ j u,j<i→l[j]?=some u→entailed u S=false)→entGo S b l=some (b+i)
 | [],_,_,_,h,_,_=>by simp at h
 | u :: l,b,0,t,h,he,_=>by cases h; unfold entGo; rw [if_pos he]; rfl
 | u :: l,b,i+1,t,h,he,hn=>by
  unfold entGo;rw [if_neg (by rw [hn 0 u (by omega) rfl]; decide),entGo_at (i:=i) (by simpa using h) he (fun j v hj hv=>hn (j+1) v (by omega) (by simpa using hv))]
  congr 1; omega
theorem entGo_no {S:List Sl} : ∀ {l:List (List Tm)} {b:Nat},(∀ t ∈ l,entailed t S=false)→entGo S b l=none
 | [],_,_=>rfl
 | u :: l,b,h=>by
  unfold entGo;rw [if_neg (by rw [h u (List.mem_cons_self ..)]; decide)];exact entGo_no fun t ht=>h t (List.mem_cons_of_mem _ ht)
set_option maxHeartbeats 4000000 in
theorem s88 (roots:List Rq) (C A:List (Value × AV)) (s:SS) (dec:List Cd) (st:List (List Sk)) (n:Nd) (hn:s.infs.length≤65536) (hdl:s.drv.length=s.infs.length) (hnd:s.infs.Nodup) (hq:Few n.rq.set) (hp:InI64 (n.place+1)):ACall Tryz.prog 88 [.ref 1000 0,.agg (encNd n)] (heapOf (srH roots C A s dec st) hfree) fun r h'=>AddQ roots C A dec st (infS s n) r h':=by
 refine acall_sub (cxe ⟨[3],[],[],[],[],[],[],[],[(15,5),(31,5)],[],[2,3]⟩) [(1000,1000),(1001,1001),(1002,1002),(1003,1003),(1004,1004)] rfl tab_ok hm rfl Tryz.func88 (by kernel_rfl) rfl (Nz rfl) (by kernel_rfl) rfl ?_;refine Yi (fun h1=>?_) (fun h1=>?_)
 ·have h1:(n.path:ByteArray)=⟨#[]⟩:=h1;refine Xi ⟨[(0,.ref 1000 0),(3,.ref 3 0)],[(3,.ro (encNd n)),(1000,.cells (srM roots C A s dec 1004 st.length)),(1001,.tok 6 s.infs.length),(1002,.tok 1 s.drv.length),(1003,.map shN (knL 0 s.infs)),(1004,.arr 1 (st.map encSks))],hfree⟩ (Yi ⟨Z2,Z6,Fh,ext_dec (by kernel_rfl)⟩ ?_)
  refine Yi (Nz rfl) ?_;refine Xi _ (Yi (c191 n.rq hq) ?_);refine Xi ID5 (Xi [(1000,.cells (srM roots C A s dec 1004 st.length)),(1001,.tok 6 s.infs.length),(1002,.tok 1 s.drv.length),(1003,.map shN (knL 0 s.infs)),(1004,.arr 1 (st.map encSks))] (Xi (srH roots C A (addI s ⟨0,mt,0,n.number,0,0⟩ (rootT n.rq)).2 dec st) (Xi [.ref 1000 0,.agg [vi 0,vs ⟨#[]⟩,vi 0,vi n.number,vi 0,vi 0],sl encTm (rootT n.rq)] (Xi (vi (((addI s ⟨0,mt,0,n.number,0,0⟩ (rootT n.rq)).1:Nat):Int):AV) (Yi (fun h2 hh=>Yi ((gen5 (show h2 1000=.cells (srM roots C A s dec 1004 st.length) from hh 1000 (by decide)) (show h2 1001=.tok 6 s.infs.length from hh 1001 (by decide)) (show h2 1002=.tok 1 s.drv.length from hh 1002 (by decide)) (show h2 1003=.map shN (knL 0 s.infs) from hh 1003 (by decide)) (show h2 1004=.arr 1 (st.map encSks) from hh 1004 (by decide))).trans rfl) rfl) (Yi (by kernel_rfl) (Yi (s132 roots C A s dec st ⟨0,mt,0,n.number,0,0⟩ (rootT n.rq) hn hdl hnd) ?_)))))));refine Yi (by kernel_rfl) ?_;have ei:=infS_root (s:=s) h1;exact Xi _ (Yi (.refl _) (Yi (show vi (((addI s ⟨0,mt,0,n.number,0,0⟩ (rootT n.rq)).1:Nat):Int)=vi (((infS s n).1:Nat):Int) by rw [ei]) (show heapOf (srH roots C A (addI s ⟨0,mt,0,n.number,0,0⟩ (rootT n.rq)).2 dec st) hfree=heapOf (srH roots C A (infS s n).2 dec st) hfree by rw [ei])))
 have h1:¬ (n.path:ByteArray)=⟨#[]⟩:=h1;refine Xi ⟨[(0,.ref 1000 0),(3,.ref 3 0)],[(3,.ro (encNd n)),(1000,.cells (srM roots C A s dec 1004 st.length)),(1001,.tok 6 s.infs.length),(1002,.tok 1 s.drv.length),(1003,.map shN (knL 0 s.infs)),(1004,.arr 1 (st.map encSks))],hfree⟩ (Yi ⟨Z2,Z6,Fh,ext_dec (by kernel_rfl)⟩ ?_)
 refine Yi (Nz rfl) ?_;refine Xi _ (Yi (c193 n.path n.place n.rq hp hq) ?_);refine Xi ID5 (Xi [(1000,.cells (srM roots C A s dec 1004 st.length)),(1001,.tok 6 s.infs.length),(1002,.tok 1 s.drv.length),(1003,.map shN (knL 0 s.infs)),(1004,.arr 1 (st.map encSks))] (Xi (srH roots C A (addI s ⟨1,n.path,n.place,n.number,0,0⟩ (requiresT n.path n.place n.rq)).2 dec st) (Xi [.ref 1000 0,.agg [vi 1,vs n.path,vi n.place,vi n.number,vi 0,vi 0],sl encTm (requiresT n.path n.place n.rq)] (Xi (vi (((addI s ⟨1,n.path,n.place,n.number,0,0⟩ (requiresT n.path n.place n.rq)).1:Nat):Int):AV) (Yi (fun h2 hh=>Yi ((gen5 (show h2 1000=.cells (srM roots C A s dec 1004 st.length) from hh 1000 (by decide)) (show h2 1001=.tok 6 s.infs.length from hh 1001 (by decide)) (show h2 1002=.tok 1 s.drv.length from hh 1002 (by decide)) (show h2 1003=.map shN (knL 0 s.infs) from hh 1003 (by decide)) (show h2 1004=.arr 1 (st.map encSks) from hh 1004 (by decide))).trans rfl) rfl) (Yi (by kernel_rfl) (Yi (s132 roots C A s dec st ⟨1,n.path,n.place,n.number,0,0⟩ (requiresT n.path n.place n.rq) hn hdl hnd) ?_)))))));refine Yi (by kernel_rfl) ?_;have ei:=infS_rel (s:=s) h1;exact Xi _ (Yi (.refl _) (Yi (show vi (((addI s ⟨1,n.path,n.place,n.number,0,0⟩ (requiresT n.path n.place n.rq)).1:Nat):Int)=vi (((infS s n).1:Nat):Int) by rw [ei]) (show heapOf (srH roots C A (addI s ⟨1,n.path,n.place,n.number,0,0⟩ (requiresT n.path n.place n.rq)).2 dec st) hfree=heapOf (srH roots C A (infS s n).2 dec st) hfree by rw [ei])))
set_option maxHeartbeats 4000000 in
theorem s89 (roots:List Rq) (C A:List (Value × AV)) (s:SS) (dec:List Cd) (st:List (List Sk)) (S:List Sl) (hd:s.drv.length≤65536) (ht:∀ t ∈ s.drv,FewT t) (hS:Few S):ACall Tryz.prog 89 [.ref 1000 0,sl encSl S] (heapOf (srH roots C A s dec st) hfree) fun r h'=>r=entV s.drv S∧h'=heapOf (srH roots C A s dec st) hfree:=by
 refine acall_sub (cxe ⟨[],[],[],[],[],[],[],[],[],[],[4,6]⟩) [(1000,1000),(1001,1001),(1002,1002),(1003,1003),(1004,1004)] rfl tab_ok hm rfl Tryz.func89 (by kernel_rfl) rfl (Nz rfl) (by kernel_rfl) rfl ?_;refine Xi {i:Nat // i≤s.drv.length∧∀ j u,j<i→s.drv[j]?=some u→entailed u S=false} (Xi (fun q=>⟨[(1,sl encSl S),(11,.slice (.id 1002 1) (s.drv.map encInc)),(12,vi (s.drv.map encInc).length),(13,vi q.1)],[(1000,.cells (srM roots C A s dec 1004 st.length)),(1001,.tok 6 s.infs.length),(1002,.tok 1 s.drv.length),(1003,.map shN (knL 0 s.infs)),(1004,.arr 1 (st.map encSks))],hfree⟩) (Xi (fun q=>s.drv.length - q.1) (Yi (Xi ⟨0,Nat.zero_le _,fun j u h=>absurd h (Nat.not_lt_zero j)⟩ ?_) ?_)))
 ·exact ⟨Z4,Z5,Fh,ext_dec (by kernel_rfl)⟩
 intro ⟨i,i1,i2⟩;have i1:i≤s.drv.length:=i1;have i2:∀ j u,j<i→s.drv[j]?=some u→entailed u S=false:=i2;refine Yi (fun h1=>?_) (fun h1=>?_)
 ·have h1:(i:Int)<((s.drv.map encInc).length:Int):=h1;have n1:i<s.drv.length:=by have q:=h1; rw [Lm] at q; omega
  have g1:s.drv[i]?=some s.drv[i]:=Ge n1;refine Xi (encInc s.drv[i]) (Yi (Yi (Nn i) (map_at g1)) (Yi rfl ?_));refine Xi ⟨[(1,sl encSl S),(6,vi i),(7,sl encTm s.drv[i]),(11,.slice (.id 1002 1) (s.drv.map encInc)),(12,vi (s.drv.map encInc).length),(13,vi i)],[(1000,.cells (srM roots C A s dec 1004 st.length)),(1001,.tok 6 s.infs.length),(1002,.tok 1 s.drv.length),(1003,.map shN (knL 0 s.infs)),(1004,.arr 1 (st.map encSks))],hfree⟩ (Yi ⟨Z6,Z5,Fh,ext_dec (by kernel_rfl)⟩ ?_)
  refine Or.elim (Bt (entailed s.drv[i] S)) (fun h2=>?_) (fun h2=>?_)
  ·have h2:(entailed s.drv[i] S)=true:=h2;have hc3:=(c91 s.drv[i] S (ht _ (List.getElem_mem _)) hS);rw [show (entailed s.drv[i] S)=true from h2] at hc3;refine Xi .pure (Xi _ (Yi hc3 ?_));have eE:entN s.drv S=some i:=by unfold entN; rw [entGo_at (Ge n1) h2 i2,Nat.zero_add]
   exact Xi _ (Yi (.refl _) (Yi (show AV.tup [vi (i:Int),vb true]=entV s.drv S by unfold entV; rw [eE]; rfl) rfl))
  have h2:(entailed s.drv[i] S)=false:=h2;have hc5:=(c91 s.drv[i] S (ht _ (List.getElem_mem _)) hS);rw [show (entailed s.drv[i] S)=false from h2] at hc5;refine Xi .pure (Xi _ (Yi hc5 ?_));refine Xi ⟨[(1,sl encSl S),(11,.slice (.id 1002 1) (s.drv.map encInc)),(12,vi (s.drv.map encInc).length),(13,vi i)],[(1000,.cells (srM roots C A s dec 1004 st.length)),(1001,.tok 6 s.infs.length),(1002,.tok 1 s.drv.length),(1003,.map shN (knL 0 s.infs)),(1004,.arr 1 (st.map encSks))],hfree⟩ (Yi ⟨Z4,Z5,Fh,ext_dec (by kernel_rfl)⟩ ?_)
  refine Yi (Ii i (by omega)) ?_;refine Xi ⟨i+1,by omega,fun j u hj hu=>by
    by_cases e:j=i
    ·subst e; rw [Ge n1] at hu; cases hu; exact h2
    ·exact i2 j u (by omega) hu⟩ ?_
  exact ⟨Dl s.drv.length i (by omega),Z4,Z5,Fh,ext_dec (by kernel_rfl)⟩
 have h1:¬ ((i:Int)<((s.drv.map encInc).length:Int)):=h1;have n1:¬ i<s.drv.length:=by have q:=h1; rw [Lm] at q; omega
 have eE:entN s.drv S=none:=entGo_no fun t ht=>by
  obtain ⟨j,hj⟩:=List.mem_iff_getElem?.1 ht
  have:=(List.getElem?_eq_some_iff.1 hj).1
  exact i2 j t (by have q:=h1; rw [Lm] at q; omega) hj
 exact Xi _ (Yi (.refl _) (Yi (show AV.tup [vi 0,vb false]=entV s.drv S by unfold entV; rw [eE]; rfl) rfl))
end Go.Eng

namespace Go.Eng
open Go.Proofs
def missQ (l:List Cd) (q:Rq):Bool:=l.any fun d=>decide (d.rel.path=q.path)&&!has q.set d.place
theorem find_numG {f:Rq→Nat→Nd} {P:Nd→Bool} : ∀ {l:List Rq} {b i:Nat} {q:Rq},l[i]?=some q→P (f q (b+i))=true→(∀ k u,k<i→l[k]?=some u→P (f u (b+k))=false)→(numG f b l).find? P=some (f q (b+i))
 | [],_,_,_,h,_,_=>by simp at h
 | u :: l,b,0,q,h,he,_=>by
  cases h
  unfold numG;rw [List.find?_cons,show P (f u b)=true from he]; rfl
 | u :: l,b,i+1,q,h,he,hn=>by
  unfold numG;have h0:P (f u b)=false:=hn 0 u (by omega) rfl;rw [List.find?_cons,h0]
  have:=find_numG (f:=f) (P:=P) (l:=l) (b:=b+1) (i:=i) (q:=q) (by simpa using h) (by rw [show b+1+i=b+(i+1) by omega]; exact he) (fun k v hk hv=>by
   rw [show b+1+k=b+(k+1) by omega]; exact hn (k+1) v (by omega) (by simpa using hv))
  rw [show b+1+i=b+(i+1) by omega] at this;exact this
theorem find_numG_no {f:Rq→Nat→Nd} {P:Nd→Bool} : ∀ {l:List Rq} {b:Nat},(∀ k u,l[k]?=some u→P (f u (b+k))=false)→(numG f b l).find? P=none
 | [],_,_=>rfl
 | u :: l,b,h=>by
  unfold numG;have h0:P (f u b)=false:=h 0 u rfl;rw [List.find?_cons,h0];exact find_numG_no fun k v hv=>by rw [show b+1+k=b+(k+1) by omega]; exact h (k+1) v (by simpa using hv)
def zNd:AV:=.agg [vs ⟨#[]⟩,.v (.slice none 0 0),vs ⟨#[]⟩,vi 0,vi 0]
def clV (o:Option Nd):AV:=match o with | some n=>.tup [.agg (encNd n),vb true] | none=>.tup [zNd,vb false]
section
variable {dec:List Cd} {c:Cd} {i:Nat}
theorem clash_at (hi:i<c.rel.reqs.length) (hn:∀ k q,k<i→c.rel.reqs[k]?=some q→missQ (dec++[c]) q=false) {j:Nat} (hj:j<(dec++[c]).length) (h1:(dec++[c])[j].rel.path=c.rel.reqs[i].path) (h2:has c.rel.reqs[i].set (dec++[c])[j].place=false) :
  clashN dec c=some ⟨c.rel.reqs[i],c.rel.path,c.place,(i:Nat)⟩:=by
 have:=find_numG (f:=fun q i=>⟨q,c.rel.path,c.place,(i:Nat)⟩) (P:=missB (dec++[c])) (l:=c.rel.reqs) (b:=0) (i:=i) (q:=c.rel.reqs[i]) (Ge hi)
  (List.any_eq_true.2 ⟨_,List.getElem_mem hj,by rw [decide_eq_true h1,h2]; rfl⟩) (fun k u hk hu=>hn k u hk hu)
 unfold clashN relN;rw [this,Nat.zero_add]
theorem clash_no (hn:∀ (k:Nat) (q:Rq),c.rel.reqs[k]?=some q→missQ (dec++[c]) q=false):clashN dec c=none:=by
 unfold clashN relN;exact find_numG_no fun k u hu=>hn k u hu
theorem missQ_no {q:Rq} (h:∀ (m:Nat) (d:Cd),(dec++[c])[m]?=some d→(decide (d.rel.path=q.path)&&!has q.set d.place)=false):missQ (dec++[c]) q=false:=by
 unfold missQ;rw [List.any_eq_false];intro d hd;obtain ⟨m,hm⟩:=List.mem_iff_getElem?.1 hd;rw [h m d hm]; decide
end
theorem s87 (n:Nd) (c:Cd) (hq:Few n.rq.set):PC 87 [.agg (encNd n),.cptr (encCd c)] (vb (!has n.rq.set c.place)):=by
 refine Ps ⟨[2],[],[],[],[],[],[],[],[],[],[]⟩ Tryz.func87 rfl (Nz rfl) ?_;refine Or.elim (Bt (has n.rq.set c.place)) (fun h1=>?_) (fun h1=>?_)
 ·have h1:(has n.rq.set c.place)=true:=h1;have hc2:=(c87 n.rq.set c.place hq);rw [show (has n.rq.set c.place)=true from h1] at hc2;refine Xi .pure (Xi _ (Yi hc2 ?_));exact .of_eq (show vb false=vb (!has n.rq.set c.place) by rw [h1]; rfl)
 have h1:(has n.rq.set c.place)=false:=h1;have hc4:=(c87 n.rq.set c.place hq);rw [show (has n.rq.set c.place)=false from h1] at hc4;refine Xi .pure (Xi _ (Yi hc4 ?_));exact .of_eq (show vb true=vb (!has n.rq.set c.place) by rw [h1]; rfl)
set_option maxHeartbeats 4000000 in
theorem s69 (roots:List Rq) (C A:List (Value × AV)) (s:SS) (dec:List Cd) (st:List (List Sk)) (c:Cd) (hd:dec.length≤1073741823) (hr:c.rel.reqs.length≤1073741824) (hq:∀ q ∈ c.rel.reqs,Few q.set):ACall Tryz.prog 69 [.ref 1000 0,.agg (encCd c)] (heapOf (srH roots C A s dec st) hfree) fun r h'=>r=clV (clashN dec c)∧h'=heapOf (srH roots C A s dec st) hfree:=by
 have hd:dec.length≤1073741823:=hd;have hdl:(dec++[c]).length=dec.length+1:=by simp
 refine acall_sub (cxe ⟨[3],[],[],[],[],[],[],[],[(23,3)],[],[4,8,9]⟩) [(1000,1000),(1001,1001),(1002,1002),(1003,1003),(1004,1004)] rfl tab_ok hm rfl Tryz.func69 (by kernel_rfl) rfl (Nz rfl) (by kernel_rfl) rfl ?_;refine Xi {i:Nat // i≤c.rel.reqs.length∧∀ k q,k<i→c.rel.reqs[k]?=some q→missQ (dec++[c]) q=false} (Xi (fun q=>⟨[(0,.ref 1000 0),(3,.ref 3 0),(4,.ref 4 0),(12,sl encRq c.rel.reqs),(13,vi (c.rel.reqs.map encRq).length),(14,vi q.1)],[(3,.ro (encCd c)),(4,.cells [vs ⟨#[]⟩,.v (.slice none 0 0),vs ⟨#[]⟩,vi 0,vi 0]),(1000,.cells (srM roots C A s dec 1004 st.length)),(1001,.tok 6 s.infs.length),(1002,.tok 1 s.drv.length),(1003,.map shN (knL 0 s.infs)),(1004,.arr 1 (st.map encSks))],hfree⟩) (Xi (fun q=>c.rel.reqs.length - q.1) (Yi (Xi ⟨0,Nat.zero_le _,fun k q h=>absurd h (Nat.not_lt_zero k)⟩ ?_) ?_)))
 ·exact ⟨Z6,Z7,Fh,ext_dec (by kernel_rfl)⟩
 intro ⟨i,i1,i2⟩;have i1:i≤c.rel.reqs.length:=i1;have i2:∀ k q,k<i→c.rel.reqs[k]?=some q→missQ (dec++[c]) q=false:=i2;refine Yi (fun h1=>?_) (fun h1=>?_)
 ·have h1:(i:Int)<((c.rel.reqs.map encRq).length:Int):=h1;have n1:i<c.rel.reqs.length:=by have q:=h1; rw [Lm] at q; omega
  have g1:c.rel.reqs[i]?=some c.rel.reqs[i]:=Ge n1;refine Xi (encRq c.rel.reqs[i]) (Yi (Yi (Nn i) (map_at g1)) (Yi rfl ?_));refine Yi (Nz rfl) ?_;refine Yi (Nz rfl) ?_;refine Xi ⟨[(0,.ref 1000 0),(3,.ref 3 0),(4,.ref 4 0),(6,vi i),(7,.ref 7 0),(12,sl encRq c.rel.reqs),(13,vi (c.rel.reqs.map encRq).length),(14,vi i)],[(3,.ro (encCd c)),(4,.cells [vs ⟨#[]⟩,.v (.slice none 0 0),vs ⟨#[]⟩,vi 0,vi 0]),(7,.cells (encRq c.rel.reqs[i])),(1000,.cells (srM roots C A s dec 1004 st.length)),(1001,.tok 6 s.infs.length),(1002,.tok 1 s.drv.length),(1003,.map shN (knL 0 s.infs)),(1004,.arr 1 (st.map encSks))],hfree⟩ (Yi ⟨Z8,Z8,Fh,ext_dec (by kernel_rfl)⟩ ?_)
  refine Xi _ (Xi _ (Yi (by kernel_rfl) (Yi (s70t dec (Nat.le_trans hd (by decide))) ?_)));refine Yi (Nz rfl) ?_;have b2:AllLen 10 [(encCd c)]∧(dec.map encCd).length=(dec.map encCd).length∧((dec.map encCd).length+([(encCd c)]:List (List AV)).length)*128≤140737488355328∧(dec.map encCd).length+([(encCd c)]:List (List AV)).length≤9223372036854775807:=⟨⟨rfl,trivial⟩,rfl,(by simp only [Lm,List.length_cons,List.length_nil]; omega),(by simp only [Lm,List.length_cons,List.length_nil]; omega)⟩;refine Yi b2 ?_;refine Yi (by kernel_rfl) ?_;refine Xi {j:Nat // j≤(dec++[c]).length∧∀ m d,m<j→(dec++[c])[m]?=some d→(decide (d.rel.path=c.rel.reqs[i].path)&&!has c.rel.reqs[i].set d.place)=false} (Xi (fun q=>⟨[(0,.ref 1000 0),(3,.ref 3 0),(4,.ref 4 0),(6,vi i),(7,.ref 7 0),(12,sl encRq c.rel.reqs),(13,vi (c.rel.reqs.map encRq).length),(14,vi i),(26,.slice (.id 12300 10) ((dec++[c]).map encCd)),(27,vi ((dec++[c]).map encCd).length),(28,vi q.1)],[(3,.ro (encCd c)),(4,.cells [vs ⟨#[]⟩,.v (.slice none 0 0),vs ⟨#[]⟩,vi 0,vi 0]),(7,.cells (encRq c.rel.reqs[i])),(1000,.cells (srM roots C A s dec 1004 st.length)),(1001,.tok 6 s.infs.length),(1002,.tok 1 s.drv.length),(1003,.map shN (knL 0 s.infs)),(1004,.arr 1 (st.map encSks)),(12300,.tok 10 ((dec++[c]).map encCd).length)],hfree⟩) (Xi (fun q=>(dec++[c]).length - q.1) (Yi (Xi ⟨0,Nat.zero_le _,fun k q h=>absurd h (Nat.not_lt_zero k)⟩ ?_) ?_)))
  ·exact ⟨⟨Zr,Zr,Zr,Zr,Zr,Zr,Zr,Zr,⟨(show AV.slice (.id 12300 10) (dec.map encCd++[encCd c])=.slice (.id 12300 10) ((dec++[c]).map encCd) by rw [List.map_append]; rfl),rfl⟩,⟨(show vi ((dec.map encCd++[encCd c]:List (List AV)).length:Int)=vi (((dec++[c]).map encCd).length:Int) by rw [List.map_append]; rfl),rfl⟩,Zr,Tv⟩,⟨Zr,Zr,Zr,Zr,Zr,Zr,Zr,Zr,⟨(show HO.tok 10 ((dec.map encCd).length+[encCd c].length)=.tok 10 ((dec++[c]).map encCd).length by simp),rfl⟩,Tv⟩,Fh,ext_dec (by kernel_rfl)⟩
  intro ⟨j,j1,j2⟩;have j1:j≤(dec++[c]).length:=j1;have j2:∀ m d,m<j→(dec++[c])[m]?=some d→(decide (d.rel.path=c.rel.reqs[i].path)&&!has c.rel.reqs[i].set d.place)=false:=j2;refine Yi (fun h3=>?_) (fun h3=>?_)
  ·have h3:(j:Int)<(((dec++[c]).map encCd).length:Int):=h3;have n3:j<(dec++[c]).length:=by have q:=h3; rw [Lm] at q; omega
   have g3:(dec++[c])[j]?=some (dec++[c])[j]:=Ge n3;refine Xi (encCd ((dec++[c])[j])) (Yi (Yi (Nn j) (map_at g3)) (Yi rfl ?_));refine Yi (Nz rfl) ?_;refine Yi (Nz rfl) ?_;refine Yi (fun h4=>?_) (fun h4=>?_)
   ·have h4:(((dec++[c])[j]).rel.path:ByteArray)=c.rel.reqs[i].path:=h4;refine Or.elim (Bt (has c.rel.reqs[i].set (dec++[c])[j].place)) (fun h5=>?_) (fun h5=>?_)
    ·have h5:(has c.rel.reqs[i].set (dec++[c])[j].place)=true:=h5;have hc6:=(c87 c.rel.reqs[i].set (dec++[c])[j].place (hq _ (List.getElem_mem _)));rw [show (has c.rel.reqs[i].set (dec++[c])[j].place)=true from h5] at hc6;refine Xi .pure (Xi _ (Yi hc6 ?_));refine Xi ⟨[(0,.ref 1000 0),(3,.ref 3 0),(4,.ref 4 0),(6,vi i),(7,.ref 7 0),(12,sl encRq c.rel.reqs),(13,vi (c.rel.reqs.map encRq).length),(14,vi i),(26,.slice (.id 12300 10) ((dec++[c]).map encCd)),(27,vi ((dec++[c]).map encCd).length),(28,vi j)],[(3,.ro (encCd c)),(4,.cells [vs ⟨#[]⟩,.v (.slice none 0 0),vs ⟨#[]⟩,vi 0,vi 0]),(7,.cells (encRq c.rel.reqs[i])),(1000,.cells (srM roots C A s dec 1004 st.length)),(1001,.tok 6 s.infs.length),(1002,.tok 1 s.drv.length),(1003,.map shN (knL 0 s.infs)),(1004,.arr 1 (st.map encSks)),(12300,.tok 10 ((dec++[c]).map encCd).length)],hfree⟩ (Yi ⟨Z11,Z9,Fh,ext_dec (by kernel_rfl)⟩ ?_)
     refine Yi (Ii j (by omega)) ?_;refine Xi ⟨j+1,by omega,fun m d hm hd=>by
       by_cases e:m=j
       ·subst e; rw [Ge n3] at hd; cases hd; exact by rw [h5]; simp
       ·exact j2 m d (by omega) hd⟩ ?_
     exact ⟨by show (dec++[c]).length - (j+1)<(dec++[c]).length - j; omega,Z11,Z9,Fh,ext_dec (by kernel_rfl)⟩
    have h5:(has c.rel.reqs[i].set (dec++[c])[j].place)=false:=h5;have hc8:=(c87 c.rel.reqs[i].set (dec++[c])[j].place (hq _ (List.getElem_mem _)));rw [show (has c.rel.reqs[i].set (dec++[c])[j].place)=false from h5] at hc8;refine Xi .pure (Xi _ (Yi hc8 ?_));refine Xi ⟨[(3,.ref 3 0),(4,.ref 4 0),(6,vi i),(7,.ref 7 0)],[(3,.ro (encCd c)),(4,.cells [vs ⟨#[]⟩,.v (.slice none 0 0),vs ⟨#[]⟩,vi 0,vi 0]),(7,.cells (encRq c.rel.reqs[i])),(1000,.cells (srM roots C A s dec 1004 st.length)),(1001,.tok 6 s.infs.length),(1002,.tok 1 s.drv.length),(1003,.map shN (knL 0 s.infs)),(1004,.arr 1 (st.map encSks))],hfree⟩ (Yi ⟨Z4,Z8,Fh,ext_dec (by kernel_rfl)⟩ ?_)
    refine Yi (Nz rfl) ?_;refine Yi (Nz rfl) ?_;refine Yi (Nz rfl) ?_;have eC:=clash_at (dec:=dec) (c:=c) n1 i2 n3 h4 h5;exact Xi _ (Yi (.refl _) (Yi (show AV.tup [.agg (encNd ⟨c.rel.reqs[i],c.rel.path,c.place,(i:Nat)⟩),vb true]=clV (clashN dec c) by rw [eC]; rfl) rfl))
   have h4:¬ (((dec++[c])[j]).rel.path:ByteArray)=c.rel.reqs[i].path:=h4;refine Xi ⟨[(0,.ref 1000 0),(3,.ref 3 0),(4,.ref 4 0),(6,vi i),(7,.ref 7 0),(12,sl encRq c.rel.reqs),(13,vi (c.rel.reqs.map encRq).length),(14,vi i),(26,.slice (.id 12300 10) ((dec++[c]).map encCd)),(27,vi ((dec++[c]).map encCd).length),(28,vi j)],[(3,.ro (encCd c)),(4,.cells [vs ⟨#[]⟩,.v (.slice none 0 0),vs ⟨#[]⟩,vi 0,vi 0]),(7,.cells (encRq c.rel.reqs[i])),(1000,.cells (srM roots C A s dec 1004 st.length)),(1001,.tok 6 s.infs.length),(1002,.tok 1 s.drv.length),(1003,.map shN (knL 0 s.infs)),(1004,.arr 1 (st.map encSks)),(12300,.tok 10 ((dec++[c]).map encCd).length)],hfree⟩ (Yi ⟨Z11,Z9,Fh,ext_dec (by kernel_rfl)⟩ ?_)
   refine Yi (Ii j (by omega)) ?_;refine Xi ⟨j+1,by omega,fun m d hm hd=>by
     by_cases e:m=j
     ·subst e; rw [Ge n3] at hd; cases hd; exact by rw [decide_eq_false h4]; rfl
     ·exact j2 m d (by omega) hd⟩ ?_
   exact ⟨by show (dec++[c]).length - (j+1)<(dec++[c]).length - j; omega,Z11,Z9,Fh,ext_dec (by kernel_rfl)⟩
  have h3:¬ ((j:Int)<(((dec++[c]).map encCd).length:Int)):=h3;have n3:¬ j<(dec++[c]).length:=by have q:=h3; rw [Lm] at q; omega
  refine Yi (Ii i (by omega)) ?_;have hmq:missQ (dec++[c]) c.rel.reqs[i]=false:=missQ_no fun m d hd=>j2 m d (by have:=(List.getElem?_eq_some_iff.1 hd).1; have q:=h3; rw [Lm] at q; omega) hd;refine Xi ⟨i+1,by omega,fun k q hk hq0=>by
    by_cases e:k=i
    ·subst e; rw [Ge n1] at hq0; cases hq0; exact hmq
    ·exact i2 k q (by omega) hq0⟩ ?_
  exact ⟨Dl c.rel.reqs.length i (by omega),Z6,Z7,Fh,ext_dec (by kernel_rfl)⟩
 have h1:¬ ((i:Int)<((c.rel.reqs.map encRq).length:Int)):=h1;have n1:¬ i<c.rel.reqs.length:=by have q:=h1; rw [Lm] at q; omega
 refine Yi (Nz rfl) ?_;refine Yi (Nz rfl) ?_;have eC:=clash_no (dec:=dec) (c:=c) fun k q hk=>i2 k q (by have:=(List.getElem?_eq_some_iff.1 hk).1; have q:=h1; rw [Lm] at q; omega) hk;exact Xi _ (Yi (.refl _) (Yi (show AV.tup [zNd,vb false]=clV (clashN dec c) by rw [eC]; rfl) rfl))
end Go.Eng
