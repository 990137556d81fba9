/- Lemmas for the claims of this seat, without a condition: part 4 (Q8, P15, P16). -/
import Derived.Test.YtkmnnpmneamgoaaGreatDoorA03
namespace Go.Eng
def MT(R:Nat):Nat:=[3,8,13,23,33,53,78,113,168,243,348,513,738,1053,1548,2223,3168].getD R 0
theorem jd:∀R≤16,3≤MT R∧∀k≤R,3+2*k+k*MT (R-k)≤MT R∨k=0:=by decide
section
variable {x:List Rl}{roots:List Rq}{p:ByteArray}{needs:List Nd}{n0:Nd}{dec:List Cd}{st:List (List Sk)}
theorem LM{s:SS}(i:Nf)(l:List Tm)(hf:s.full=false)(hc:s.infs.length≤65535):(DG s i l).2.full=false∧(DG s i l).2.infs.length≤s.infs.length+1:=⟨Ww i l hf (by omega),Yk s i l⟩
theorem JM:∀(l:List Nat) {k:Nat} {s:SS},s.full=false→s.infs.length+l.length≤65535→(B7 p l k s).2.full=false∧(B7 p l k s).2.infs.length≤s.infs.length+l.length
 | [],k,s,hf,_=>⟨hf,Ak _⟩
 |r::l,k,s,hf,hc=>by
  rw[Al]at hc⊢;unfold B7;split
  ·exact⟨hf,by show s.infs.length≤_;omega⟩
  split
  ·obtain⟨h1,h2⟩:=JM l (k:=k) hf (by omega);exact⟨h1,by omega⟩
  split
  ·obtain⟨h1,h2⟩:=JM l (k:=k) hf (by omega);exact⟨h1,by omega⟩
  ·obtain⟨a1,a2⟩:=LM ⟨3,p,0,0,(k:Nat),(r:Nat)⟩ (A7 (Do s k) (Do s r) p).1 hf (by omega);obtain⟨h1,h2⟩:=JM l (k:=(DG s ⟨3,p,0,0,(k:Nat),(r:Nat)⟩ (A7 (Do s k) (Do s r) p).1).1) a1 (by omega);exact⟨h1,by omega⟩
theorem SO{s:SS}(reasons:List Nat)(hf:s.full=false)(hc:s.infs.length+(3+reasons.length)≤65535):(DD x p n0 reasons s).2.full=false∧(DD x p n0 reasons s).2.infs.length≤s.infs.length+(3+reasons.length):=by
 unfold DD;obtain⟨a1,a2⟩:=LM (MP n0) (Hx n0) hf (by omega)
 change (A8 s n0).2.full=false at a1
 change (A8 s n0).2.infs.length≤_ at a2
 obtain⟨b1,b2⟩:=LM ⟨2,p,0,0,0,0⟩ (E5 p (BM x p)) a1 (by omega)
 change (DY x p (A8 s n0).2).2.full=false at b1
 change (DY x p (A8 s n0).2).2.infs.length≤_ at b2
 obtain⟨h1,h2⟩:=JM (p:=p) ((DY x p (A8 s n0).2).1::reasons) (k:=(A8 s n0).1) b1 (by rw[Al];omega);rw[Al]at h2;exact⟨h1,by omega⟩
theorem RT{rec:List Cd→SS→List (List Sk)→Ju}{B:Nat}(Pt:∀c∈Bm x p,∀s st,s.full=false→s.infs.length+B≤65535→(rec (dec++[c]) s st).ss.full=false∧(rec (dec++[c]) s st).ss.infs.length≤s.infs.length+B) :
  ∀(cs:List Cd) {s:SS} {reasons:List Nat} {skips:List Sk},(∀c∈cs,c∈Bm x p)→s.full=false→s.infs.length+(3+(reasons.length+cs.length)+cs.length*(1+B))≤65535 →
   (DB rec x p needs n0 dec st cs s reasons skips).ss.full=false∧(DB rec x p needs n0 dec st cs s reasons skips).ss.infs.length≤s.infs.length+(3+(reasons.length+cs.length)+cs.length*(1+B))
 | [],s,reasons,skips,_,hf,hc=>by
  simp only[Ar,Hg,It]at hc⊢;exact SO reasons hf hc
 |c::cs,s,reasons,skips,hm,hf,hc=>by
  rw[FQ,Am (by rw[hf];decide)];simp only[Al]at hc⊢;have T2:(cs.length+1)*(1+B)=cs.length*(1+B)+(1+B):=by rw[Ff,Nat.one_mul]
  rw[T2]at hc⊢
  have go:∀(s' : SS) (k:Nat) (Lh : List Sk),s'.full=false→s'.infs.length≤s.infs.length+(1+B) →
    (DB rec x p needs n0 dec st cs s' (reasons++[k]) Lh).ss.full=false∧(DB rec x p needs n0 dec st cs s' (reasons++[k]) Lh).ss.infs.length≤s.infs.length+(3+(reasons.length+(cs.length+1))+(cs.length*(1+B)+(1+B))):=fun s' k Lh Xc hl=>by
   have CM:(reasons++[k]).length=reasons.length+1:=by simp
   obtain⟨h1,h2⟩:=RT Pt cs (s:=s') (reasons:=reasons++[k]) (skips:=Lh) (fun d hd=>hm d (Ag _ hd)) Xc (by rw[CM];omega);rw[CM]at h2;exact⟨h1,by omega⟩
  have dJ:∀(s' : SS) (k:Nat),s'.full=false→s'.infs.length≤s.infs.length+(1+B) →
    (Ib rec x p needs n0 dec st c cs reasons skips k s').ss.full=false∧(Ib rec x p needs n0 dec st c cs reasons skips k s').ss.infs.length≤s.infs.length+(3+(reasons.length+(cs.length+1))+(cs.length*(1+B)+(1+B))):=fun s' k Xc hl=>by
   unfold Ib;split
   ·exact⟨Xc,by show s'.infs.length≤_;omega⟩
   ·exact go s' k _ Xc hl
  cases needs.find? fun n=>!has n.rq.set c.place with
  |some n =>
   obtain⟨a1,a2⟩:=LM (MP n) (Hx n) hf (by omega);exact go _ _ _ a1 (by show(DG s (MP n) (Hx n)).2.infs.length≤_;omega)
  |none =>
   dsimp only;cases Nr s.drv (Ax (dec++[c]))with
   |some k=>exact dJ s k hf (by omega)
   |none =>
    dsimp only;cases Dw dec c with
    |some n =>
     obtain⟨a1,a2⟩:=LM (MP n) (Hx n) hf (by omega);exact dJ _ _ a1 (by show(DG s (MP n) (Hx n)).2.infs.length≤_;omega)
    |none =>
     dsimp only;obtain⟨r1,r2⟩:=Pt c (hm c (Ab ..)) s (st++[skips]) hf (by omega);split
     ·exact⟨r1,by show(rec (dec++[c]) s (st++[skips])).ss.infs.length≤_;omega⟩
     rw[Am (by rw[r1];decide)];exact dJ _ _ r1 (by omega)
theorem W2{c:Cd}(hc:c∈Bm x p)(hu:CD dec p=false):FB x (dec++[c])+(Bm x p).length=FB x dec:=by
 obtain⟨c1,_⟩:=Gd hc;unfold FB Bm;rw[Bp];have key:∀l:List Rl,(l.filter fun r=>!r.yanked&&!CD (dec++[c]) r.path).length+(l.filter fun r=>decide (r.path=p)&&!r.yanked).length=(l.filter fun r=>!r.yanked&&!CD dec r.path).length:=by
  intro l
  induction l with
  |nil=>rfl
  |cons r l ih =>
   have W8:CD (dec++[c]) r.path=(CD dec r.path||decide (p=r.path)):=by unfold CD;rw[Gj];simp[c1]
   rw[Dp,Dp,Dp,W8]
   by_cases e:r.path=p
   ·rw[e,hu];cases r.yanked<;>simp<;>omega
   ·have e2:decide (p=r.path)=false:=AD (TP e);rw[e2,QP,AD e];cases r.yanked<;>cases CD dec r.path<;>simp<;>omega
 exact key x
theorem Tx:∀(n:Nat) {dec:List Cd} {s:SS} {st:List (List Sk)},s.full=false→FB x dec≤16→s.infs.length+MT (FB x dec)≤65535 →
  (CH x roots n dec s st).ss.full=false∧(CH x roots n dec s st).ss.infs.length≤s.infs.length+MT (FB x dec)
 |0,_,_,_,hf,_,_=>⟨hf,Nat.le_add_right ..⟩
 |n+1,dec,s,st,hf,hR,hc=>by
  unfold CH;cases e:(Dz roots dec).2 with
  |nil=>exact⟨hf,Nat.le_add_right ..⟩
  |cons n0 l =>
   have hN:=HY e;dsimp only;obtain⟨m1,m2⟩:=jd _ hR;cases hcs:Bm x (Dz roots dec).1 with
   |nil =>
    obtain⟨h1,h2⟩:=SO (x:=x) (p:=(Dz roots dec).1) (n0:=n0) (s:=s) [] hf (by simp;omega);refine⟨h1,?_⟩;show(DD x (Dz roots dec).1 n0 [] s).2.infs.length≤_;simp at h2;omega
   |cons c0 cs0 =>
    have Aa:∀c∈Bm x (Dz roots dec).1,FB x (dec++[c])=FB x dec-(Bm x (Dz roots dec).1).length∧(Bm x (Dz roots dec).1).length≤FB x dec:=fun c hc=>by
     have:=W2 (dec:=dec) hc hN.undone
     omega
    have dv:c0∈Bm x (Dz roots dec).1:=by rw[hcs];exact Ab ..
    have hk:=Aa c0 dv;have VP:(Bm x (Dz roots dec).1).length≠0:=by rw[hcs];simp
    have hm:=(m2 _ hk.2).resolve_right VP;generalize hK:(Bm x (Dz roots dec).1).length=K at *
    have CM:(c0::cs0).length=K:=by rw[←hcs];exact hK
    have ur:3+(([]:List Nat).length+(c0::cs0).length)+(c0::cs0).length*(1+MT (FB x dec-K))≤MT (FB x dec):=by
     rw[CM,Ar,Nat.mul_add];omega
    have xo:K≤K*(1+MT (FB x dec-K)):=Nat.le_mul_of_pos_right _ (by omega);have hB:MT (FB x dec-K)≤K*(1+MT (FB x dec-K)):=by
     calc MT (FB x dec-K)≤1+MT (FB x dec-K):=by omega
      _≤K*(1+MT (FB x dec-K)):=Nat.le_mul_of_pos_left _ (by omega)
    obtain⟨h1,h2⟩:=RT (x:=x) (p:=(Dz roots dec).1) (needs:=n0::l) (n0:=n0) (dec:=dec) (st:=st) (rec:=CH x roots n) (B:=MT (FB x dec-K)) (fun c hc s st hf hl=>by
     have:=Aa c hc
     have h3:=Tx n (dec:=dec++[c]) (s:=s) (st:=st) hf (by omega) (by rw[this.1];exact hl);rw[this.1]at h3;exact h3) (c0::cs0) (s:=s) (reasons:=[]) (skips:=[]) (fun c hc=>by rw[hcs];exact hc) hf (by omega)
    exact⟨h1,by omega⟩
theorem NR(h:x.length≤16):(Eu x roots).ss.full=false:=by
 have hf:=W3 x [];exact(Tx (x:=x) (roots:=roots) _ (dec:=[]) (s:=JA) (st:=[]) rfl (by omega) (by
  have:∀R≤16,([]:List Nf).length+MT R≤65535:=by decide
  exact this _ (by omega))).1
end
end Go.Eng

namespace Go.Eng
end Go.Eng

namespace Go.Eng
section
variable {x:List Rl}{roots:List Rq}{d:List (List Tm)}{i:Nf}
end
end Go.Eng
