/- Lemmas for the claims of this seat, without a condition: part 4 (Q8, P16, P17, P18, P19, P20, P21). -/
import Derived.Test.YtddfphmpfnmknaaGreatDoorFA03
import Derived.Lib.ItoaNum
import Derived.Lib.Join
namespace Go.Eng
def MT(R:Nat):Nat:=[3,8,13,23,33,53,78,113,168,243,348,513,738,1053,1548,2223,3168].getD R 0
theorem jo:∀R≤16,3≤MT R∧∀k≤R,3+2*k+k*MT (R-k)≤MT R∨k=0:=by decide
section
variable {x:List Rl}{roots:List Rq}{p:ByteArray}{needs:List Nd}{n0:Nd}{dec:List Cd}{st:List (List Sk)}
theorem LJ{s:SS}(i:Nf)(l:List Tm)(hf:s.full=false)(hc:s.infs.length≤65535):(DJ s i l).2.full=false∧(DJ s i l).2.infs.length≤s.infs.length+1:=⟨WZ i l hf (by omega),YN s i l⟩
theorem JO:∀(l:List Nat) {k:Nat} {s:SS},s.full=false→s.infs.length+l.length≤65535→(B3 p l k s).2.full=false∧(B3 p l k s).2.infs.length≤s.infs.length+l.length
 | [],k,s,hf,_=>⟨hf,Al _⟩
 |r::l,k,s,hf,hc=>by
  rw[Av]at hc⊢;unfold B3;split
  ·exact⟨hf,by show s.infs.length≤_;omega⟩
  split
  ·obtain⟨h1,h2⟩:=JO l (k:=k) hf (by omega);exact⟨h1,by omega⟩
  split
  ·obtain⟨h1,h2⟩:=JO l (k:=k) hf (by omega);exact⟨h1,by omega⟩
  ·obtain⟨a1,a2⟩:=LJ ⟨3,p,0,0,(k:Nat),(r:Nat)⟩ (Bn (Dv s k) (Dv s r) p).1 hf (by omega);obtain⟨h1,h2⟩:=JO l (k:=(DJ s ⟨3,p,0,0,(k:Nat),(r:Nat)⟩ (Bn (Dv s k) (Dv s r) p).1).1) a1 (by omega);exact⟨h1,by omega⟩
theorem Tb{s:SS}(reasons:List Nat)(hf:s.full=false)(hc:s.infs.length+(3+reasons.length)≤65535):(DF x p n0 reasons s).2.full=false∧(DF x p n0 reasons s).2.infs.length≤s.infs.length+(3+reasons.length):=by
 unfold DF;obtain⟨a1,a2⟩:=LJ (MR n0) (HC n0) hf (by omega)
 change (Bf s n0).2.full=false at a1
 change (Bf s n0).2.infs.length≤_ at a2
 obtain⟨b1,b2⟩:=LJ ⟨2,p,0,0,0,0⟩ (HJ p (BZ x p)) a1 (by omega)
 change (D2 x p (Bf s n0).2).2.full=false at b1
 change (D2 x p (Bf s n0).2).2.infs.length≤_ at b2
 obtain⟨h1,h2⟩:=JO (p:=p) ((D2 x p (Bf s n0).2).1::reasons) (k:=(Bf s n0).1) b1 (by rw[Av];omega);rw[Av]at h2;exact⟨h1,by omega⟩
theorem Sb{rec:List Cd→SS→List (List Sk)→JC}{B:Nat}(Wn:∀c∈BN x p,∀s st,s.full=false→s.infs.length+B≤65535→(rec (dec++[c]) s st).ss.full=false∧(rec (dec++[c]) s st).ss.infs.length≤s.infs.length+B) :
  ∀(cs:List Cd) {s:SS} {reasons:List Nat} {skips:List Sk},(∀c∈cs,c∈BN x p)→s.full=false→s.infs.length+(3+(reasons.length+cs.length)+cs.length*(1+B))≤65535 →
   (DC rec x p needs n0 dec st cs s reasons skips).ss.full=false∧(DC rec x p needs n0 dec st cs s reasons skips).ss.infs.length≤s.infs.length+(3+(reasons.length+cs.length)+cs.length*(1+B))
 | [],s,reasons,skips,_,hf,hc=>by
  simp only[AF,Gf,IF]at hc⊢;exact Tb reasons hf hc
 |c::cs,s,reasons,skips,hm,hf,hc=>by
  rw[FO,Ah (by rw[hf];decide)];simp only[Av]at hc⊢;have PH:(cs.length+1)*(1+B)=cs.length*(1+B)+(1+B):=by rw[EL,Nat.one_mul]
  rw[PH]at hc⊢
  have go:∀(s' : SS) (k:Nat) (Lc : List Sk),s'.full=false→s'.infs.length≤s.infs.length+(1+B) →
    (DC rec x p needs n0 dec st cs s' (reasons++[k]) Lc).ss.full=false∧(DC rec x p needs n0 dec st cs s' (reasons++[k]) Lc).ss.infs.length≤s.infs.length+(3+(reasons.length+(cs.length+1))+(cs.length*(1+B)+(1+B))):=fun s' k Lc XH hl=>by
   have Cq:(reasons++[k]).length=reasons.length+1:=by simp
   obtain⟨h1,h2⟩:=Sb Wn cs (s:=s') (reasons:=reasons++[k]) (skips:=Lc) (fun d hd=>hm d (Ag _ hd)) XH (by rw[Cq];omega);rw[Cq]at h2;exact⟨h1,by omega⟩
  have dY:∀(s' : SS) (k:Nat),s'.full=false→s'.infs.length≤s.infs.length+(1+B) →
    (In rec x p needs n0 dec st c cs reasons skips k s').ss.full=false∧(In rec x p needs n0 dec st c cs reasons skips k s').ss.infs.length≤s.infs.length+(3+(reasons.length+(cs.length+1))+(cs.length*(1+B)+(1+B))):=fun s' k XH hl=>by
   unfold In;split
   ·exact⟨XH,by show s'.infs.length≤_;omega⟩
   ·exact go s' k _ XH hl
  cases needs.find? fun n=>!has n.rq.set c.place with
  |some n =>
   obtain⟨a1,a2⟩:=LJ (MR n) (HC n) hf (by omega);exact go _ _ _ a1 (by show(DJ s (MR n) (HC n)).2.infs.length≤_;omega)
  |none =>
   dsimp only;cases Ns s.drv (AI (dec++[c]))with
   |some k=>exact dY s k hf (by omega)
   |none =>
    dsimp only;cases D0 dec c with
    |some n =>
     obtain⟨a1,a2⟩:=LJ (MR n) (HC n) hf (by omega);exact dY _ _ a1 (by show(DJ s (MR n) (HC n)).2.infs.length≤_;omega)
    |none =>
     dsimp only;obtain⟨r1,r2⟩:=Wn c (hm c (Aa ..)) s (st++[skips]) hf (by omega);split
     ·exact⟨r1,by show(rec (dec++[c]) s (st++[skips])).ss.infs.length≤_;omega⟩
     rw[Ah (by rw[r1];decide)];exact dY _ _ r1 (by omega)
theorem Xz{c:Cd}(hc:c∈BN x p)(hu:CC dec p=false):FP x (dec++[c])+(BN x p).length=FP x dec:=by
 obtain⟨c1,_⟩:=IW hc;unfold FP BN;rw[A6];have key:∀l:List Rl,(l.filter fun r=>!r.yanked&&!CC (dec++[c]) r.path).length+(l.filter fun r=>decide (r.path=p)&&!r.yanked).length=(l.filter fun r=>!r.yanked&&!CC dec r.path).length:=by
  intro l
  induction l with
  |nil=>rfl
  |cons r l ih =>
   have XG:CC (dec++[c]) r.path=(CC dec r.path||decide (p=r.path)):=by unfold CC;rw[F9];simp[c1]
   rw[Ci,Ci,Ci,XG]
   by_cases e:r.path=p
   ·rw[e,hu];cases r.yanked<;>simp<;>omega
   ·have e2:decide (p=r.path)=false:=Az (T5 e);rw[e2,Rb,Az e];cases r.yanked<;>cases CC dec r.path<;>simp<;>omega
 exact key x
theorem TP:∀(n:Nat) {dec:List Cd} {s:SS} {st:List (List Sk)},s.full=false→FP x dec≤16→s.infs.length+MT (FP x dec)≤65535 →
  (CB x roots n dec s st).ss.full=false∧(CB x roots n dec s st).ss.infs.length≤s.infs.length+MT (FP x dec)
 |0,_,_,_,hf,_,_=>⟨hf,Nat.le_add_right ..⟩
 |n+1,dec,s,st,hf,hR,hc=>by
  unfold CB;cases e:(EF roots dec).2 with
  |nil=>exact⟨hf,Nat.le_add_right ..⟩
  |cons n0 l =>
   have hN:=K6 e;dsimp only;obtain⟨m1,m2⟩:=jo _ hR;cases hcs:BN x (EF roots dec).1 with
   |nil =>
    obtain⟨h1,h2⟩:=Tb (x:=x) (p:=(EF roots dec).1) (n0:=n0) (s:=s) [] hf (by simp;omega);refine⟨h1,?_⟩;show(DF x (EF roots dec).1 n0 [] s).2.infs.length≤_;simp at h2;omega
   |cons c0 cs0 =>
    have Ab:∀c∈BN x (EF roots dec).1,FP x (dec++[c])=FP x dec-(BN x (EF roots dec).1).length∧(BN x (EF roots dec).1).length≤FP x dec:=fun c hc=>by
     have:=Xz (dec:=dec) hc hN.undone
     omega
    have j8:c0∈BN x (EF roots dec).1:=by rw[hcs];exact Aa ..
    have hk:=Ab c0 j8;have PF:(BN x (EF roots dec).1).length≠0:=by rw[hcs];simp
    have hm:=(m2 _ hk.2).resolve_right PF;generalize hK:(BN x (EF roots dec).1).length=K at *
    have Cq:(c0::cs0).length=K:=by rw[←hcs];exact hK
    have uP:3+(([]:List Nat).length+(c0::cs0).length)+(c0::cs0).length*(1+MT (FP x dec-K))≤MT (FP x dec):=by
     rw[Cq,AF,Nat.mul_add];omega
    have xK:K≤K*(1+MT (FP x dec-K)):=Nat.le_mul_of_pos_right _ (by omega);have hB:MT (FP x dec-K)≤K*(1+MT (FP x dec-K)):=by
     calc MT (FP x dec-K)≤1+MT (FP x dec-K):=by omega
      _≤K*(1+MT (FP x dec-K)):=Nat.le_mul_of_pos_left _ (by omega)
    obtain⟨h1,h2⟩:=Sb (x:=x) (p:=(EF roots dec).1) (needs:=n0::l) (n0:=n0) (dec:=dec) (st:=st) (rec:=CB x roots n) (B:=MT (FP x dec-K)) (fun c hc s st hf hl=>by
     have:=Ab c hc
     have h3:=TP n (dec:=dec++[c]) (s:=s) (st:=st) hf (by omega) (by rw[this.1];exact hl);rw[this.1]at h3;exact h3) (c0::cs0) (s:=s) (reasons:=[]) (skips:=[]) (fun c hc=>by rw[hcs];exact hc) hf (by omega)
    exact⟨h1,by omega⟩
theorem NT(h:x.length≤16):(DK x roots).ss.full=false:=by
 have hf:=XA x [];exact(TP (x:=x) (roots:=roots) _ (dec:=[]) (s:=rW) (st:=[]) rfl (by omega) (by
  have:∀R≤16,([]:List Nf).length+MT R≤65535:=by decide
  exact this _ (by omega))).1
end
-- versions
theorem oZ{α:Type}{l:List α}{i:Nat}(d:α)(h:i<l.length):l[i]?=some (l.getD i d):=by
 rw[BT,At h];rfl
end Go.Eng
