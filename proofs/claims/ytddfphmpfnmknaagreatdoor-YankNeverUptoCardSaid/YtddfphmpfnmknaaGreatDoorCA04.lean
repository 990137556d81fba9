/- Lemmas for the claims of this seat, without a condition: part 4 (Q8, P16, P17, P18, P19, P20, P21). -/
import Derived.Test.YtddfphmpfnmknaaGreatDoorCA03
import Derived.Lib.ItoaNum
import Derived.Lib.Join
namespace Go.Eng
def MT(R:Nat):Nat:=[3,8,13,23,33,53,78,113,168,243,348,513,738,1053,1548,2223,3168].getD R 0
theorem je:∀R≤16,3≤MT R∧∀k≤R,3+2*k+k*MT (R-k)≤MT R∨k=0:=by decide
section
variable {x:List Rl}{roots:List Rq}{p:ByteArray}{needs:List Nd}{n0:Nd}{dec:List Cd}{st:List (List Sk)}
theorem LN{s:SS}(i:Nf)(l:List Tm)(hf:s.full=false)(hc:s.infs.length≤65535):(DK s i l).2.full=false∧(DK s i l).2.infs.length≤s.infs.length+1:=⟨WU i l hf (by omega),YE s i l⟩
theorem JP:∀(l:List Nat) {k:Nat} {s:SS},s.full=false→s.infs.length+l.length≤65535→(B4 p l k s).2.full=false∧(B4 p l k s).2.infs.length≤s.infs.length+l.length
 | [],k,s,hf,_=>⟨hf,Al _⟩
 |r::l,k,s,hf,hc=>by
  rw[Au]at hc⊢;unfold B4;split
  ·exact⟨hf,by show s.infs.length≤_;omega⟩
  split
  ·obtain⟨h1,h2⟩:=JP l (k:=k) hf (by omega);exact⟨h1,by omega⟩
  split
  ·obtain⟨h1,h2⟩:=JP l (k:=k) hf (by omega);exact⟨h1,by omega⟩
  ·obtain⟨a1,a2⟩:=LN ⟨3,p,0,0,(k:Nat),(r:Nat)⟩ (Bo (Dt s k) (Dt s r) p).1 hf (by omega);obtain⟨h1,h2⟩:=JP l (k:=(DK s ⟨3,p,0,0,(k:Nat),(r:Nat)⟩ (Bo (Dt s k) (Dt s r) p).1).1) a1 (by omega);exact⟨h1,by omega⟩
theorem SZ{s:SS}(reasons:List Nat)(hf:s.full=false)(hc:s.infs.length+(3+reasons.length)≤65535):(DE x p n0 reasons s).2.full=false∧(DE x p n0 reasons s).2.infs.length≤s.infs.length+(3+reasons.length):=by
 unfold DE;obtain⟨a1,a2⟩:=LN (MV n0) (Hx n0) hf (by omega)
 change (Bd s n0).2.full=false at a1
 change (Bd s n0).2.infs.length≤_ at a2
 obtain⟨b1,b2⟩:=LN ⟨2,p,0,0,0,0⟩ (HE p (B1 x p)) a1 (by omega)
 change (D4 x p (Bd s n0).2).2.full=false at b1
 change (D4 x p (Bd s n0).2).2.infs.length≤_ at b2
 obtain⟨h1,h2⟩:=JP (p:=p) ((D4 x p (Bd s n0).2).1::reasons) (k:=(Bd s n0).1) b1 (by rw[Au];omega);rw[Au]at h2;exact⟨h1,by omega⟩
theorem RX{rec:List Cd→SS→List (List Sk)→Jx}{B:Nat}(Wh:∀c∈BJ x p,∀s st,s.full=false→s.infs.length+B≤65535→(rec (dec++[c]) s st).ss.full=false∧(rec (dec++[c]) s st).ss.infs.length≤s.infs.length+B) :
  ∀(cs:List Cd) {s:SS} {reasons:List Nat} {skips:List Sk},(∀c∈cs,c∈BJ x p)→s.full=false→s.infs.length+(3+(reasons.length+cs.length)+cs.length*(1+B))≤65535 →
   (DB rec x p needs n0 dec st cs s reasons skips).ss.full=false∧(DB rec x p needs n0 dec st cs s reasons skips).ss.infs.length≤s.infs.length+(3+(reasons.length+cs.length)+cs.length*(1+B))
 | [],s,reasons,skips,_,hf,hc=>by
  simp only[AE,Gd,IC]at hc⊢;exact SZ reasons hf hc
 |c::cs,s,reasons,skips,hm,hf,hc=>by
  rw[FM,Ah (by rw[hf];decide)];simp only[Au]at hc⊢;have PD:(cs.length+1)*(1+B)=cs.length*(1+B)+(1+B):=by rw[EN,Nat.one_mul]
  rw[PD]at hc⊢
  have go:∀(s' : SS) (k:Nat) (Lj : List Sk),s'.full=false→s'.infs.length≤s.infs.length+(1+B) →
    (DB rec x p needs n0 dec st cs s' (reasons++[k]) Lj).ss.full=false∧(DB rec x p needs n0 dec st cs s' (reasons++[k]) Lj).ss.infs.length≤s.infs.length+(3+(reasons.length+(cs.length+1))+(cs.length*(1+B)+(1+B))):=fun s' k Lj XA hl=>by
   have Cn:(reasons++[k]).length=reasons.length+1:=by simp
   obtain⟨h1,h2⟩:=RX Wh cs (s:=s') (reasons:=reasons++[k]) (skips:=Lj) (fun d hd=>hm d (Ag _ hd)) XA (by rw[Cn];omega);rw[Cn]at h2;exact⟨h1,by omega⟩
  have dT:∀(s' : SS) (k:Nat),s'.full=false→s'.infs.length≤s.infs.length+(1+B) →
    (Ik rec x p needs n0 dec st c cs reasons skips k s').ss.full=false∧(Ik rec x p needs n0 dec st c cs reasons skips k s').ss.infs.length≤s.infs.length+(3+(reasons.length+(cs.length+1))+(cs.length*(1+B)+(1+B))):=fun s' k XA hl=>by
   unfold Ik;split
   ·exact⟨XA,by show s'.infs.length≤_;omega⟩
   ·exact go s' k _ XA hl
  cases needs.find? fun n=>!has n.rq.set c.place with
  |some n =>
   obtain⟨a1,a2⟩:=LN (MV n) (Hx n) hf (by omega);exact go _ _ _ a1 (by show(DK s (MV n) (Hx n)).2.infs.length≤_;omega)
  |none =>
   dsimp only;cases Nv s.drv (AJ (dec++[c]))with
   |some k=>exact dT s k hf (by omega)
   |none =>
    dsimp only;cases D2 dec c with
    |some n =>
     obtain⟨a1,a2⟩:=LN (MV n) (Hx n) hf (by omega);exact dT _ _ a1 (by show(DK s (MV n) (Hx n)).2.infs.length≤_;omega)
    |none =>
     dsimp only;obtain⟨r1,r2⟩:=Wh c (hm c (Ab ..)) s (st++[skips]) hf (by omega);split
     ·exact⟨r1,by show(rec (dec++[c]) s (st++[skips])).ss.infs.length≤_;omega⟩
     rw[Ah (by rw[r1];decide)];exact dT _ _ r1 (by omega)
theorem Xr{c:Cd}(hc:c∈BJ x p)(hu:CA dec p=false):FN x (dec++[c])+(BJ x p).length=FN x dec:=by
 obtain⟨c1,_⟩:=IS hc;unfold FN BJ;rw[A4];have key:∀l:List Rl,(l.filter fun r=>!r.yanked&&!CA (dec++[c]) r.path).length+(l.filter fun r=>decide (r.path=p)&&!r.yanked).length=(l.filter fun r=>!r.yanked&&!CA dec r.path).length:=by
  intro l
  induction l with
  |nil=>rfl
  |cons r l ih =>
   have Xz:CA (dec++[c]) r.path=(CA dec r.path||decide (p=r.path)):=by unfold CA;rw[F9];simp[c1]
   rw[BN,BN,BN,Xz]
   by_cases e:r.path=p
   ·rw[e,hu];cases r.yanked<;>simp<;>omega
   ·have e2:decide (p=r.path)=false:=Ay (TZ e);rw[e2,QW,Ay e];cases r.yanked<;>cases CA dec r.path<;>simp<;>omega
 exact key x
theorem TH:∀(n:Nat) {dec:List Cd} {s:SS} {st:List (List Sk)},s.full=false→FN x dec≤16→s.infs.length+MT (FN x dec)≤65535 →
  (Cz x roots n dec s st).ss.full=false∧(Cz x roots n dec s st).ss.infs.length≤s.infs.length+MT (FN x dec)
 |0,_,_,_,hf,_,_=>⟨hf,Nat.le_add_right ..⟩
 |n+1,dec,s,st,hf,hR,hc=>by
  unfold Cz;cases e:(Eu roots dec).2 with
  |nil=>exact⟨hf,Nat.le_add_right ..⟩
  |cons n0 l =>
   have hN:=La e;dsimp only;obtain⟨m1,m2⟩:=je _ hR;cases hcs:BJ x (Eu roots dec).1 with
   |nil =>
    obtain⟨h1,h2⟩:=SZ (x:=x) (p:=(Eu roots dec).1) (n0:=n0) (s:=s) [] hf (by simp;omega);refine⟨h1,?_⟩;show(DE x (Eu roots dec).1 n0 [] s).2.infs.length≤_;simp at h2;omega
   |cons c0 cs0 =>
    have Aa:∀c∈BJ x (Eu roots dec).1,FN x (dec++[c])=FN x dec-(BJ x (Eu roots dec).1).length∧(BJ x (Eu roots dec).1).length≤FN x dec:=fun c hc=>by
     have:=Xr (dec:=dec) hc hN.undone
     omega
    have jN:c0∈BJ x (Eu roots dec).1:=by rw[hcs];exact Ab ..
    have hk:=Aa c0 jN;have PB:(BJ x (Eu roots dec).1).length≠0:=by rw[hcs];simp
    have hm:=(m2 _ hk.2).resolve_right PB;generalize hK:(BJ x (Eu roots dec).1).length=K at *
    have Cn:(c0::cs0).length=K:=by rw[←hcs];exact hK
    have uE:3+(([]:List Nat).length+(c0::cs0).length)+(c0::cs0).length*(1+MT (FN x dec-K))≤MT (FN x dec):=by
     rw[Cn,AE,Nat.mul_add];omega
    have xz:K≤K*(1+MT (FN x dec-K)):=Nat.le_mul_of_pos_right _ (by omega);have hB:MT (FN x dec-K)≤K*(1+MT (FN x dec-K)):=by
     calc MT (FN x dec-K)≤1+MT (FN x dec-K):=by omega
      _≤K*(1+MT (FN x dec-K)):=Nat.le_mul_of_pos_left _ (by omega)
    obtain⟨h1,h2⟩:=RX (x:=x) (p:=(Eu roots dec).1) (needs:=n0::l) (n0:=n0) (dec:=dec) (st:=st) (rec:=Cz x roots n) (B:=MT (FN x dec-K)) (fun c hc s st hf hl=>by
     have:=Aa c hc
     have h3:=TH n (dec:=dec++[c]) (s:=s) (st:=st) hf (by omega) (by rw[this.1];exact hl);rw[this.1]at h3;exact h3) (c0::cs0) (s:=s) (reasons:=[]) (skips:=[]) (fun c hc=>by rw[hcs];exact hc) hf (by omega)
    exact⟨h1,by omega⟩
theorem NV(h:x.length≤16):(DL x roots).ss.full=false:=by
 have hf:=Xs x [];exact(TH (x:=x) (roots:=roots) _ (dec:=[]) (s:=rT) (st:=[]) rfl (by omega) (by
  have:∀R≤16,([]:List Nf).length+MT R≤65535:=by decide
  exact this _ (by omega))).1
end
-- versions
theorem oR{α:Type}{l:List α}{i:Nat}(d:α)(h:i<l.length):l[i]?=some (l.getD i d):=by
 rw[BR,At h];rfl
end Go.Eng
