/- Lemmas 4. -/
import Derived.Test.YteaiieomnhbmgaaGreatDoorFA03
import Derived.Lib.ItoaNum
import Derived.Lib.Join
namespace Go.Eng
def MT(R:Nat):Nat:=[3,8,13,23,33,53,78,113,168,243,348,513,738,1053,1548,2223,3168,4653].getD R 0
theorem qh:∀R≤17,3<=MT R/\∀k≤R,3+2*k+k*MT (R-k)<=MT R\/k=0:=by decide
section
variable {x:List Rl}{roots:List Rq}{p:ByteArray}{needs:List Nd}{n0:Nd}{dec:List Cd}{st:List (List Sk)}
theorem Nh{s:SS}(i:Nf)(l:List Tm)(hf:s.full=false)(hc:s.infs.length<=65535):(Er s i l).2.full=false/\(Er s i l).2.infs.length<=s.infs.length+1:=⟨am i l hf ch,dj s i l⟩
theorem Lg:∀(l:List Nat) {k:Nat} {s:SS},s.full=false->s.infs.length+l.length<=65535->(Cw p l k s).2.full=false/\(Cw p l k s).2.infs.length<=s.infs.length+l.length
 | [],k,s,hf,_=>⟨hf,Am _⟩
 |r::l,k,s,hf,hc=>by
  rw[Al]at hc⊢;unfold Cw;split
  .exact⟨hf,by show s.infs.length<=_;omega⟩
  split
  .obtain⟨h1,h2⟩:=Lg l (k:=k) hf ch;exact⟨h1,by omega⟩
  split
  .obtain⟨h1,h2⟩:=Lg l (k:=k) hf ch;exact⟨h1,by omega⟩
  .obtain⟨a1,a2⟩:=Nh ⟨3,p,0,0,(k:Nat),(r:Nat)⟩ (B2 (EC s k) (EC s r) p).1 hf ch;obtain⟨h1,h2⟩:=Lg l (k:=(Er s ⟨3,p,0,0,(k:Nat),(r:Nat)⟩ (B2 (EC s k) (EC s r) p).1).1) a1 ch;exact⟨h1,by omega⟩
theorem Vn{s:SS}(reasons:List Nat)(hf:s.full=false)(hc:s.infs.length+(3+reasons.length)<=65535):(D7 x p n0 reasons s).2.full=false/\(D7 x p n0 reasons s).2.infs.length<=s.infs.length+(3+reasons.length):=by
 unfold D7;obtain⟨a1,a2⟩:=Nh (Om n0) (II n0) hf ch
 change (BS s n0).2.full=false at a1
 change (BS s n0).2.infs.length<=_ at a2
 obtain⟨b1,b2⟩:=Nh ⟨2,p,0,0,0,0⟩ (IP p (Co x p)) a1 ch
 change (Ev x p (BS s n0).2).2.full=false at b1
 change (Ev x p (BS s n0).2).2.infs.length<=_ at b2
 obtain⟨h1,h2⟩:=Lg (p:=p) ((Ev x p (BS s n0).2).1::reasons) (k:=(BS s n0).1) b1 (by rw[Al];omega);rw[Al]at h2;exact⟨h1,by omega⟩
theorem Uz{rec:List Cd->SS->List (List Sk)->KW}{B:Nat}(Zh:∀c∈B7 x p,∀s st,s.full=false->s.infs.length+B<=65535->(rec (dec++[c]) s st).ss.full=false/\(rec (dec++[c]) s st).ss.infs.length<=s.infs.length+B) :
  ∀(cs:List Cd) {s:SS} {reasons:List Nat} {skips:List Sk},(∀c∈cs,c∈B7 x p)->s.full=false->s.infs.length+(3+(reasons.length+cs.length)+cs.length*(1+B))<=65535 ->
   (Eh rec x p needs n0 dec st cs s reasons skips).ss.full=false/\(Eh rec x p needs n0 dec st cs s reasons skips).ss.infs.length<=s.infs.length+(3+(reasons.length+cs.length)+cs.length*(1+B))
 | [],s,reasons,skips,_,hf,hc=>by
  simp only[Au,GT,JL]at hc⊢;exact Vn reasons hf hc
 |c::cs,s,reasons,skips,hm,hf,hc=>by
  rw[Gm,Aj (by rw[hf];decide)];simp only[Al]at hc⊢;have RK:(cs.length+1)*(1+B)=cs.length*(1+B)+(1+B):=by rw[Fl,Nat.one_mul]
  rw[RK]at hc⊢
  have go:∀(s' : SS) (k:Nat) (ML:List Sk),s'.full=false->s'.infs.length<=s.infs.length+(1+B) ->
    (Eh rec x p needs n0 dec st cs s' (reasons++[k]) ML).ss.full=false/\(Eh rec x p needs n0 dec st cs s' (reasons++[k]) ML).ss.infs.length<=s.infs.length+(3+(reasons.length+(cs.length+1))+(cs.length*(1+B)+(1+B))):=fun s' k ML bt hl=>by
   have CH:(reasons++[k]).length=reasons.length+1:=by simp
   obtain⟨h1,h2⟩:=Uz Zh cs (s:=s') (reasons:=reasons++[k]) (skips:=ML) (fun d hd=>hm d (Ah _ hd)) bt (by rw[CH];omega);rw[CH]at h2;exact⟨h1,by omega⟩
  have lE:∀(s' : SS) (k:Nat),s'.full=false->s'.infs.length<=s.infs.length+(1+B) ->
    (Jq rec x p needs n0 dec st c cs reasons skips k s').ss.full=false/\(Jq rec x p needs n0 dec st c cs reasons skips k s').ss.infs.length<=s.infs.length+(3+(reasons.length+(cs.length+1))+(cs.length*(1+B)+(1+B))):=fun s' k bt hl=>by
   unfold Jq;split
   .exact⟨bt,by show s'.infs.length<=_;omega⟩
   .exact go s' k _ bt hl
  cases needs.find? fun n=>!has n.rq.set c.place with
  |some n=>
   obtain⟨a1,a2⟩:=Nh (Om n) (II n) hf ch;exact go _ _ _ a1 (by show(Er s (Om n) (II n)).2.infs.length<=_;omega)
  |none=>
   dsimp only;cases Pb s.drv (AS (dec++[c]))with
   |some k=>exact lE s k hf ch
   |none=>
    dsimp only;cases En dec c with
    |some n=>
     obtain⟨a1,a2⟩:=Nh (Om n) (II n) hf ch;exact lE _ _ a1 (by show(Er s (Om n) (II n)).2.infs.length<=_;omega)
    |none=>
     dsimp only;obtain⟨r1,r2⟩:=Zh c (hm c (Ab ..)) s (st++[skips]) hf ch;split
     .exact⟨r1,by show(rec (dec++[c]) s (st++[skips])).ss.infs.length<=_;omega⟩
     rw[Aj (by rw[r1];decide)];exact lE _ _ r1 ch
theorem bh{c:Cd}(hc:c∈B7 x p)(hu:Dt dec p=false):Gn x (dec++[c])+(B7 x p).length=Gn x dec:=by
 obtain⟨c1,_⟩:=J7 hc;unfold Gn B7;rw[A7];have key:∀l:List Rl,(l.filter fun r=>!r.yanked&&!Dt (dec++[c]) r.path).length+(l.filter fun r=>decide (r.path=p)&&!r.yanked).length=(l.filter fun r=>!r.yanked&&!Dt dec r.path).length:=by
  intro l
  induction l with
  |nil=>rfl
  |cons r l ih=>
   have bq:Dt (dec++[c]) r.path=(Dt dec r.path||decide (p=r.path)):=by unfold Dt;rw[FW];simp[c1]
   rw[Dx,Dx,Dx,bq]
   by_cases e:r.path=p
   .rw[e,hu];cases r.yanked<;>simp<;>omega
   .have e2:decide (p=r.path)=false:=Ae (Wz e);rw[e2,E3,Ae e];cases r.yanked<;>cases Dt dec r.path<;>simp<;>omega
 exact key x
theorem Wb:∀(n:Nat) {dec:List Cd} {s:SS} {st:List (List Sk)},s.full=false->Gn x dec<=17->s.infs.length+MT (Gn x dec)<=65535 ->
  (Do x roots n dec s st).ss.full=false/\(Do x roots n dec s st).ss.infs.length<=s.infs.length+MT (Gn x dec)
 |0,_,_,_,hf,_,_=>⟨hf,Nat.le_add_right ..⟩
 |n+1,dec,s,st,hf,hR,hc=>by
  unfold Do;cases e:(Fb roots dec).2 with
  |nil=>exact⟨hf,Nat.le_add_right ..⟩
  |cons n0 l=>
   have hN:=MB e;dsimp only;obtain⟨m1,m2⟩:=qh _ hR;cases hcs:B7 x (Fb roots dec).1 with
   |nil=>
    obtain⟨h1,h2⟩:=Vn (x:=x) (p:=(Fb roots dec).1) (n0:=n0) (s:=s) [] hf (by simp;omega);refine⟨h1,?_⟩;show(D7 x (Fb roots dec).1 n0 [] s).2.infs.length<=_;simp at h2;omega
   |cons c0 cs0=>
    have Ag:∀c∈B7 x (Fb roots dec).1,Gn x (dec++[c])=Gn x dec-(B7 x (Fb roots dec).1).length/\(B7 x (Fb roots dec).1).length<=Gn x dec:=fun c hc=>by
     have:=bh (dec:=dec) hc hN.undone
     omega
    have u6:c0∈B7 x (Fb roots dec).1:=by rw[hcs];exact Ab ..
    have hk:=Ag c0 u6;have Ze:(B7 x (Fb roots dec).1).length≠0:=by rw[hcs];simp
    have hm:=(m2 _ hk.2).resolve_right Ze;generalize hK:(B7 x (Fb roots dec).1).length=K at *
    have CH:(c0::cs0).length=K:=by rw[<-hcs];exact hK
    have Ade:3+(([]:List Nat).length+(c0::cs0).length)+(c0::cs0).length*(1+MT (Gn x dec-K))<=MT (Gn x dec):=by
     rw[CH,Au,Nat.mul_add];omega
    have AfB:K<=K*(1+MT (Gn x dec-K)):=Nat.le_mul_of_pos_right _ ch;have hB:MT (Gn x dec-K)<=K*(1+MT (Gn x dec-K)):=by
     calc MT (Gn x dec-K)<=1+MT (Gn x dec-K):=by omega
      _<=K*(1+MT (Gn x dec-K)):=Nat.le_mul_of_pos_left _ ch
    obtain⟨h1,h2⟩:=Uz (x:=x) (p:=(Fb roots dec).1) (needs:=n0::l) (n0:=n0) (dec:=dec) (st:=st) (rec:=Do x roots n) (B:=MT (Gn x dec-K)) (fun c hc s st hf hl=>by
     have:=Ag c hc
     have h3:=Wb n (dec:=dec++[c]) (s:=s) (st:=st) hf ch (by rw[this.1];exact hl);rw[this.1]at h3;exact h3) (c0::cs0) (s:=s) (reasons:=[]) (skips:=[]) (fun c hc=>by rw[hcs];exact hc) hf ch
    exact⟨h1,by omega⟩
theorem ZI(h:x.length<=17):(DM x roots).ss.full=false:=by
 have hf:=bi x [];exact(Wb (x:=x) (roots:=roots) _ (dec:=[]) (s:=ss0) (st:=[]) rfl ch (by
  have:∀R≤17,([]:List Nf).length+MT R<=65535:=by decide
  exact this _ ch)).1
theorem Pz(h:x.length<=16):(DM x roots).ss.full=false:=ZI (Nat.le_succ_of_le h)
end
abbrev mkB(l:List UInt8):ByteArray:=⟨l.toArray⟩
def nE(n:Int):ByteArray:=mkB (Go.Lib.itoa n)
-- versions
theorem xt{α:Type}{l:List α}{i:Nat}(d:α)(h:i<l.length):l[i]?=some (l.getD i d):=by
 rw[Cf,AD h];rfl
end Go.Eng
