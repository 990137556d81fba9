/- Lemmas 4. -/
import Derived.Test.YtkjhcikodmiceaaGreatDoorUA03
namespace Go.Eng
def MT(R:Nat):Nat:=[3,8,13,23,33,53,78,113,168,243,348,513,738,1053,1548,2223,3168].getD R 0
theorem jE:∀R≤16,3<=MT R/\∀k≤R,3+2*k+k*MT (R-k)<=MT R\/k=0:=by decide
section
variable {x:List Rl}{roots:List Rq}{p:ByteArray}{needs:List Nd}{n0:Nd}{dec:List Cd}{st:List (List Sk)}
theorem Nl{s:SS}(i:Nf)(l:List Tm)(hf:s.full=false)(hc:s.infs.length<=65535):(Dw s i l).2.full=false/\(Dw s i l).2.infs.length<=s.infs.length+1:=⟨Wc i l hf ch,Yf s i l⟩
theorem IX:∀(l:List Nat) {k:Nat} {s:SS},s.full=false->s.infs.length+l.length<=65535->(BL p l k s).2.full=false/\(BL p l k s).2.infs.length<=s.infs.length+l.length
 | [],k,s,hf,_=>⟨hf,Ai _⟩
 |r::l,k,s,hf,hc=>by
  rw[Dp]at hc⊢;unfold BL;split
  .simp_all
  split
  .obtain⟨h1,h2⟩:=IX l (k:=k) hf ch<;>grind
  split
  .obtain⟨h1,h2⟩:=IX l (k:=k) hf ch<;>grind
  .obtain⟨a1,a2⟩:=Nl ⟨3,p,0,0,(k:Nat),(r:Nat)⟩ (AX (DF s k) (DF s r) p).1 hf ch;obtain⟨h1,h2⟩:=IX l (k:=(Dw s ⟨3,p,0,0,(k:Nat),(r:Nat)⟩ (AX (DF s k) (DF s r) p).1).1) a1 ch<;>grind
theorem Sc{s:SS}(reasons:List Nat)(hf:s.full=false)(hc:s.infs.length+(3+reasons.length)<=65535):(CR x p n0 reasons s).2.full=false/\(CR x p n0 reasons s).2.infs.length<=s.infs.length+(3+reasons.length):=by
 grind [CR,Nl,Bk,DL,IX]
theorem Rb{rec:List Cd->SS->List (List Sk)->Jm}{B:Nat}(YU:∀c∈Bn x p,∀s st,s.full=false->s.infs.length+B<=65535->(rec (dec++[c]) s st).ss.full=false/\(rec (dec++[c]) s st).ss.infs.length<=s.infs.length+B) :
  ∀(cs:List Cd) {s:SS} {reasons:List Nat} {skips:List Sk},(∀c∈cs,c∈Bn x p)->s.full=false->s.infs.length+(3+(reasons.length+cs.length)+cs.length*(1+B))<=65535 ->
   (Dg rec x p needs n0 dec st cs s reasons skips).ss.full=false/\(Dg rec x p needs n0 dec st cs s reasons skips).ss.infs.length<=s.infs.length+(3+(reasons.length+cs.length)+cs.length*(1+B))
 | [],s,reasons,skips,_,hf,hc=>by
  simp only[FD,GT,Nat.zero_mul]at hc⊢;exact Sc reasons hf hc
 |c::cs,s,reasons,skips,hm,hf,hc=>by
  rw[E6,AO (by simp_all)];simp only[Dp]at hc⊢;have Vo:(cs.length+1)*(1+B)=cs.length*(1+B)+(1+B):=by grind
  rw[Vo]at hc⊢
  have go:∀(s' : SS) (k:Nat) (Km : List Sk),s'.full=false->s'.infs.length<=s.infs.length+(1+B) ->
    (Dg rec x p needs n0 dec st cs s' (reasons++[k]) Km).ss.full=false/\(Dg rec x p needs n0 dec st cs s' (reasons++[k]) Km).ss.infs.length<=s.infs.length+(3+(reasons.length+(cs.length+1))+(cs.length*(1+B)+(1+B))):=fun s' k Km pO hl=>by
   have B5:(reasons++[k]).length=reasons.length+1:=by simp
   obtain⟨h1,h2⟩:=Rb YU cs (s:=s') (reasons:=reasons++[k]) (skips:=Km) (fun d hd=>hm d (Af _ hd)) pO (by rw[B5];omega)<;>grind [List.mem_cons_of_mem]
  have tp:∀(s' : SS) (k:Nat),s'.full=false->s'.infs.length<=s.infs.length+(1+B) ->
    (Hz rec x p needs n0 dec st c cs reasons skips k s').ss.full=false/\(Hz rec x p needs n0 dec st c cs reasons skips k s').ss.infs.length<=s.infs.length+(3+(reasons.length+(cs.length+1))+(cs.length*(1+B)+(1+B))):=fun s' k pO hl=>by
   grind [Hz]
  cases needs.find? fun n=>!has n.rq.set c.place with
  |some n=>
   obtain⟨a1,a2⟩:=Nl (NZ n) (Ho n) hf ch;exact go _ _ _ a1 (by show(Dw s (NZ n) (Ho n)).2.infs.length<=_;omega)
  |none=>
   dsimp only;cases MM s.drv (At (dec++[c]))with
   |some k=>simp_all
   |none=>
    dsimp only;cases Dq dec c with
    |some n=>
     obtain⟨a1,a2⟩:=Nl (NZ n) (Ho n) hf ch;exact tp _ _ a1 (by show(Dw s (NZ n) (Ho n)).2.infs.length<=_;omega)
    |none=>
     grind
theorem WO{c:Cd}(hc:c∈Bn x p)(hu:CO dec p=false):E8 x (dec++[c])+(Bn x p).length=E8 x dec:=by
 obtain⟨c1,_⟩:=Gy hc;unfold E8 Bn;rw[A2];have key:∀l:List Rl,(l.filter fun r=>!r.yanked&&!CO (dec++[c]) r.path).length+(l.filter fun r=>decide (r.path=p)&&!r.yanked).length=(l.filter fun r=>!r.yanked&&!CO dec r.path).length:=by
  intro l
  induction l<;>grind [CO]
 simp_all
theorem SQ:∀(n:Nat) {dec:List Cd} {s:SS} {st:List (List Sk)},s.full=false->E8 x dec<=16->s.infs.length+MT (E8 x dec)<=65535 ->
  (B8 x roots n dec s st).ss.full=false/\(B8 x roots n dec s st).ss.infs.length<=s.infs.length+MT (E8 x dec)
 |0,_,_,_,hf,_,_=>⟨hf,Nat.le_add_right ..⟩
 |n+1,dec,s,st,hf,hR,hc=>by
  unfold B8;cases e:(Ea roots dec).2 with
  |nil=>simp_all
  |cons n0 l=>
   have hN:=Kc e;dsimp only;obtain⟨m1,m2⟩:=jE _ hR;cases hcs:Bn x (Ea roots dec).1 with
   |nil=>
    obtain⟨h1,h2⟩:=Sc (x:=x) (p:=(Ea roots dec).1) (n0:=n0) (s:=s) [] hf (by grind);refine⟨h1,?_⟩;show(CR x (Ea roots dec).1 n0 [] s).2.infs.length<=_
    grind
   |cons c0 cs0=>
    have Ab:∀c∈Bn x (Ea roots dec).1,E8 x (dec++[c])=E8 x dec-(Bn x (Ea roots dec).1).length/\(Bn x (Ea roots dec).1).length<=E8 x dec:=fun c hc=>by
     grind [WO,V6.undone]
    have rh:c0∈Bn x (Ea roots dec).1:=by simp_all
    have hk:=Ab c0 rh;have Tq:(Bn x (Ea roots dec).1).length≠0:=by simp_all
    have hm:=(m2 _ hk.2).resolve_right Tq;generalize hK:(Bn x (Ea roots dec).1).length=K at *
    have B5:(c0::cs0).length=K:=by simp_all
    have wg:3+(([]:List Nat).length+(c0::cs0).length)+(c0::cs0).length*(1+MT (E8 x dec-K))<=MT (E8 x dec):=by
     grind [Nat.mul_add]
    have y8:K<=K*(1+MT (E8 x dec-K)):=Nat.le_mul_of_pos_right _ ch;have hB:MT (E8 x dec-K)<=K*(1+MT (E8 x dec-K)):=by
     calc MT (E8 x dec-K)<=1+MT (E8 x dec-K):=by omega
      _<=K*(1+MT (E8 x dec-K)):=Nat.le_mul_of_pos_left _ ch
    obtain⟨h1,h2⟩:=Rb (x:=x) (p:=(Ea roots dec).1) (needs:=n0::l) (n0:=n0) (dec:=dec) (st:=st) (rec:=B8 x roots n) (B:=MT (E8 x dec-K)) (fun c hc s st hf hl=>by
     have:=Ab c hc
     have h3:=SQ n (dec:=dec++[c]) (s:=s) (st:=st) hf ch (by simp_all);simp_all) (c0::cs0) (s:=s) (reasons:=[]) (skips:=[]) (fun c hc=>by simp_all) hf ch
    grind
theorem Kn(h:x.length<=16):(Es x roots).ss.full=false:=by
 have hf:=WP x [];exact(SQ (x:=x) (roots:=roots) _ (dec:=[]) (s:=tb) (st:=[]) rfl ch (by
  have:∀R≤16,([]:List Nf).length+MT R<=65535:=by decide
  grind)).1
end
end Go.Eng
