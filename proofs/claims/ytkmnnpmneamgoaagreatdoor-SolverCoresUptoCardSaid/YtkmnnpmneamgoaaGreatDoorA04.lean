/- Lemmas for the claims of this seat, without a condition: part 4 (P13, P14, Q8, P15, P16). -/
import Derived.Test.YtkmnnpmneamgoaaGreatDoorA03
namespace Go.Eng
def pf:List (List UInt8):=[[97,110,100],[97,110,121],[97,115],[98,111,111,108],[100,101,112,114,101,99,97,116,101,100],[101,108,115,101],[101,120,112,111,114,116],[102,97,108,115,101],[102,110],[102,111,108,100],[102,114,111,109],[105,102],[105,109,112,111,114,116],[105,110],[105,110,116],[108,101,110,103,116,104],[108,101,116],[108,105,115,116],[109,97,116,99,104],[109,111,100,117,108,101],[110,111,110,101],[110,111,116],[111,114],[116,101,120,116],[116,104,101,110],[116,114,117,101],[116,121,112,101],[117,115,101]]
theorem dp:ZV=32::pf.flatMap (fun w=>w++[32]):=by decide +kernel
theorem pg:∀w∈pf,∀c∈w,c≠32:=by decide +kernel
theorem VH:∀(s w r:List UInt8),(∀c∈s,c≠32)→(∀c∈w,c≠32)→Ni (s++[32]) (w++32::r)=decide (w=s)
 | [],[],r,_,_=>by simp[Ni]
 | [],b::w,r,_,hw=>by
  have:=hw b (Ab ..)
  simp[Ni,this.symm]
 |a::s,[],r,hs,_=>by
  have:=hs a (Ab ..)
  simp[Ni,this]
 |a::s,b::w,r,hs,hw=>by
  have ih:=VH s w r (fun c hc=>hs c (Ai _ hc)) (fun c hc=>hw c (Ai _ hc));rw[D7,D7,Ni,ih]
  by_cases e:a=b
  ·subst e;simp
  ·have e2:¬b=a:=fun h=>e h.symm;simp[e,e2]
theorem Ye(x:List UInt8):∀(w r:List UInt8),(∀c∈w,c≠32)→ig (32::x) (w++r)=ig (32::x) r
 | [],_,_=>rfl
 |b::w,r,h=>by
  have hb:=h b (Ab ..);rw[D7,ig,Ye x w r (fun c hc=>h c (Ai _ hc))]
  have:Ni (32::x) (b::(w++r))=false:=by simp[Ni,hb.symm]
  rw[this,Js]
theorem Vn(s:List UInt8)(hs:∀c∈s,c≠32):∀ws:List (List UInt8),(∀w∈ws,∀c∈w,c≠32)→ig (32::(s++[32])) (32::ws.flatMap (fun w=>w++[32]))=ws.any (fun w=>decide (w=s))
 | [],_=>by
  cases s with
  |nil=>simp[ig,Ni]
  |cons a s=>simp[ig,Ni]
 |w::ws,h=>by
  have hw:=h w (Ab ..);have ih:=Vn s hs ws (fun v hv=>h v (Ai _ hv));have e:(w::ws).flatMap (fun w=>w++[32])=w++32::ws.flatMap (fun w=>w++[32]):=by simp[List.flatMap_cons]
  rw[e,ig,Ni,VH s w _ hs hw,Ye _ w _ hw,ih,BX];simp
theorem mL{s:List UInt8}(h:s.all FY=true):∀c∈s,c≠32:=fun c hc e=>by
 have:=AW.1 h c hc
 rw[e]at this;exact absurd this (by decide)
theorem ZU{s:List UInt8}(h:s.all FY=true):UK s=pf.any (fun w=>decide (w=s)):=by
 unfold UK;rw[dp,Vn s (mL h) pf pg]
end Go.Eng

namespace Go.Eng
theorem Yk(s:Bc)(x:Int×Int)(k:Nat){t:Bc}(h:s.Perm t):(s.take k++([x]++s.drop k)).Perm (t++[x]):=by
 have h1:(s.take k++([x]++s.drop k)).Perm (x::(s.take k++s.drop k)):=by
  rw[H5];exact List.perm_middle
 rw[Ek]at h1;exact h1.trans ((List.Perm.cons x h).trans (Oq x t).symm)
theorem Tw(s:Bc)(x:Int×Int)(k:Nat)(hs:s.Pairwise fun a b=>a.1≤b.1)(h1:∀j (hj:j<s.length),k≤j→x.1<s[j].1)(h2:k=0∨∃h:k-1<s.length,s[k-1].1≤x.1):(s.take k++([x]++s.drop k)).Pairwise fun a b=>a.1≤b.1:=by
 have zV:∀a∈s.take k,a.1≤x.1:=fun a ha=>by
  obtain⟨j,hj,e⟩:=B1 ha;rw[AG]at hj;rw[H8]at e;rcases h2 with h2 | ⟨hk,h2⟩
  ·omega
  ·rcases BZ j (k-1)with z | z
   ·have:=Bm.1 hs j (k-1) (by omega) hk z
    rw[e]at this;omega
   ·have:j=k-1:=by omega
    subst this;rw[←e];exact h2
 have zP:∀b∈s.drop k,x.1≤b.1:=fun b hb=>by
  obtain⟨j,hj,e⟩:=B1 hb;rw[B4]at hj;rw[List.getElem_drop]at e
  have:=h1 (k+j) (by omega) (by omega)
  rw[e]at this;omega
 rw[List.pairwise_append];refine⟨hs.sublist (List.take_sublist ..),?_,fun a ha b hb=>?_⟩
 ·rw[H5,Dg];exact⟨zP,hs.sublist (List.drop_sublist ..)⟩
 ·rw[H5]at hb;rcases AF.1 hb with e | hb
  ·rw[e];exact zV a ha
  ·have:=zV a ha
   have:=zP b hb
   omega
end Go.Eng

namespace Go.Eng
def MT(R:Nat):Nat:=[3,8,13,23,33,53,78,113,168,243,348,513,738,1053,1548,2223,3168].getD R 0
theorem kh:∀R≤16,3≤MT R∧∀k≤R,3+2*k+k*MT (R-k)≤MT R∨k=0:=by decide
section
variable {x:List Rl}{roots:List Rq}{p:ByteArray}{needs:List Nd}{n0:Nd}{dec:List Cd}{st:List (List Sk)}
theorem L9{s:SS}(i:Nf)(l:List Tm)(hf:s.full=false)(hc:s.infs.length≤65535):(DU s i l).2.full=false∧(DU s i l).2.infs.length≤s.infs.length+1:=⟨Xl i l hf (by omega),Zd s i l⟩
theorem J6:∀(l:List Nat) {k:Nat} {s:SS},s.full=false→s.infs.length+l.length≤65535→(Ci p l k s).2.full=false∧(Ci p l k s).2.infs.length≤s.infs.length+l.length
 | [],k,s,hf,_=>⟨hf,Ao _⟩
 |r::l,k,s,hf,hc=>by
  rw[Aj]at hc⊢;unfold Ci;split
  ·exact⟨hf,by show s.infs.length≤_;omega⟩
  split
  ·obtain⟨h1,h2⟩:=J6 l (k:=k) hf (by omega);exact⟨h1,by omega⟩
  split
  ·obtain⟨h1,h2⟩:=J6 l (k:=k) hf (by omega);exact⟨h1,by omega⟩
  ·obtain⟨a1,a2⟩:=L9 ⟨3,p,0,0,(k:Nat),(r:Nat)⟩ (BA (DC s k) (DC s r) p).1 hf (by omega);obtain⟨h1,h2⟩:=J6 l (k:=(DU s ⟨3,p,0,0,(k:Nat),(r:Nat)⟩ (BA (DC s k) (DC s r) p).1).1) a1 (by omega);exact⟨h1,by omega⟩
theorem TA{s:SS}(reasons:List Nat)(hf:s.full=false)(hc:s.infs.length+(3+reasons.length)≤65535):(DP x p n0 reasons s).2.full=false∧(DP x p n0 reasons s).2.infs.length≤s.infs.length+(3+reasons.length):=by
 unfold DP;obtain⟨a1,a2⟩:=L9 (Nc n0) (HP n0) hf (by omega)
 change (Bf s n0).2.full=false at a1
 change (Bf s n0).2.infs.length≤_ at a2
 obtain⟨b1,b2⟩:=L9 ⟨2,p,0,0,0,0⟩ (HX p (Cf x p)) a1 (by omega)
 change (Eb x p (Bf s n0).2).2.full=false at b1
 change (Eb x p (Bf s n0).2).2.infs.length≤_ at b2
 obtain⟨h1,h2⟩:=J6 (p:=p) ((Eb x p (Bf s n0).2).1::reasons) (k:=(Bf s n0).1) b1 (by rw[Aj];omega);rw[Aj]at h2;exact⟨h1,by omega⟩
theorem SB{rec:List Cd→SS→List (List Sk)→JS}{B:Nat}(WD:∀c∈Br x p,∀s st,s.full=false→s.infs.length+B≤65535→(rec (dec++[c]) s st).ss.full=false∧(rec (dec++[c]) s st).ss.infs.length≤s.infs.length+B) :
  ∀(cs:List Cd) {s:SS} {reasons:List Nat} {skips:List Sk},(∀c∈cs,c∈Br x p)→s.full=false→s.infs.length+(3+(reasons.length+cs.length)+cs.length*(1+B))≤65535 →
   (DN rec x p needs n0 dec st cs s reasons skips).ss.full=false∧(DN rec x p needs n0 dec st cs s reasons skips).ss.infs.length≤s.infs.length+(3+(reasons.length+cs.length)+cs.length*(1+B))
 | [],s,reasons,skips,_,hf,hc=>by
  simp only[Ah,Hx,IP]at hc⊢;exact TA reasons hf hc
 |c::cs,s,reasons,skips,hm,hf,hc=>by
  rw[F0,Aq (by rw[hf];decide)];simp only[Aj]at hc⊢;have UD:(cs.length+1)*(1+B)=cs.length*(1+B)+(1+B):=by rw[Fu,Nat.one_mul]
  rw[UD]at hc⊢
  have go:∀(s' : SS) (k:Nat) (LB : List Sk),s'.full=false→s'.infs.length≤s.infs.length+(1+B) →
    (DN rec x p needs n0 dec st cs s' (reasons++[k]) LB).ss.full=false∧(DN rec x p needs n0 dec st cs s' (reasons++[k]) LB).ss.infs.length≤s.infs.length+(3+(reasons.length+(cs.length+1))+(cs.length*(1+B)+(1+B))):=fun s' k LB XZ hl=>by
   have CW:(reasons++[k]).length=reasons.length+1:=by simp
   obtain⟨h1,h2⟩:=SB WD cs (s:=s') (reasons:=reasons++[k]) (skips:=LB) (fun d hd=>hm d (Ai _ hd)) XZ (by rw[CW];omega);rw[CW]at h2;exact⟨h1,by omega⟩
  have fm:∀(s' : SS) (k:Nat),s'.full=false→s'.infs.length≤s.infs.length+(1+B) →
    (Ix rec x p needs n0 dec st c cs reasons skips k s').ss.full=false∧(Ix rec x p needs n0 dec st c cs reasons skips k s').ss.infs.length≤s.infs.length+(3+(reasons.length+(cs.length+1))+(cs.length*(1+B)+(1+B))):=fun s' k XZ hl=>by
   unfold Ix;split
   ·exact⟨XZ,by show s'.infs.length≤_;omega⟩
   ·exact go s' k _ XZ hl
  cases needs.find? fun n=>!has n.rq.set c.place with
  |some n =>
   obtain⟨a1,a2⟩:=L9 (Nc n) (HP n) hf (by omega);exact go _ _ _ a1 (by show(DU s (Nc n) (HP n)).2.infs.length≤_;omega)
  |none =>
   dsimp only;cases NR s.drv (Ap (dec++[c]))with
   |some k=>exact fm s k hf (by omega)
   |none =>
    dsimp only;cases Co dec c with
    |some n =>
     obtain⟨a1,a2⟩:=L9 (Nc n) (HP n) hf (by omega);exact fm _ _ a1 (by show(DU s (Nc n) (HP n)).2.infs.length≤_;omega)
    |none =>
     dsimp only;obtain⟨r1,r2⟩:=WD c (hm c (Ab ..)) s (st++[skips]) hf (by omega);split
     ·exact⟨r1,by show(rec (dec++[c]) s (st++[skips])).ss.infs.length≤_;omega⟩
     rw[Aq (by rw[r1];decide)];exact fm _ _ r1 (by omega)
theorem XN{c:Cd}(hc:c∈Br x p)(hu:CR dec p=false):E9 x (dec++[c])+(Br x p).length=E9 x dec:=by
 obtain⟨c1,_⟩:=Hb hc;unfold E9 Br;rw[Bs];have key:∀l:List Rl,(l.filter fun r=>!r.yanked&&!CR (dec++[c]) r.path).length+(l.filter fun r=>decide (r.path=p)&&!r.yanked).length=(l.filter fun r=>!r.yanked&&!CR dec r.path).length:=by
  intro l
  induction l with
  |nil=>rfl
  |cons r l ih =>
   have XW:CR (dec++[c]) r.path=(CR dec r.path||decide (p=r.path)):=by unfold CR;rw[Gt];simp[c1]
   rw[DD,DD,DD,XW]
   by_cases e:r.path=p
   ·rw[e,hu];cases r.yanked<;>simp<;>omega
   ·have e2:decide (p=r.path)=false:=Au (Uq e);rw[e2,Rw,Au e];cases r.yanked<;>cases CR dec r.path<;>simp<;>omega
 exact key x
theorem Ub:∀(n:Nat) {dec:List Cd} {s:SS} {st:List (List Sk)},s.full=false→E9 x dec≤16→s.infs.length+MT (E9 x dec)≤65535 →
  (C3 x roots n dec s st).ss.full=false∧(C3 x roots n dec s st).ss.infs.length≤s.infs.length+MT (E9 x dec)
 |0,_,_,_,hf,_,_=>⟨hf,Nat.le_add_right ..⟩
 |n+1,dec,s,st,hf,hR,hc=>by
  unfold C3;cases e:(DR roots dec).2 with
  |nil=>exact⟨hf,Nat.le_add_right ..⟩
  |cons n0 l =>
   have hN:=Im e;dsimp only;obtain⟨m1,m2⟩:=kh _ hR;cases hcs:Br x (DR roots dec).1 with
   |nil =>
    obtain⟨h1,h2⟩:=TA (x:=x) (p:=(DR roots dec).1) (n0:=n0) (s:=s) [] hf (by simp;omega);refine⟨h1,?_⟩;show(DP x (DR roots dec).1 n0 [] s).2.infs.length≤_;simp at h2;omega
   |cons c0 cs0 =>
    have Aa:∀c∈Br x (DR roots dec).1,E9 x (dec++[c])=E9 x dec-(Br x (DR roots dec).1).length∧(Br x (DR roots dec).1).length≤E9 x dec:=fun c hc=>by
     have:=XN (dec:=dec) hc hN.undone
     omega
    have ld:c0∈Br x (DR roots dec).1:=by rw[hcs];exact Ab ..
    have hk:=Aa c0 ld;have Vl:(Br x (DR roots dec).1).length≠0:=by rw[hcs];simp
    have hm:=(m2 _ hk.2).resolve_right Vl;generalize hK:(Br x (DR roots dec).1).length=K at *
    have CW:(c0::cs0).length=K:=by rw[←hcs];exact hK
    have wR:3+(([]:List Nat).length+(c0::cs0).length)+(c0::cs0).length*(1+MT (E9 x dec-K))≤MT (E9 x dec):=by
     rw[CW,Ah,Nat.mul_add];omega
    have zx:K≤K*(1+MT (E9 x dec-K)):=Nat.le_mul_of_pos_right _ (by omega);have hB:MT (E9 x dec-K)≤K*(1+MT (E9 x dec-K)):=by
     calc MT (E9 x dec-K)≤1+MT (E9 x dec-K):=by omega
      _≤K*(1+MT (E9 x dec-K)):=Nat.le_mul_of_pos_left _ (by omega)
    obtain⟨h1,h2⟩:=SB (x:=x) (p:=(DR roots dec).1) (needs:=n0::l) (n0:=n0) (dec:=dec) (st:=st) (rec:=C3 x roots n) (B:=MT (E9 x dec-K)) (fun c hc s st hf hl=>by
     have:=Aa c hc
     have h3:=Ub n (dec:=dec++[c]) (s:=s) (st:=st) hf (by omega) (by rw[this.1];exact hl);rw[this.1]at h3;exact h3) (c0::cs0) (s:=s) (reasons:=[]) (skips:=[]) (fun c hc=>by rw[hcs];exact hc) hf (by omega)
    exact⟨h1,by omega⟩
theorem Oe(h:x.length≤16):(Fc x roots).ss.full=false:=by
 have hf:=XO x [];exact(Ub (x:=x) (roots:=roots) _ (dec:=[]) (s:=Kr) (st:=[]) rfl (by omega) (by
  have:∀R≤16,([]:List Nf).length+MT R≤65535:=by decide
  exact this _ (by omega))).1
end
end Go.Eng

namespace Go.Eng
end Go.Eng

namespace Go.Eng
section
variable {x:List Rl}{roots:List Rq}{d:List (List Tm)}{i:Nf}
end
end Go.Eng
