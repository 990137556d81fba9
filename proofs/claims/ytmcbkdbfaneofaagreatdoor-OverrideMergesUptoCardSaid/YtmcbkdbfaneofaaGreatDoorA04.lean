/- Lemmas for the claims of this seat, without a condition: part 4 (Q7, Q8, P16). -/
import Derived.Test.YtmcbkdbfaneofaaGreatDoorA03
namespace Go.Eng
def Hi(s:SS)(b:List Cd)(p:ByteArray)(needs:List Nd):List Cd→List Sk→Prop
 | [],sk=>sk=[]
 |c::cs,sk=>if(needs.all fun n=>has n.rq.set c.place)=true then ∃(k:Nat) (rest:List Sk),sk=⟨p,c.place,k⟩::rest∧(k<s.drv.length∧CN (DT s k) (AO (b++[c]))=true)∧Hi s b p needs cs rest
  else Hi s b p needs cs sk
section
variable {s s' : SS}{b:List Cd}{p:ByteArray}{needs:List Nd}
theorem Hi.out{c:Cd}(hc:¬(needs.all fun n=>has n.rq.set c.place)=true):∀{cs:List Cd} {sk:List Sk},Hi s b p needs cs sk→Hi s b p needs (cs++[c]) sk
 | [],sk,h=>by
  show(if _ then _ else _);rw[Ao hc];exact h
 |d::cs,sk,h=>by
  have h:if(needs.all fun n=>has n.rq.set d.place)=true then _ else _:=h
  show(if _ then _ else _)
  by_cases hd:(needs.all fun n=>has n.rq.set d.place)=true
  ·rw[Ax hd]at h⊢;obtain⟨k,rest,h1,h2,h3⟩:=h;exact⟨k,rest,h1,h2,Hi.out hc h3⟩
  ·rw[Ao hd]at h⊢;exact Hi.out hc h
theorem Hi.add{c:Cd}(hc:(needs.all fun n=>has n.rq.set c.place)=true){k:Nat}(hk:k<s.drv.length∧CN (DT s k) (AO (b++[c]))=true):∀{cs:List Cd} {sk:List Sk},Hi s b p needs cs sk→Hi s b p needs (cs++[c]) (sk++[⟨p,c.place,k⟩])
 | [],sk,h=>by
  have h:sk=[]:=h;subst h;show(if _ then _ else _);rw[Ax hc];exact⟨k,[],rfl,hk,rfl⟩
 |d::cs,sk,h=>by
  have h:if(needs.all fun n=>has n.rq.set d.place)=true then _ else _:=h
  show(if _ then _ else _)
  by_cases hd:(needs.all fun n=>has n.rq.set d.place)=true
  ·rw[Ax hd]at h⊢;obtain⟨j,rest,rfl,h2,h3⟩:=h;exact⟨j,_,rfl,h2,Hi.add hc hk h3⟩
  ·rw[Ao hd]at h⊢;exact Hi.add hc hk h
theorem Hi.mono(hg:Grow s s'):∀{cs:List Cd} {sk:List Sk},Hi s b p needs cs sk→Hi s' b p needs cs sk
 | [],_,h=>h
 |d::cs,sk,h=>by
  have h:if(needs.all fun n=>has n.rq.set d.place)=true then _ else _:=h
  show(if _ then _ else _)
  by_cases hd:(needs.all fun n=>has n.rq.set d.place)=true
  ·rw[Ax hd]at h⊢;obtain⟨j,rest,rfl,h2,h3⟩:=h;exact⟨j,rest,rfl,⟨BT h2.1 hg.len,by rw[hg.at h2.1];exact h2.2⟩,h3.mono hg⟩
  ·rw[Ao hd]at h⊢;exact h.mono hg
end
structure nV(x:List Rl)(roots:List Rq)(s:SS)(b:List Cd)(c:Cd)(sk:List Sk)(p:ByteArray)(needs:List Nd)(pre post:List Cd):Prop where
 next:qe roots b p needs
 cands:Cw x p=pre++c::post
 fit:∀n∈needs,has n.rq.set c.place=true
 noclash:Ei b c=none
 skips:Hi s b p needs pre sk
def SF(x:List Rl)(roots:List Rq)(s:SS):List Cd→List Cd→List (List Sk)→Prop
 |b,[],[]=>K4 (Ie roots b) (AO b)=none
 |b,c::t,sk::st=>(∃p needs pre post,nV x roots s b c sk p needs pre post)∧SF x roots s (b++[c]) t st
 |_,_,_=>False
structure Wu(x:List Rl)(roots:List Rq)(ls:List (List Cd))(dec:List Cd)(s:SS)(st:List (List Sk))(o:Ks):Prop where
 der:FG x roots o.ss
 grow:Grow s o.ss
 no:o.found=false→o.dec=dec∧o.stack=st∧(o.ss.full=false→o.res<o.ss.drv.length∧CN (DT o.ss o.res) (AO dec)=true)
 yes:o.found=true→o.ss.full=false∧∃t sl,o.dec=dec++t∧o.stack=st++sl∧SF x roots o.ss dec t sl∧ls.head?=some o.dec
section
variable {rec:List Cd→SS→List (List Sk)→Ks}{x:List Rl}{roots:List Rq}{p:ByteArray}{needs:List Nd}{n0:Nd}{dec:List Cd}{st:List (List Sk)}
def Ka(rec:List Cd→SS→List (List Sk)→Ks)(x:List Rl)(p:ByteArray)(needs:List Nd)(n0:Nd)(dec:List Cd)(st:List (List Sk))(c:Cd)(cs:List Cd)(Gg:List Nat)(skips:List Sk)(k:Nat)(s:SS):Ks :=
 if Dk (DT s k) p=false then⟨k,false,s,dec,st⟩else Eb rec x p needs n0 dec st cs s (Gg++[k]) (skips++[⟨p,c.place,k⟩])
theorem GE(c:Cd)(cs:List Cd)(s:SS)(Gg:List Nat)(skips:List Sk):Eb rec x p needs n0 dec st (c::cs) s Gg skips =
  if s.full=true then⟨0,false,s,dec,st⟩
  else match needs.find? fun n=>!has n.rq.set c.place with
   |some n=>Eb rec x p needs n0 dec st cs (Bw s n).2 (Gg++[(Bw s n).1]) skips
   |none=>match OZ s.drv (AO (dec++[c]))with
    |some k=>Ka rec x p needs n0 dec st c cs Gg skips k s
    |none=>match Ei dec c with
     |some n=>Ka rec x p needs n0 dec st c cs Gg skips (Bw s n).1 (Bw s n).2
     |none=>if(rec (dec++[c]) s (st++[skips])).found=true then⟨0,true,(rec (dec++[c]) s (st++[skips])).ss,(rec (dec++[c]) s (st++[skips])).dec,(rec (dec++[c]) s (st++[skips])).stack⟩
      else if(rec (dec++[c]) s (st++[skips])).ss.full=true then⟨0,false,(rec (dec++[c]) s (st++[skips])).ss,dec,st⟩
      else Ka rec x p needs n0 dec st c cs Gg skips (rec (dec++[c]) s (st++[skips])).res (rec (dec++[c]) s (st++[skips])).ss:=rfl
theorem bD{s:SS}(hs:FG x roots s){n:Nd}(h:∀d,DY x roots d (TS n)=some (Jo n)):FG x roots (Bw s n).2∧(Bw s n).1<(Bw s n).2.drv.length∧((Bw s n).2.full=false→DT (Bw s n).2 (Bw s n).1=Jo n)∧Grow s (Bw s n).2:=by
 obtain⟨a1,a2,a3⟩:=KO hs (h s.drv);exact⟨a1,a2,a3,KP _ _ _⟩
theorem Wu.grown{ls:List (List Cd)}{s s' : SS}{o:Ks}(hg:Grow s s')(h:Wu x roots ls dec s' st o):Wu x roots ls dec s st o:=⟨h.der,hg.trans h.grow,h.no,h.yes⟩
theorem Vn(hx:A9 x=0)(hr:By roots=0)(hd:ER x dec)(dp:Ja roots dec)(hN:qe roots dec p needs)(h0:n0∈needs){lv:List Cd→List (List Cd)}(zP:∀c∈Cw x p,dU dec needs c=true→∀d∈lv (dec++[c]),Lf x roots (dec++[c]) d)
  (dn:∀c∈Cw x p,dU dec needs c=true→∀s st,FG x roots s→s.full=false→Wu x roots (lv (dec++[c])) (dec++[c]) s st (rec (dec++[c]) s st)) :
  ∀(cs:List Cd) {s:SS} (L:List (Nat×Cd)) {skips:List Sk},L.map (·.2)++cs=Cw x p→FG x roots s→(∀y∈L,y.1<s.drv.length)→(s.full=false→(∀y∈L,CN (DT s y.1) (AO (dec++[y.2]))=true∧Dk (DT s y.1) p=true)∧Hi s dec p needs (L.map (·.2)) skips) →
   Wu x roots (((Cw x p).map fun c=>if dU dec needs c then lv (dec++[c])else []).flatten) dec s st (Eb rec x p needs n0 dec st cs s (L.map (·.1)) skips)
 | [],s,L,skips,hL,hs,DF,sK=>by
  rw[BE]at hL;obtain⟨l1,l2,l3,l4⟩:=dC hx hr hd hN h0 L hL hs DF (fun hf=>(sK hf).1);exact⟨l1,l2,fun _=>⟨rfl,rfl,fun hf=>⟨l3,l4 hf⟩⟩,fun h=>(by cases h)⟩
 |c::cs,s,L,skips,hL,hs,DF,sK=>by
  rw[GE]
  by_cases hf:s.full=true
  ·rw[Ax hf];exact⟨hs,.refl s,fun _=>⟨rfl,rfl,fun h=>by rw[show(⟨0,false,s,dec,st⟩:Ks).ss=s from rfl,hf]at h;cases h⟩,fun h=>(by cases h)⟩
  rw[Ao hf];have hf:s.full=false:=by simpa using hf
  obtain⟨sL,po⟩:=sK hf;have hc:c∈Cw x p:=by rw[←hL];simp
  obtain⟨c1,c2⟩:=Kb hc;have hu:Dt dec c.rel.path=false:=by rw[c1];exact hN.undone
  have hE:=hd.snoc c2 hu
  -- on to the next candidate
  have go:∀(s' : SS) (k:Nat) (Xp : List Sk),FG x roots s'→Grow s s'→k<s'.drv.length→(s'.full=false→(CN (DT s' k) (AO (dec++[c]))=true∧Dk (DT s' k) p=true)∧Hi s' dec p needs (L.map (·.2)++[c]) Xp) →
    Wu x roots (((Cw x p).map fun c=>if dU dec needs c then lv (dec++[c])else []).flatten) dec s st (Eb rec x p needs n0 dec st cs s' (L.map (·.1)++[k]) Xp):=fun s' k Xp Xx hg hk DL=>by
   have:=Vn hx hr hd dp hN h0 zP dn cs (s:=s') (L++[(k,c)]) (skips:=Xp) (by rw[AH,AM];exact hL) Xx
    (fun y hy=>by
     rcases A6.1 hy with hy | hy
     ·exact BT (DF y hy) hg.len
     ·rw[As.1 hy];exact hk)
    (fun ft=>by
     obtain⟨e1,e2⟩:=DL ft;refine⟨fun y hy=>?_,by rw[AH];exact e2⟩;rcases A6.1 hy with hy | hy
     ·rw[hg.at (DF y hy)];exact sL y hy
     ·rw[As.1 hy];exact e1)
   rw[AH]at this;exact this.grown hg
  cases o7:needs.find? fun n=>!has n.rq.set c.place with
  |some n =>
   dsimp only;have fu:=CR o7;have lD:=FP o7;have lD:has n.rq.set c.place=false:=by simpa using lD
   obtain⟨hn3,hn4⟩:=(hN.mem n).1 fu;obtain⟨e1,e2,e3⟩:=PB hx hr hE (Ol hn3) ⟨c,by simp,by rw[c1,hn4],lD⟩;obtain⟨i1,i2,i3,i4⟩:=bD hs e1;refine go _ _ _ i1 i4 i2 fun ft=>?_;rw[i3 ft];exact⟨⟨e2,dK hx hr hd hN hc fu lD⟩,Hi.out (by
    intro h;rw[AR]at h;rw[h n fu]at lD;cases lD) (po.mono i4)⟩
  |none =>
   dsimp only;have ac:∀n∈needs,has n.rq.set c.place=true:=fun n hn=>by
    rw[D0]at o7;simpa using o7 n hn
   have Fp:(needs.all fun n=>has n.rq.set c.place)=true:=by rw[AR];exact ac
   have nX:∀(s' : SS) (k:Nat),FG x roots s'→Grow s s'→k<s'.drv.length→(s'.full=false→CN (DT s' k) (AO (dec++[c]))=true) →
     Wu x roots (((Cw x p).map fun c=>if dU dec needs c then lv (dec++[c])else []).flatten) dec s st (Ka rec x p needs n0 dec st c cs (L.map (·.1)) skips k s'):=fun s' k Xx hg hk he=>by
    unfold Ka;cases qn:Dk (DT s' k) p with
    |false =>
     rw[Ax rfl];exact⟨Xx,hg,fun _=>⟨rfl,rfl,fun ft=>⟨hk,gC hx hd c2.1 (he ft) (by rw[c1];exact qn)⟩⟩,fun h=>(by cases h)⟩
    |true =>
     rw[Ao (by decide)];exact go _ _ _ Xx hg hk fun ft=>⟨⟨he ft,qn⟩,Hi.add Fp ⟨hk,he ft⟩ (po.mono hg)⟩
   cases hen:OZ s.drv (AO (dec++[c]))with
   |some k =>
    dsimp only;obtain⟨k1,k2⟩:=KU hen;exact nX s k hs (.refl s) k1 fun _=>k2
   |none =>
    dsimp only;cases hcl:Ei dec c with
    |some n =>
     dsimp only;obtain⟨m1,m2⟩:=Lr hcl;obtain⟨e1,e2,e3⟩:=PB hx hr hE (Na m1) m2;obtain⟨i1,i2,i3,i4⟩:=bD hs e1;exact nX _ _ i1 i4 i2 fun ft=>by rw[i3 ft];exact e2
    |none =>
     dsimp only;have GW:dU dec needs c=true:=PI.2 ⟨ac,hcl⟩;have hR:=dn c hc GW s (st++[skips]) hs hf;generalize rec (dec++[c]) s (st++[skips])=o at hR
     by_cases g8:o.found=true
     ·rw[Ax g8];obtain⟨y1,t,sl,y2,y3,y4,y5⟩:=hR.yes g8;refine⟨hR.der,hR.grow,fun h=>(by cases h),fun _=>⟨y1,c::t,skips::sl,by show o.dec=_;rw[y2];simp,by show o.stack=_;rw[y3];simp,⟨⟨p,needs,L.map (·.2),cs,hN,hL.symm,ac,hcl,po.mono hR.grow⟩,y4⟩,?_⟩⟩;show _=some o.dec;rw[←hL,AH,CU,AS,BJ];have xd:((L.map (·.2)).map fun c=>if dU dec needs c then lv (dec++[c])else []).flatten=[]:=by
       rw[List.flatten_eq_nil_iff];intro l hl;obtain⟨d,lz,rfl⟩:=Ar.1 hl;obtain⟨y,hy,rfl⟩:=Ar.1 lz;split
       ·rename_i hoy;have hyc:y.2∈Cw x p:=by rw[←hL];exact Br _ lz
        refine LY.2 fun d wS=>mc hx hs (DF y hy) (sL y hy).1 (zP y.2 hyc hoy d wS)
       ·rfl
      rw[xd,En,Ax GW,List.head?_append,y5];rfl
     ·rw[Ao g8];have g8:o.found=false:=by simpa using g8
      obtain⟨n1,n2,n3⟩:=hR.no g8
      by_cases o8:o.ss.full=true
      ·rw[Ax o8];exact⟨hR.der,hR.grow,fun _=>⟨rfl,rfl,fun h=>by rw[show(⟨0,false,o.ss,dec,st⟩:Ks).ss=o.ss from rfl,o8]at h;cases h⟩,fun h=>(by cases h)⟩
      ·rw[Ao o8];have o8:o.ss.full=false:=by simpa using o8
       exact nX _ _ hR.der hR.grow (n3 o8).1 fun _=>(n3 o8).2
end
theorem Tz{x:List Rl}{dec:List Cd}{c:Cd}(h:c.rel∈x∧c.rel.yanked=false)(hu:Dt dec c.rel.path=false):Ry x (dec++[c])<Ry x dec:=by
 have key:∀l:List Rl,(l.filter fun r=>!r.yanked&&!Dt (dec++[c]) r.path).length≤(l.filter fun r=>!r.yanked&&!Dt dec r.path).length ∧
   (c.rel∈l→(l.filter fun r=>!r.yanked&&!Dt (dec++[c]) r.path).length<(l.filter fun r=>!r.yanked&&!Dt dec r.path).length):=by
  intro l
  induction l with
  |nil=>exact⟨Al _,fun h=>(by cases h)⟩
  |cons r l ih =>
   have iv:(!r.yanked&&!Dt (dec++[c]) r.path)=true→(!r.yanked&&!Dt dec r.path)=true:=fun e=>by
    simp only[Ah,Da]at e⊢;refine⟨e.1,?_⟩
    have:=e.2
    unfold Dt at this⊢;rw[HQ,Bool.or_eq_false_iff]at this;exact this.1
   rw[ED,ED];refine⟨?_,fun hm=>?_⟩
   ·by_cases e:(!r.yanked&&!Dt (dec++[c]) r.path)=true
    ·rw[Ax e,Ax (iv e)];simp;exact ih.1
    ·rw[Ao e];split
     ·simp;have:=ih.1;omega
     ·exact ih.1
   ·rcases Av.1 hm with rfl | hm
    ·have e1:¬(!c.rel.yanked&&!Dt (dec++[c]) c.rel.path)=true:=by
      have:Dt (dec++[c]) c.rel.path=true:=by unfold Dt;simp
      rw[this];simp
     have e2:(!c.rel.yanked&&!Dt dec c.rel.path)=true:=by rw[h.2,hu];rfl
     rw[Ao e1,Ax e2];simp;have:=ih.1;omega
    ·have:=ih.2 hm
     by_cases e:(!r.yanked&&!Dt (dec++[c]) r.path)=true
     ·rw[Ax e,Ax (iv e)];simp;exact this
     ·rw[Ao e];split
      ·simp;omega
      ·exact this
 exact(key x).2 h.1
theorem QX{x:List Rl}{roots:List Rq}(hx:A9 x=0)(hr:By roots=0):∀(n:Nat) {dec:List Cd} {s:SS} {st:List (List Sk)},ER x dec→Ja roots dec→FG x roots s→s.full=false→Ry x dec<n →
  Wu x roots (Of x roots n dec) dec s st (Dn x roots n dec s st)
 |0,_,_,_,_,_,_,_,h=>by omega
 |n+1,dec,s,st,hd,dp,hs,hf,hn=>by
  unfold Dn Of;cases e:(G1 roots dec).2 with
  |nil =>
   exact⟨hs,.refl s,fun h=>(by cases h),fun _=>⟨hf,[],[],by simp,by simp,Ub.1 e,rfl⟩⟩
  |cons n0 l =>
   have hN:=Oo e;have next:∀c∈Cw x (G1 roots dec).1,dU dec (n0::l) c=true→ER x (dec++[c])∧Ja roots (dec++[c])∧Ry x (dec++[c])<n:=fun c hc GW=>by
    obtain⟨c1,c2⟩:=Kb hc;have hu:Dt dec c.rel.path=false:=by rw[c1];exact hN.undone
    obtain⟨k1,k2⟩:=PI.1 GW;exact⟨hd.snoc c2 hu,dp.snoc hN c1 k1 k2,by have:=Tz (dec:=dec) ⟨c2.1,c2.2.1⟩ hu;omega⟩
   exact Vn hx hr hd dp hN (Ac ..) (lv:=Of x roots n) (fun c hc GW d lz=>VT (next c hc GW).1 (next c hc GW).2.1 d lz)
    (fun c hc GW s st hs hf=>QX hx hr n (next c hc GW).1 (next c hc GW).2.1 hs hf (next c hc GW).2.2) _ [] rfl hs (fun y hy=>by cases hy) (fun _=>⟨fun y hy=>(by cases hy),rfl⟩)
theorem gJ(x:List Rl)(dec:List Cd):Ry x dec≤x.length:=BB _ _
theorem eT{x:List Rl}{roots:List Rq}(hx:A9 x=0)(hr:By roots=0):Wu x roots (Of x roots (x.length+1) []) [] uW [] (F4 x roots) :=
 QX hx hr _ (.nil x) (.nil roots) (.nil x roots) rfl (by have:=gJ x [];omega)
section
variable {x:List Rl}{roots:List Rq}{p:ByteArray}{needs:List Nd}{n0:Nd}{dec:List Cd}{st:List (List Sk)}
end
section
variable {x:List Rl}{roots:List Rq}{d:List (List Tm)}{i:Nf}
end
end Go.Eng
