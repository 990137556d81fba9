/- Lemmas for the claims of this seat, without a condition: part 4 (Q7, Q8, P16). -/
import Derived.Test.YtmcbkdbfaneofaaGreatDoorBA03
namespace Go.Eng
def Hd(s:SS)(b:List Cd)(p:ByteArray)(needs:List Nd):List Cd→List Sk→Prop
 | [],sk=>sk=[]
 |c::cs,sk=>if(needs.all fun n=>has n.rq.set c.place)=true then ∃(k:Nat) (rest:List Sk),sk=⟨p,c.place,k⟩::rest∧(k<s.drv.length∧CP (DV s k) (AO (b++[c]))=true)∧Hd s b p needs cs rest
  else Hd s b p needs cs sk
section
variable {s s' : SS}{b:List Cd}{p:ByteArray}{needs:List Nd}
theorem Hd.out{c:Cd}(hc:¬(needs.all fun n=>has n.rq.set c.place)=true):∀{cs:List Cd} {sk:List Sk},Hd s b p needs cs sk→Hd s b p needs (cs++[c]) sk
 | [],sk,h=>by
  show(if _ then _ else _);rw[Al hc];exact h
 |d::cs,sk,h=>by
  have h:if(needs.all fun n=>has n.rq.set d.place)=true then _ else _:=h
  show(if _ then _ else _)
  by_cases hd:(needs.all fun n=>has n.rq.set d.place)=true
  ·rw[Au hd]at h⊢;obtain⟨k,rest,h1,h2,h3⟩:=h;exact⟨k,rest,h1,h2,Hd.out hc h3⟩
  ·rw[Al hd]at h⊢;exact Hd.out hc h
theorem Hd.add{c:Cd}(hc:(needs.all fun n=>has n.rq.set c.place)=true){k:Nat}(hk:k<s.drv.length∧CP (DV s k) (AO (b++[c]))=true):∀{cs:List Cd} {sk:List Sk},Hd s b p needs cs sk→Hd s b p needs (cs++[c]) (sk++[⟨p,c.place,k⟩])
 | [],sk,h=>by
  have h:sk=[]:=h;subst h;show(if _ then _ else _);rw[Au hc];exact⟨k,[],rfl,hk,rfl⟩
 |d::cs,sk,h=>by
  have h:if(needs.all fun n=>has n.rq.set d.place)=true then _ else _:=h
  show(if _ then _ else _)
  by_cases hd:(needs.all fun n=>has n.rq.set d.place)=true
  ·rw[Au hd]at h⊢;obtain⟨j,rest,rfl,h2,h3⟩:=h;exact⟨j,_,rfl,h2,Hd.add hc hk h3⟩
  ·rw[Al hd]at h⊢;exact Hd.add hc hk h
theorem Hd.mono(hg:Grow s s'):∀{cs:List Cd} {sk:List Sk},Hd s b p needs cs sk→Hd s' b p needs cs sk
 | [],_,h=>h
 |d::cs,sk,h=>by
  have h:if(needs.all fun n=>has n.rq.set d.place)=true then _ else _:=h
  show(if _ then _ else _)
  by_cases hd:(needs.all fun n=>has n.rq.set d.place)=true
  ·rw[Au hd]at h⊢;obtain⟨j,rest,rfl,h2,h3⟩:=h;exact⟨j,rest,rfl,⟨BQ h2.1 hg.len,by rw[hg.at h2.1];exact h2.2⟩,h3.mono hg⟩
  ·rw[Al hd]at h⊢;exact h.mono hg
end
structure nO(x:List Rl)(roots:List Rq)(s:SS)(b:List Cd)(c:Cd)(sk:List Sk)(p:ByteArray)(needs:List Nd)(pre post:List Cd):Prop where
 next:qa roots b p needs
 cands:Cw x p=pre++c::post
 fit:∀n∈needs,has n.rq.set c.place=true
 noclash:Ej b c=none
 skips:Hd s b p needs pre sk
def SE(x:List Rl)(roots:List Rq)(s:SS):List Cd→List Cd→List (List Sk)→Prop
 |b,[],[]=>K2 (H8 roots b) (AO b)=none
 |b,c::t,sk::st=>(∃p needs pre post,nO x roots s b c sk p needs pre post)∧SE x roots s (b++[c]) t st
 |_,_,_=>False
structure Wm(x:List Rl)(roots:List Rq)(ls:List (List Cd))(dec:List Cd)(s:SS)(st:List (List Sk))(o:Km):Prop where
 der:FD x roots o.ss
 grow:Grow s o.ss
 no:o.found=false→o.dec=dec∧o.stack=st∧(o.ss.full=false→o.res<o.ss.drv.length∧CP (DV o.ss o.res) (AO dec)=true)
 yes:o.found=true→o.ss.full=false∧∃t sl,o.dec=dec++t∧o.stack=st++sl∧SE x roots o.ss dec t sl∧ls.head?=some o.dec
section
variable {rec:List Cd→SS→List (List Sk)→Km}{x:List Rl}{roots:List Rq}{p:ByteArray}{needs:List Nd}{n0:Nd}{dec:List Cd}{st:List (List Sk)}
def J5(rec:List Cd→SS→List (List Sk)→Km)(x:List Rl)(p:ByteArray)(needs:List Nd)(n0:Nd)(dec:List Cd)(st:List (List Sk))(c:Cd)(cs:List Cd)(Ga:List Nat)(skips:List Sk)(k:Nat)(s:SS):Km :=
 if Dm (DV s k) p=false then⟨k,false,s,dec,st⟩else Ec rec x p needs n0 dec st cs s (Ga++[k]) (skips++[⟨p,c.place,k⟩])
theorem GB(c:Cd)(cs:List Cd)(s:SS)(Ga:List Nat)(skips:List Sk):Ec rec x p needs n0 dec st (c::cs) s Ga skips =
  if s.full=true then⟨0,false,s,dec,st⟩
  else match needs.find? fun n=>!has n.rq.set c.place with
   |some n=>Ec rec x p needs n0 dec st cs (Br s n).2 (Ga++[(Br s n).1]) skips
   |none=>match Pc s.drv (AO (dec++[c]))with
    |some k=>J5 rec x p needs n0 dec st c cs Ga skips k s
    |none=>match Ej dec c with
     |some n=>J5 rec x p needs n0 dec st c cs Ga skips (Br s n).1 (Br s n).2
     |none=>if(rec (dec++[c]) s (st++[skips])).found=true then⟨0,true,(rec (dec++[c]) s (st++[skips])).ss,(rec (dec++[c]) s (st++[skips])).dec,(rec (dec++[c]) s (st++[skips])).stack⟩
      else if(rec (dec++[c]) s (st++[skips])).ss.full=true then⟨0,false,(rec (dec++[c]) s (st++[skips])).ss,dec,st⟩
      else J5 rec x p needs n0 dec st c cs Ga skips (rec (dec++[c]) s (st++[skips])).res (rec (dec++[c]) s (st++[skips])).ss:=rfl
theorem bu{s:SS}(hs:FD x roots s){n:Nd}(h:∀d,D1 x roots d (TT n)=some (Jo n)):FD x roots (Br s n).2∧(Br s n).1<(Br s n).2.drv.length∧((Br s n).2.full=false→DV (Br s n).2 (Br s n).1=Jo n)∧Grow s (Br s n).2:=by
 obtain⟨a1,a2,a3⟩:=KL hs (h s.drv);exact⟨a1,a2,a3,KM _ _ _⟩
theorem Wm.grown{ls:List (List Cd)}{s s' : SS}{o:Km}(hg:Grow s s')(h:Wm x roots ls dec s' st o):Wm x roots ls dec s st o:=⟨h.der,hg.trans h.grow,h.no,h.yes⟩
theorem Vj(hx:A6 x=0)(hr:Bx roots=0)(hd:ER x dec)(de:I9 roots dec)(hN:qa roots dec p needs)(h0:n0∈needs){lv:List Cd→List (List Cd)}(zM:∀c∈Cw x p,dL dec needs c=true→∀d∈lv (dec++[c]),Lf x roots (dec++[c]) d)
  (db:∀c∈Cw x p,dL dec needs c=true→∀s st,FD x roots s→s.full=false→Wm x roots (lv (dec++[c])) (dec++[c]) s st (rec (dec++[c]) s st)) :
  ∀(cs:List Cd) {s:SS} (L:List (Nat×Cd)) {skips:List Sk},L.map (·.2)++cs=Cw x p→FD x roots s→(∀y∈L,y.1<s.drv.length)→(s.full=false→(∀y∈L,CP (DV s y.1) (AO (dec++[y.2]))=true∧Dm (DV s y.1) p=true)∧Hd s dec p needs (L.map (·.2)) skips) →
   Wm x roots (((Cw x p).map fun c=>if dL dec needs c then lv (dec++[c])else []).flatten) dec s st (Ec rec x p needs n0 dec st cs s (L.map (·.1)) skips)
 | [],s,L,skips,hL,hs,DH,sD=>by
  rw[BS]at hL;obtain⟨l1,l2,l3,l4⟩:=du hx hr hd hN h0 L hL hs DH (fun hf=>(sD hf).1);exact⟨l1,l2,fun _=>⟨rfl,rfl,fun hf=>⟨l3,l4 hf⟩⟩,fun h=>(by cases h)⟩
 |c::cs,s,L,skips,hL,hs,DH,sD=>by
  rw[GB]
  by_cases hf:s.full=true
  ·rw[Au hf];exact⟨hs,.refl s,fun _=>⟨rfl,rfl,fun h=>by rw[show(⟨0,false,s,dec,st⟩:Km).ss=s from rfl,hf]at h;cases h⟩,fun h=>(by cases h)⟩
  rw[Al hf];have hf:s.full=false:=by simpa using hf
  obtain⟨sE,pi⟩:=sD hf;have hc:c∈Cw x p:=by rw[←hL];simp
  obtain⟨c1,c2⟩:=J6 hc;have hu:Du dec c.rel.path=false:=by rw[c1];exact hN.undone
  have hE:=hd.snoc c2 hu
  -- on to the next candidate
  have go:∀(s' : SS) (k:Nat) (Xe : List Sk),FD x roots s'→Grow s s'→k<s'.drv.length→(s'.full=false→(CP (DV s' k) (AO (dec++[c]))=true∧Dm (DV s' k) p=true)∧Hd s' dec p needs (L.map (·.2)++[c]) Xe) →
    Wm x roots (((Cw x p).map fun c=>if dL dec needs c then lv (dec++[c])else []).flatten) dec s st (Ec rec x p needs n0 dec st cs s' (L.map (·.1)++[k]) Xe):=fun s' k Xe Xo hg hk DM=>by
   have:=Vj hx hr hd de hN h0 zM db cs (s:=s') (L++[(k,c)]) (skips:=Xe) (by rw[AG,AN];exact hL) Xo
    (fun y hy=>by
     rcases Ba.1 hy with hy | hy
     ·exact BQ (DH y hy) hg.len
     ·rw[As.1 hy];exact hk)
    (fun fh=>by
     obtain⟨e1,e2⟩:=DM fh;refine⟨fun y hy=>?_,by rw[AG];exact e2⟩;rcases Ba.1 hy with hy | hy
     ·rw[hg.at (DH y hy)];exact sE y hy
     ·rw[As.1 hy];exact e1)
   rw[AG]at this;exact this.grown hg
  cases oY:needs.find? fun n=>!has n.rq.set c.place with
  |some n =>
   dsimp only;have fj:=Cu oY;have lD:=E0 oY;have lD:has n.rq.set c.place=false:=by simpa using lD
   obtain⟨hn3,hn4⟩:=(hN.mem n).1 fj;obtain⟨e1,e2,e3⟩:=PE hx hr hE (Ot hn3) ⟨c,by simp,by rw[c1,hn4],lD⟩;obtain⟨i1,i2,i3,i4⟩:=bu hs e1;refine go _ _ _ i1 i4 i2 fun fh=>?_;rw[i3 fh];exact⟨⟨e2,dB hx hr hd hN hc fj lD⟩,Hd.out (by
    intro h;rw[AS]at h;rw[h n fj]at lD;cases lD) (pi.mono i4)⟩
  |none =>
   dsimp only;have ZT:∀n∈needs,has n.rq.set c.place=true:=fun n hn=>by
    rw[D2]at oY;simpa using oY n hn
   have Fm:(needs.all fun n=>has n.rq.set c.place)=true:=by rw[AS];exact ZT
   have nQ:∀(s' : SS) (k:Nat),FD x roots s'→Grow s s'→k<s'.drv.length→(s'.full=false→CP (DV s' k) (AO (dec++[c]))=true) →
     Wm x roots (((Cw x p).map fun c=>if dL dec needs c then lv (dec++[c])else []).flatten) dec s st (J5 rec x p needs n0 dec st c cs (L.map (·.1)) skips k s'):=fun s' k Xo hg hk he=>by
    unfold J5;cases qj:Dm (DV s' k) p with
    |false =>
     rw[Au rfl];exact⟨Xo,hg,fun _=>⟨rfl,rfl,fun fh=>⟨hk,gn hx hd c2.1 (he fh) (by rw[c1];exact qj)⟩⟩,fun h=>(by cases h)⟩
    |true =>
     rw[Al (by decide)];exact go _ _ _ Xo hg hk fun fh=>⟨⟨he fh,qj⟩,Hd.add Fm ⟨hk,he fh⟩ (pi.mono hg)⟩
   cases hen:Pc s.drv (AO (dec++[c]))with
   |some k =>
    dsimp only;obtain⟨k1,k2⟩:=KR hen;exact nQ s k hs (.refl s) k1 fun _=>k2
   |none =>
    dsimp only;cases hcl:Ej dec c with
    |some n =>
     dsimp only;obtain⟨m1,m2⟩:=Ln hcl;obtain⟨e1,e2,e3⟩:=PE hx hr hE (Nj m1) m2;obtain⟨i1,i2,i3,i4⟩:=bu hs e1;exact nQ _ _ i1 i4 i2 fun fh=>by rw[i3 fh];exact e2
    |none =>
     dsimp only;have GR:dL dec needs c=true:=PK.2 ⟨ZT,hcl⟩;have hR:=db c hc GR s (st++[skips]) hs hf;generalize rec (dec++[c]) s (st++[skips])=o at hR
     by_cases gP:o.found=true
     ·rw[Au gP];obtain⟨y1,t,sl,y2,y3,y4,y5⟩:=hR.yes gP;refine⟨hR.der,hR.grow,fun h=>(by cases h),fun _=>⟨y1,c::t,skips::sl,by show o.dec=_;rw[y2];simp,by show o.stack=_;rw[y3];simp,⟨⟨p,needs,L.map (·.2),cs,hN,hL.symm,ZT,hcl,pi.mono hR.grow⟩,y4⟩,?_⟩⟩;show _=some o.dec;rw[←hL,AG,CU,AQ,BI];have wZ:((L.map (·.2)).map fun c=>if dL dec needs c then lv (dec++[c])else []).flatten=[]:=by
       rw[List.flatten_eq_nil_iff];intro l hl;obtain⟨d,lz,rfl⟩:=Ao.1 hl;obtain⟨y,hy,rfl⟩:=Ao.1 lz;split
       ·rename_i hoy;have hyc:y.2∈Cw x p:=by rw[←hL];exact Bz _ lz
        refine L0.2 fun d wJ=>ma hx hs (DH y hy) (sE y hy).1 (zM y.2 hyc hoy d wJ)
       ·rfl
      rw[wZ,Ep,Au GR,List.head?_append,y5];rfl
     ·rw[Al gP];have gP:o.found=false:=by simpa using gP
      obtain⟨n1,n2,n3⟩:=hR.no gP
      by_cases oZ:o.ss.full=true
      ·rw[Au oZ];exact⟨hR.der,hR.grow,fun _=>⟨rfl,rfl,fun h=>by rw[show(⟨0,false,o.ss,dec,st⟩:Km).ss=o.ss from rfl,oZ]at h;cases h⟩,fun h=>(by cases h)⟩
      ·rw[Al oZ];have oZ:o.ss.full=false:=by simpa using oZ
       exact nQ _ _ hR.der hR.grow (n3 oZ).1 fun _=>(n3 oZ).2
end
theorem Tx{x:List Rl}{dec:List Cd}{c:Cd}(h:c.rel∈x∧c.rel.yanked=false)(hu:Du dec c.rel.path=false):Rz x (dec++[c])<Rz x dec:=by
 have key:∀l:List Rl,(l.filter fun r=>!r.yanked&&!Du (dec++[c]) r.path).length≤(l.filter fun r=>!r.yanked&&!Du dec r.path).length ∧
   (c.rel∈l→(l.filter fun r=>!r.yanked&&!Du (dec++[c]) r.path).length<(l.filter fun r=>!r.yanked&&!Du dec r.path).length):=by
  intro l
  induction l with
  |nil=>exact⟨Am _,fun h=>(by cases h)⟩
  |cons r l ih =>
   have TM:(!r.yanked&&!Du (dec++[c]) r.path)=true→(!r.yanked&&!Du dec r.path)=true:=fun e=>by
    simp only[Ai,C3]at e⊢;refine⟨e.1,?_⟩
    have:=e.2
    unfold Du at this⊢;rw[HL,Bool.or_eq_false_iff]at this;exact this.1
   rw[D8,D8];refine⟨?_,fun hm=>?_⟩
   ·by_cases e:(!r.yanked&&!Du (dec++[c]) r.path)=true
    ·rw[Au e,Au (TM e)];simp;exact ih.1
    ·rw[Al e];split
     ·simp;have:=ih.1;omega
     ·exact ih.1
   ·rcases AC.1 hm with rfl | hm
    ·have e1:¬(!c.rel.yanked&&!Du (dec++[c]) c.rel.path)=true:=by
      have:Du (dec++[c]) c.rel.path=true:=by unfold Du;simp
      rw[this];simp
     have e2:(!c.rel.yanked&&!Du dec c.rel.path)=true:=by rw[h.2,hu];rfl
     rw[Al e1,Au e2];simp;have:=ih.1;omega
    ·have:=ih.2 hm
     by_cases e:(!r.yanked&&!Du (dec++[c]) r.path)=true
     ·rw[Au e,Au (TM e)];simp;exact this
     ·rw[Al e];split
      ·simp;omega
      ·exact this
 exact(key x).2 h.1
theorem QX{x:List Rl}{roots:List Rq}(hx:A6 x=0)(hr:Bx roots=0):∀(n:Nat) {dec:List Cd} {s:SS} {st:List (List Sk)},ER x dec→I9 roots dec→FD x roots s→s.full=false→Rz x dec<n →
  Wm x roots (Ok x roots n dec) dec s st (Do x roots n dec s st)
 |0,_,_,_,_,_,_,_,h=>by omega
 |n+1,dec,s,st,hd,de,hs,hf,hn=>by
  unfold Do Ok;cases e:(GW roots dec).2 with
  |nil =>
   exact⟨hs,.refl s,fun h=>(by cases h),fun _=>⟨hf,[],[],by simp,by simp,T9.1 e,rfl⟩⟩
  |cons n0 l =>
   have hN:=Ow e;have next:∀c∈Cw x (GW roots dec).1,dL dec (n0::l) c=true→ER x (dec++[c])∧I9 roots (dec++[c])∧Rz x (dec++[c])<n:=fun c hc GR=>by
    obtain⟨c1,c2⟩:=J6 hc;have hu:Du dec c.rel.path=false:=by rw[c1];exact hN.undone
    obtain⟨k1,k2⟩:=PK.1 GR;exact⟨hd.snoc c2 hu,de.snoc hN c1 k1 k2,by have:=Tx (dec:=dec) ⟨c2.1,c2.2.1⟩ hu;omega⟩
   exact Vj hx hr hd de hN (Ac ..) (lv:=Ok x roots n) (fun c hc GR d lz=>VM (next c hc GR).1 (next c hc GR).2.1 d lz)
    (fun c hc GR s st hs hf=>QX hx hr n (next c hc GR).1 (next c hc GR).2.1 hs hf (next c hc GR).2.2) _ [] rfl hs (fun y hy=>by cases hy) (fun _=>⟨fun y hy=>(by cases hy),rfl⟩)
theorem gy(x:List Rl)(dec:List Cd):Rz x dec≤x.length:=BE _ _
theorem eF{x:List Rl}{roots:List Rq}(hx:A6 x=0)(hr:Bx roots=0):Wm x roots (Ok x roots (x.length+1) []) [] uN [] (FZ x roots) :=
 QX hx hr _ (.nil x) (.nil roots) (.nil x roots) rfl (by have:=gy x [];omega)
section
variable {x:List Rl}{roots:List Rq}{p:ByteArray}{needs:List Nd}{n0:Nd}{dec:List Cd}{st:List (List Sk)}
end
section
variable {x:List Rl}{roots:List Rq}{d:List (List Tm)}{i:Nf}
end
end Go.Eng
