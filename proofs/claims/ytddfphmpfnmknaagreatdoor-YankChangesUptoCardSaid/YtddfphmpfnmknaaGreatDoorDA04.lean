/- Lemmas for the claims of this seat, without a condition: part 4 (Q7, Q8, P16, P17, P18, P19, P20, P21). -/
import Derived.Test.YtddfphmpfnmknaaGreatDoorDA03
import Derived.Lib.ItoaNum
import Derived.Lib.Join
namespace Go.Eng
def G7(s:SS)(b:List Cd)(p:ByteArray)(needs:List Nd):List Cd→List Sk→Prop
 | [],sk=>sk=[]
 |c::cs,sk=>if(needs.all fun n=>has n.rq.set c.place)=true then ∃(k:Nat) (rest:List Sk),sk=⟨p,c.place,k⟩::rest∧(k<s.drv.length∧CG (DP s k) (AO (b++[c]))=true)∧G7 s b p needs cs rest
  else G7 s b p needs cs sk
section
variable {s s' : SS}{b:List Cd}{p:ByteArray}{needs:List Nd}
theorem G7.out{c:Cd}(hc:¬(needs.all fun n=>has n.rq.set c.place)=true):∀{cs:List Cd} {sk:List Sk},G7 s b p needs cs sk→G7 s b p needs (cs++[c]) sk
 | [],sk,h=>by
  show(if _ then _ else _);rw[Aj hc];exact h
 |d::cs,sk,h=>by
  have h:if(needs.all fun n=>has n.rq.set d.place)=true then _ else _:=h
  show(if _ then _ else _)
  by_cases hd:(needs.all fun n=>has n.rq.set d.place)=true
  ·rw[Ap hd]at h⊢;obtain⟨k,rest,h1,h2,h3⟩:=h;exact⟨k,rest,h1,h2,G7.out hc h3⟩
  ·rw[Aj hd]at h⊢;exact G7.out hc h
theorem G7.add{c:Cd}(hc:(needs.all fun n=>has n.rq.set c.place)=true){k:Nat}(hk:k<s.drv.length∧CG (DP s k) (AO (b++[c]))=true):∀{cs:List Cd} {sk:List Sk},G7 s b p needs cs sk→G7 s b p needs (cs++[c]) (sk++[⟨p,c.place,k⟩])
 | [],sk,h=>by
  have h:sk=[]:=h;subst h;show(if _ then _ else _);rw[Ap hc];exact⟨k,[],rfl,hk,rfl⟩
 |d::cs,sk,h=>by
  have h:if(needs.all fun n=>has n.rq.set d.place)=true then _ else _:=h
  show(if _ then _ else _)
  by_cases hd:(needs.all fun n=>has n.rq.set d.place)=true
  ·rw[Ap hd]at h⊢;obtain⟨j,rest,rfl,h2,h3⟩:=h;exact⟨j,_,rfl,h2,G7.add hc hk h3⟩
  ·rw[Aj hd]at h⊢;exact G7.add hc hk h
theorem G7.mono(hg:Grow s s'):∀{cs:List Cd} {sk:List Sk},G7 s b p needs cs sk→G7 s' b p needs cs sk
 | [],_,h=>h
 |d::cs,sk,h=>by
  have h:if(needs.all fun n=>has n.rq.set d.place)=true then _ else _:=h
  show(if _ then _ else _)
  by_cases hd:(needs.all fun n=>has n.rq.set d.place)=true
  ·rw[Ap hd]at h⊢;obtain⟨j,rest,rfl,h2,h3⟩:=h;exact⟨j,rest,rfl,⟨BB h2.1 hg.len,by rw[hg.at h2.1];exact h2.2⟩,h3.mono hg⟩
  ·rw[Aj hd]at h⊢;exact h.mono hg
end
structure na(x:List Rl)(roots:List Rq)(s:SS)(b:List Cd)(c:Cd)(sk:List Sk)(p:ByteArray)(needs:List Nd)(pre post:List Cd):Prop where
 next:pM roots b p needs
 cands:Co x p=pre++c::post
 fit:∀n∈needs,has n.rq.set c.place=true
 noclash:Ek b c=none
 skips:G7 s b p needs pre sk
def Sp(x:List Rl)(roots:List Rq)(s:SS):List Cd→List Cd→List (List Sk)→Prop
 |b,[],[]=>KN (H2 roots b) (AO b)=none
 |b,c::t,sk::st=>(∃p needs pre post,na x roots s b c sk p needs pre post)∧Sp x roots s (b++[c]) t st
 |_,_,_=>False
structure Wh(x:List Rl)(roots:List Rq)(ls:List (List Cd))(dec:List Cd)(s:SS)(st:List (List Sk))(o:Kf):Prop where
 der:FC x roots o.ss
 grow:Grow s o.ss
 no:o.found=false→o.dec=dec∧o.stack=st∧(o.ss.full=false→o.res<o.ss.drv.length∧CG (DP o.ss o.res) (AO dec)=true)
 yes:o.found=true→o.ss.full=false∧∃t sl,o.dec=dec++t∧o.stack=st++sl∧Sp x roots o.ss dec t sl∧ls.head?=some o.dec
section
variable {rec:List Cd→SS→List (List Sk)→Kf}{x:List Rl}{roots:List Rq}{p:ByteArray}{needs:List Nd}{n0:Nd}{dec:List Cd}{st:List (List Sk)}
def JW(rec:List Cd→SS→List (List Sk)→Kf)(x:List Rl)(p:ByteArray)(needs:List Nd)(n0:Nd)(dec:List Cd)(st:List (List Sk))(c:Cd)(cs:List Cd)(F8:List Nat)(skips:List Sk)(k:Nat)(s:SS):Kf :=
 if De (DP s k) p=false then⟨k,false,s,dec,st⟩else D7 rec x p needs n0 dec st cs s (F8++[k]) (skips++[⟨p,c.place,k⟩])
theorem GD(c:Cd)(cs:List Cd)(s:SS)(F8:List Nat)(skips:List Sk):D7 rec x p needs n0 dec st (c::cs) s F8 skips =
  if s.full=true then⟨0,false,s,dec,st⟩
  else match needs.find? fun n=>!has n.rq.set c.place with
   |some n=>D7 rec x p needs n0 dec st cs (Bm s n).2 (F8++[(Bm s n).1]) skips
   |none=>match OJ s.drv (AO (dec++[c]))with
    |some k=>JW rec x p needs n0 dec st c cs F8 skips k s
    |none=>match Ek dec c with
     |some n=>JW rec x p needs n0 dec st c cs F8 skips (Bm s n).1 (Bm s n).2
     |none=>if(rec (dec++[c]) s (st++[skips])).found=true then⟨0,true,(rec (dec++[c]) s (st++[skips])).ss,(rec (dec++[c]) s (st++[skips])).dec,(rec (dec++[c]) s (st++[skips])).stack⟩
      else if(rec (dec++[c]) s (st++[skips])).ss.full=true then⟨0,false,(rec (dec++[c]) s (st++[skips])).ss,dec,st⟩
      else JW rec x p needs n0 dec st c cs F8 skips (rec (dec++[c]) s (st++[skips])).res (rec (dec++[c]) s (st++[skips])).ss:=rfl
theorem aT{s:SS}(hs:FC x roots s){n:Nd}(h:∀d,DW x roots d (TB n)=some (Jf n)):FC x roots (Bm s n).2∧(Bm s n).1<(Bm s n).2.drv.length∧((Bm s n).2.full=false→DP (Bm s n).2 (Bm s n).1=Jf n)∧Grow s (Bm s n).2:=by
 obtain⟨a1,a2,a3⟩:=Kz hs (h s.drv);exact⟨a1,a2,a3,KA _ _ _⟩
theorem Wh.grown{ls:List (List Cd)}{s s' : SS}{o:Kf}(hg:Grow s s')(h:Wh x roots ls dec s' st o):Wh x roots ls dec s st o:=⟨h.der,hg.trans h.grow,h.no,h.yes⟩
theorem U5(hx:AQ x=0)(hr:Bp roots=0)(hd:EN x dec)(cI:IZ roots dec)(hN:pM roots dec p needs)(h0:n0∈needs){lv:List Cd→List (List Cd)}(zN:∀c∈Co x p,dp dec needs c=true→∀d∈lv (dec++[c]),Lf x roots (dec++[c]) d)
  (cH:∀c∈Co x p,dp dec needs c=true→∀s st,FC x roots s→s.full=false→Wh x roots (lv (dec++[c])) (dec++[c]) s st (rec (dec++[c]) s st)) :
  ∀(cs:List Cd) {s:SS} (L:List (Nat×Cd)) {skips:List Sk},L.map (·.2)++cs=Co x p→FC x roots s→(∀y∈L,y.1<s.drv.length)→(s.full=false→(∀y∈L,CG (DP s y.1) (AO (dec++[y.2]))=true∧De (DP s y.1) p=true)∧G7 s dec p needs (L.map (·.2)) skips) →
   Wh x roots (((Co x p).map fun c=>if dp dec needs c then lv (dec++[c])else []).flatten) dec s st (D7 rec x p needs n0 dec st cs s (L.map (·.1)) skips)
 | [],s,L,skips,hL,hs,DB,sc=>by
  rw[BN]at hL;obtain⟨l1,l2,l3,l4⟩:=cU hx hr hd hN h0 L hL hs DB (fun hf=>(sc hf).1);exact⟨l1,l2,fun _=>⟨rfl,rfl,fun hf=>⟨l3,l4 hf⟩⟩,fun h=>(by cases h)⟩
 |c::cs,s,L,skips,hL,hs,DB,sc=>by
  rw[GD]
  by_cases hf:s.full=true
  ·rw[Ap hf];exact⟨hs,.refl s,fun _=>⟨rfl,rfl,fun h=>by rw[show(⟨0,false,s,dec,st⟩:Kf).ss=s from rfl,hf]at h;cases h⟩,fun h=>(by cases h)⟩
  rw[Aj hf];have hf:s.full=false:=by simpa using hf
  obtain⟨sd,oG⟩:=sc hf;have hc:c∈Co x p:=by rw[←hL];simp
  obtain⟨c1,c2⟩:=JX hc;have hu:Do dec c.rel.path=false:=by rw[c1];exact hN.undone
  have hE:=hd.snoc c2 hu
  -- on to the next candidate
  have go:∀(s' : SS) (k:Nat) (W8 : List Sk),FC x roots s'→Grow s s'→k<s'.drv.length→(s'.full=false→(CG (DP s' k) (AO (dec++[c]))=true∧De (DP s' k) p=true)∧G7 s' dec p needs (L.map (·.2)++[c]) W8) →
    Wh x roots (((Co x p).map fun c=>if dp dec needs c then lv (dec++[c])else []).flatten) dec s st (D7 rec x p needs n0 dec st cs s' (L.map (·.1)++[k]) W8):=fun s' k W8 Xl hg hk DF=>by
   have:=U5 hx hr hd cI hN h0 zN cH cs (s:=s') (L++[(k,c)]) (skips:=W8) (by rw[Ay,BM];exact hL) Xl
    (fun y hy=>by
     rcases A1.1 hy with hy | hy
     ·exact BB (DB y hy) hg.len
     ·rw[Aq.1 hy];exact hk)
    (fun d8=>by
     obtain⟨e1,e2⟩:=DF d8;refine⟨fun y hy=>?_,by rw[Ay];exact e2⟩;rcases A1.1 hy with hy | hy
     ·rw[hg.at (DB y hy)];exact sd y hy
     ·rw[Aq.1 hy];exact e1)
   rw[Ay]at this;exact this.grown hg
  cases om:needs.find? fun n=>!has n.rq.set c.place with
  |some n =>
   dsimp only;have ee:=Cn om;have kP:=E1 om;have kP:has n.rq.set c.place=false:=by simpa using kP
   obtain⟨hn3,hn4⟩:=(hN.mem n).1 ee;obtain⟨e1,e2,e3⟩:=Pj hx hr hE (N5 hn3) ⟨c,by simp,by rw[c1,hn4],kP⟩;obtain⟨i1,i2,i3,i4⟩:=aT hs e1;refine go _ _ _ i1 i4 i2 fun d8=>?_;rw[i3 d8];exact⟨⟨e2,da hx hr hd hN hc ee kP⟩,G7.out (by
    intro h;rw[AY]at h;rw[h n ee]at kP;cases kP) (oG.mono i4)⟩
  |none =>
   dsimp only;have ZE:∀n∈needs,has n.rq.set c.place=true:=fun n hn=>by
    rw[DC]at om;simpa using om n hn
   have F6:(needs.all fun n=>has n.rq.set c.place)=true:=by rw[AY];exact ZE
   have nf:∀(s' : SS) (k:Nat),FC x roots s'→Grow s s'→k<s'.drv.length→(s'.full=false→CG (DP s' k) (AO (dec++[c]))=true) →
     Wh x roots (((Co x p).map fun c=>if dp dec needs c then lv (dec++[c])else []).flatten) dec s st (JW rec x p needs n0 dec st c cs (L.map (·.1)) skips k s'):=fun s' k Xl hg hk he=>by
    unfold JW;cases pV:De (DP s' k) p with
    |false =>
     rw[Ap rfl];exact⟨Xl,hg,fun _=>⟨rfl,rfl,fun d8=>⟨hk,fJ hx hd c2.1 (he d8) (by rw[c1];exact pV)⟩⟩,fun h=>(by cases h)⟩
    |true =>
     rw[Aj (by decide)];exact go _ _ _ Xl hg hk fun d8=>⟨⟨he d8,pV⟩,G7.add F6 ⟨hk,he d8⟩ (oG.mono hg)⟩
   cases hen:OJ s.drv (AO (dec++[c]))with
   |some k =>
    dsimp only;obtain⟨k1,k2⟩:=KF hen;exact nf s k hs (.refl s) k1 fun _=>k2
   |none =>
    dsimp only;cases hcl:Ek dec c with
    |some n =>
     dsimp only;obtain⟨m1,m2⟩:=Lb hcl;obtain⟨e1,e2,e3⟩:=Pj hx hr hE (MV m1) m2;obtain⟨i1,i2,i3,i4⟩:=aT hs e1;exact nf _ _ i1 i4 i2 fun d8=>by rw[i3 d8];exact e2
    |none =>
     dsimp only;have GO:dp dec needs c=true:=Pp.2 ⟨ZE,hcl⟩;have hR:=cH c hc GO s (st++[skips]) hs hf;generalize rec (dec++[c]) s (st++[skips])=o at hR
     by_cases gA:o.found=true
     ·rw[Ap gA];obtain⟨y1,t,sl,y2,y3,y4,y5⟩:=hR.yes gA;refine⟨hR.der,hR.grow,fun h=>(by cases h),fun _=>⟨y1,c::t,skips::sl,by show o.dec=_;rw[y2];simp,by show o.stack=_;rw[y3];simp,⟨⟨p,needs,L.map (·.2),cs,hN,hL.symm,ZE,hcl,oG.mono hR.grow⟩,y4⟩,?_⟩⟩;show _=some o.dec;rw[←hL,Ay,CL,AP,BC];have w9:((L.map (·.2)).map fun c=>if dp dec needs c then lv (dec++[c])else []).flatten=[]:=by
       rw[List.flatten_eq_nil_iff];intro l hl;obtain⟨d,kL,rfl⟩:=Am.1 hl;obtain⟨y,hy,rfl⟩:=Am.1 kL;split
       ·rename_i hoy;have hyc:y.2∈Co x p:=by rw[←hL];exact Bn _ kL
        refine LJ.2 fun d wM=>lw hx hs (DB y hy) (sd y hy).1 (zN y.2 hyc hoy d wM)
       ·rfl
      rw[w9,FK,Ap GO,List.head?_append,y5];rfl
     ·rw[Aj gA];have gA:o.found=false:=by simpa using gA
      obtain⟨n1,n2,n3⟩:=hR.no gA
      by_cases oo:o.ss.full=true
      ·rw[Ap oo];exact⟨hR.der,hR.grow,fun _=>⟨rfl,rfl,fun h=>by rw[show(⟨0,false,o.ss,dec,st⟩:Kf).ss=o.ss from rfl,oo]at h;cases h⟩,fun h=>(by cases h)⟩
      ·rw[Aj oo];have oo:o.ss.full=false:=by simpa using oo
       exact nf _ _ hR.der hR.grow (n3 oo).1 fun _=>(n3 oo).2
end
theorem Ti{x:List Rl}{dec:List Cd}{c:Cd}(h:c.rel∈x∧c.rel.yanked=false)(hu:Do dec c.rel.path=false):Rd x (dec++[c])<Rd x dec:=by
 have key:∀l:List Rl,(l.filter fun r=>!r.yanked&&!Do (dec++[c]) r.path).length≤(l.filter fun r=>!r.yanked&&!Do dec r.path).length ∧
   (c.rel∈l→(l.filter fun r=>!r.yanked&&!Do (dec++[c]) r.path).length<(l.filter fun r=>!r.yanked&&!Do dec r.path).length):=by
  intro l
  induction l with
  |nil=>exact⟨Al _,fun h=>(by cases h)⟩
  |cons r l ih =>
   have gN:(!r.yanked&&!Do (dec++[c]) r.path)=true→(!r.yanked&&!Do dec r.path)=true:=fun e=>by
    simp only[Ah,CT]at e⊢;refine⟨e.1,?_⟩
    have:=e.2
    unfold Do at this⊢;rw[HE,Bool.or_eq_false_iff]at this;exact this.1
   rw[Ch,Ch];refine⟨?_,fun hm=>?_⟩
   ·by_cases e:(!r.yanked&&!Do (dec++[c]) r.path)=true
    ·rw[Ap e,Ap (gN e)];simp;exact ih.1
    ·rw[Aj e];split
     ·simp;have:=ih.1;omega
     ·exact ih.1
   ·rcases AA.1 hm with rfl | hm
    ·have e1:¬(!c.rel.yanked&&!Do (dec++[c]) c.rel.path)=true:=by
      have:Do (dec++[c]) c.rel.path=true:=by unfold Do;simp
      rw[this];simp
     have e2:(!c.rel.yanked&&!Do dec c.rel.path)=true:=by rw[h.2,hu];rfl
     rw[Aj e1,Ap e2];simp;have:=ih.1;omega
    ·have:=ih.2 hm
     by_cases e:(!r.yanked&&!Do (dec++[c]) r.path)=true
     ·rw[Ap e,Ap (gN e)];simp;exact this
     ·rw[Aj e];split
      ·simp;omega
      ·exact this
 exact(key x).2 h.1
theorem QD{x:List Rl}{roots:List Rq}(hx:AQ x=0)(hr:Bp roots=0):∀(n:Nat) {dec:List Cd} {s:SS} {st:List (List Sk)},EN x dec→IZ roots dec→FC x roots s→s.full=false→Rd x dec<n →
  Wh x roots (N1 x roots n dec) dec s st (Df x roots n dec s st)
 |0,_,_,_,_,_,_,_,h=>by omega
 |n+1,dec,s,st,hd,cI,hs,hf,hn=>by
  unfold Df N1;cases e:(GT roots dec).2 with
  |nil =>
   exact⟨hs,.refl s,fun h=>(by cases h),fun _=>⟨hf,[],[],by simp,by simp,TU.1 e,rfl⟩⟩
  |cons n0 l =>
   have hN:=N8 e;have next:∀c∈Co x (GT roots dec).1,dp dec (n0::l) c=true→EN x (dec++[c])∧IZ roots (dec++[c])∧Rd x (dec++[c])<n:=fun c hc GO=>by
    obtain⟨c1,c2⟩:=JX hc;have hu:Do dec c.rel.path=false:=by rw[c1];exact hN.undone
    obtain⟨k1,k2⟩:=Pp.1 GO;exact⟨hd.snoc c2 hu,cI.snoc hN c1 k1 k2,by have:=Ti (dec:=dec) ⟨c2.1,c2.2.1⟩ hu;omega⟩
   exact U5 hx hr hd cI hN (Ab ..) (lv:=N1 x roots n) (fun c hc GO d kL=>Vx (next c hc GO).1 (next c hc GO).2.1 d kL)
    (fun c hc GO s st hs hf=>QD hx hr n (next c hc GO).1 (next c hc GO).2.1 hs hf (next c hc GO).2.2) _ [] rfl hs (fun y hy=>by cases hy) (fun _=>⟨fun y hy=>(by cases hy),rfl⟩)
theorem fU(x:List Rl)(dec:List Cd):Rd x dec≤x.length:=Bv _ _
theorem dL{x:List Rl}{roots:List Rq}(hx:AQ x=0)(hr:Bp roots=0):Wh x roots (N1 x roots (x.length+1) []) [] uF [] (FW x roots) :=
 QD hx hr _ (.nil x) (.nil roots) (.nil x roots) rfl (by have:=fU x [];omega)
-- versions
theorem pQ{α:Type}{l:List α}{i:Nat}(d:α)(h:i<l.length):l[i]?=some (l.getD i d):=by
 rw[BX,Ax h];rfl
end Go.Eng
