/- Lemmas 3. -/
import Derived.Test.YteaiieomnhbmgaaGreatDoorAA02
import Derived.Lib.ItoaNum
import Derived.Lib.Join
namespace Go.Eng
variable {x:List Rl}{k:Int}(n:Nat)
theorem xu(h:AL x=0):x.length<=256:=by
 grind [AL]
theorem nC{l:List Rl}:(l.map fun r=>(plc r.ver,plc r.ver+1)).any (BS k)=true↔∃r∈l,plc r.ver=k:=by
 rw[Ce];constructor
 .grind [Ez]
 .rintro⟨r,hr,rfl⟩
  exact⟨_,Ay.2 ⟨r,hr,rfl⟩,Ez.2 ⟨Bs _,by omega⟩⟩
theorem Wh(hx:AL x=0){p:ByteArray}:has (B3 x p) k=true↔∃c∈Cp x p,c.place=k:=by
 unfold B3;rw[Hv];unfold has LF;rw[AA (fun h=>h hx)];simp only[At,Bj];rw[nC];constructor
 .rintro⟨_,r,hr,rfl⟩
  simp only[CY,Bj,FA]at hr;exact⟨⟨plc r.ver,r⟩,Ll.2 ⟨r,hr.1.1,hr.1.2,hr.2,rfl⟩,rfl⟩
 .rintro⟨c,hc,rfl⟩
  obtain⟨r,h1,h2,h3,rfl⟩:=Ll.1 hc;have GX:=(B7 hx).1 r h1
  have:=JO GX.val
  grind [KG.plc]
theorem ij(hx:AL x=0)(p:ByteArray):∃k:Int,0<=k/\k<1000000/\has (B3 x p) k=false:=by
 apply Aq;intro hn;have Gl:∀k∈(List.range 257).map fun i:Nat=>(i:Int),k∈x.map fun r=>plc r.ver:=by
  intro k hk;obtain⟨i,hi,rfl⟩:=Ay.1 hk;have hi:=G3.1 hi;have hh:has (B3 x p) (i:Int)=true:=by
   grind
  grind [Wh,Ll]
 have:=G9 (KE.2 (List.nodup_range.imp fun h e=>h (Int.ofNat.inj e))) Gl
 grind [xu]
theorem Ux(dec:List Cd)(c:Cd):AP (dec++[c])=MO (AP dec) c.rel.path c.rel.ver:=B0
theorem M5{t:List Tm}{S:List Sl}:CH t S=true↔A9 t S=true/\∀u∈t,CO S u.path=true:=by
 grind [CH]
section
variable {x:List Rl}{roots:List Rq}{dec:List Cd}{p:ByteArray}{needs:List Nd}
abbrev d7(p:ByteArray)(dec:List Cd):List ByteArray:=p::(AP dec).map (·.path)
theorem rK{c:Cd}{t:List Tm}(hf:Form t)(he:CH t (AP (dec++[c]))=true):Vz (d7 c.rel.path dec) t:=by
 refine⟨E8 hf,fun u hu=>?_⟩
 grind [M5,Hu]
theorem mR(hx:AL x=0)(hd:DH x dec){c:Cd}(hc:c.rel∈x){t:List Tm}(he:CH t (AP (dec++[c]))=true)(hn:DL t c.rel.path=false):CH t (AP dec)=true:=by
 obtain⟨h1,h2⟩:=M5.1 he;have Ef:=Kb hn;rw[Ux]at h1 h2;refine M5.2 ⟨?_,fun u hu=>?_⟩
 .rw[Lb (.self (hd.valid hx)) (.ver (hd.valid hx) ((B7 hx).1 _ hc).val) Ef];exact h1
 grind [Lx]
theorem kN(hx:AL x=0)(hd:DH x dec){c:Cd}(hc:c.rel∈x/\c.rel.yanked=false/\c.place=plc c.rel.ver)(hu:DT dec c.rel.path=false){t:List Tm}(hf:Form t)(he:CH t (AP (dec++[c]))=true)(hn:DL t c.rel.path=true) :
  cJ (AP dec) (d7 c.rel.path dec) c.rel.path t fun k=>k=c.place:=by
 have GX:=(B7 hx).1 _ hc.1;have hV:=hd.valid hx;have h1:=(M5.1 he).1;rw[Ux]at h1;refine⟨hf,rK hf he,hn,⟨_,.ver hV GX.val,h1⟩,fun k k0 k1 e=>?_⟩
 grind [fe,Gw,Fg,Ho,KG.val,KG.plc]
theorem PM(hx:AL x=0)(hr:A8 roots=0){E:List Cd}(hE:DH x E){n:Nd}(hn:n∈Dw roots E)(hv:∃d∈E,d.rel.path=n.rq.path/\has n.rq.set d.place=false) :
  (∀d,D0 x roots d (VJ n)=some (JE n))/\CH (JE n) (AP E)=true/\Form (JE n):=by
 obtain⟨d,hd,e,hs⟩:=hv;have GX:=(B7 hx).1 _ (hE.cand d hd).1;have hf:=hE.find hd;have hI:=SN hx hr hE hn (.inr ⟨VM d,by simp_all,by rw[show(VM d).ver=d.rel.ver from rfl,<-GX.plc,<-(hE.cand d hd).2.2];exact hs⟩);refine⟨hI.inf,M5.2 ⟨hI.viol,fun u hu=>?_⟩,hI.form⟩
 have:=(hI.inU ((AP E).map (·.path)) (fun h=>Hu.1 (hI.path h)) (Hu.1 (by grind [Ke]))).2 u hu
 exact Hu.2 this
theorem jZ(hx:AL x=0)(hr:A8 roots=0)(hd:DH x dec)(hN:fo roots dec p needs){c:Cd}(hc:c∈Cp x p){n:Nd}(hn:n∈needs)(hs:has n.rq.set c.place=false):DL (JE n) p=true:=by
 obtain⟨c1,c2⟩:=Ka hc;have hu:DT dec c.rel.path=false:=by grind [fo.undone]
 have hE:=hd.snoc c2 hu;obtain⟨qH,hn2⟩:=(hN.mem n).1 hn;have GX:=(B7 hx).1 _ c2.1;have hI:=SN hx hr hE (On qH) (.inr ⟨VM c,by grind [DH.find],by grind [KG.plc]⟩);cases zr:DL (JE n) p with
 |true=>rfl
 |false=>
  exfalso
  have Oe:n.rq.set≠[]/\EY n.rq.set:=by
   rcases MI qH with ⟨k,q,h1,rfl⟩ | ⟨c,hc,k,q,h1,rfl⟩
   .grind [Ln]
   .exact((B7 hx).1 _ (hd.cand c hc).1).set q (AG h1)
  obtain⟨k,hk⟩:=g8 Oe.1 Oe.2;have lz:=QN hk;have hV:=hd.valid hx;have o1:Vs (AP dec) p (MO (AP dec) p (ff k)):=.ver hV (Fg lz);have o2:Vs (AP dec) p (AP (dec++[c])):=by grind [Vs.ver,KG.val]
  have h1:=Lb o1 o2 (Kb zr);rw[hI.viol,hI.raw _ o1.val,Br]at h1
  have:=h1 (DE n.rq) (by grind [NA])
  grind [DE,Ju,Gw,UR,Ho]
theorem jP(hx:AL x=0)(hr:A8 roots=0)(hd:DH x dec)(hN:fo roots dec p needs){n0:Nd}(h0:n0∈needs)(L:List (Nat×Cd))(hL:L.map (·.2)=Cp x p){s:SS}(hs:EZ x roots s)(EU:∀y∈L,y.1<s.drv.length)
  (hre:s.full=false->∀y∈L,CH (EP s y.1) (AP (dec++[y.2]))=true/\DL (EP s y.1) p=true) :
  EZ x roots (Ea x p n0 (L.map (·.1)) s).2/\Grow s (Ea x p n0 (L.map (·.1)) s).2/\(Ea x p n0 (L.map (·.1)) s).1<(Ea x p n0 (L.map (·.1)) s).2.drv.length /\
  ((Ea x p n0 (L.map (·.1)) s).2.full=false->CH (EP (Ea x p n0 (L.map (·.1)) s).2 (Ea x p n0 (L.map (·.1)) s).1) (AP dec)=true):=by
 have hV:=hd.valid hx;have hpD:CO (AP dec) p=false:=by rw[Gw];exact hN.undone
 obtain⟨hm0,hp0⟩:=(hN.mem n0).1 h0;have hI:=SN hx hr hd hm0 (.inl (by grind [HW]));unfold Ea;obtain⟨a1,a2,a3⟩:=KH hs (hI.inf s.drv);have ag:=KI s (VJ n0) (JE n0);have a3:(Bx s n0).2.full=false->EP (Bx s n0).2 (Bx s n0).1=JE n0:=a3
 change EZ x roots (Bx s n0).2 at a1
 change (Bx s n0).1<(Bx s n0).2.drv.length at a2
 change Grow s (Bx s n0).2 at ag
 generalize Bx s n0=s1 at *
 -- the incompatibility of the places that are not available
 obtain⟨u,u0,u1,hu⟩:=ij hx p;have nO:∀k:Int,0<=k->k<1000000->has (B3 x p) k=false->A9 [(⟨p,false,Fc (B3 x p)⟩:Tm)] (MO (AP dec) p (ff k))=true:=fun k k0 k1 hk=>by
  grind [Br,Dg,Ju,Fg,Ho,Gg,SB]
 have uZ:A9 [(⟨p,false,Fc (B3 x p)⟩:Tm)] (AP dec)=false:=by
  rw[BY];intro h
  have:=Br.1 h _ (Ah ..)
  rw[show(⟨p,false,Fc (B3 x p)⟩:Tm).path=p from rfl,HW hpD]at this;cases this
 have ou:Vs (AP dec) p (MO (AP dec) p (ff u)):=.ver hV (Fg ⟨u0,u1⟩);have Ef:Ie p (B3 x p)≠[]:=by
  have c1:=Dj (l:=[(⟨p,false,Fc (B3 x p)⟩:Tm)]) ou.val;have c2:=Dj (l:=[(⟨p,false,Fc (B3 x p)⟩:Tm)]) hV;rw[nO u u0 u1 hu]at c1;rw[uZ]at c2;unfold Ie QZ;cases hc:C3 [(⟨p,false,Fc (B3 x p)⟩:Tm)]with
  |none=>grind
  |some c=>
   rw[hc]at c2;intro e;have e:c=[]:=e;rw[e]at c2;cases c2
 have RP:∀S,Gk S->A9 (Ie p (B3 x p)) S=A9 [(⟨p,false,Fc (B3 x p)⟩:Tm)] S:=fun S v=>Q0 v Ef;have AaM:DL (Ie p (B3 x p)) p=true:=by
  cases h:DL (Ie p (B3 x p)) p with
  |true=>rfl
  |false=>
   have:=Lb ou (.self hV) (Kb h)
   rw[RP _ ou.val,RP _ hV,nO u u0 u1 hu,uZ]at this;simp_all
 have wY:D0 x roots s1.2.drv ⟨2,p,0,0,0,0⟩=some (Ie p (B3 x p)):=by
  unfold D0;rw[AA (show ¬((2:Int)=0) by decide),AA (show ¬((2:Int)=1) by decide),Ax rfl,Ax ⟨rfl,rfl,rfl,rfl⟩];unfold jY;simp_all
 obtain⟨b1,b2,b3⟩:=KH a1 wY;have bg:=KI s1.2 ⟨2,p,0,0,0,0⟩ (Ie p (B3 x p));have b3:(EK x p s1.2).2.full=false->EP (EK x p s1.2).2 (EK x p s1.2).1=Ie p (B3 x p):=b3
 change EZ x roots (EK x p s1.2).2 at b1
 change (EK x p s1.2).1<(EK x p s1.2).2.drv.length at b2
 change Grow s1.2 (EK x p s1.2).2 at bg
 generalize EK x p s1.2=s2 at *
 have AaB:s2.2.full=false->s1.2.full=false/\s.full=false:=fun h=>by
  have h1:s1.2.full=false:=by
   cases e:s1.2.full with
   |false=>rfl
   |true=>rw[bg.full e]at h;cases h
  refine⟨h1,?_⟩;cases e:s.full with
  |false=>rfl
  |true=>rw[ag.full e]at h1;cases h1
 have main:=Oj (D:=AP dec) (U:=d7 p dec) (p:=p) hV ((s2.1,fun k=>has (B3 x p) k=false)::L.map fun y=>(y.1,fun k=>k=y.2.place)) (C:=fun k=>has n0.rq.set k=false) b1 (Bm a2 bg.len)
  (fun y hy=>by
   rcases AZ.1 hy with rfl | hy
   .exact b2
   .obtain⟨z,hz,rfl⟩:=Ay.1 hy;exact Bm (EU z hz) (ag.trans bg).len) (fun hf=>by
   obtain⟨f1,f0⟩:=AaB hf;refine⟨?_,fun y hy=>?_⟩
   .rw[bg.at a2,a3 f1];refine⟨hI.form,hI.inU _ (fun h=>Am _ (Hu.1 (hI.path h))) B0,hI.viol,fun k k0 k1 hk=>?_⟩;have ok:Vs (AP dec) p (MO (AP dec) p (ff k)):=.ver hV (Fg ⟨k0,k1⟩);rw[hI.raw _ ok.val,Br];intro t ht;have Yr:=Br.1 ((hI.raw _ hV).symm.trans hI.viol) t ht;unfold NA at ht;have xa:Dg (DE n0.rq) (BE (MO (AP dec) p (ff k)) (DE n0.rq).path)=true:=by
     rw[show(DE n0.rq).path=p from hp0,Ju hpD];exact Sd (.inr ⟨_,rfl,Fg ⟨k0,k1⟩,by rw[show(⟨p,ff k⟩:Sl).ver=ff k from rfl,Ho];exact hk⟩)
    split at ht
    .simp_all
    .rename_i hm;rcases AZ.1 ht with rfl | ht
     .have Ef:n0.path≠p:=fun e=>by
       have:=hI.path hm
       simp_all
      rw[show(⟨n0.path,false,[(n0.place,n0.place+1)]⟩:Tm).path=n0.path from rfl]at Yr⊢;rw[ok.same _ Ef];omega
     simp_all
   .rcases AZ.1 hy with rfl | hy
    .show cJ _ _ p (EP s2.2 s2.1) _;rw[b3 hf];refine⟨MN _,UP (fun t ht=>by simp_all),AaM,⟨_,ou,by rw[RP _ ou.val];simp_all⟩,fun k k0 k1 hk=>?_⟩;rw[RP _ (Vs.ver hV (Fg ⟨k0,k1⟩)).val];simp_all
    .obtain⟨z,hz,rfl⟩:=Ay.1 hy;show cJ _ _ p (EP s2.2 z.1) _;rw[(ag.trans bg).at (EU z hz)];obtain⟨e1,e2⟩:=hre f0 z hz;have hzc:z.2∈Cp x p:=aa0
     obtain⟨c1,c2⟩:=Ka hzc
     have:=kN hx hd c2 (by rw[c1];exact hN.undone) (hs.forms z.1) e1 B0
     simp_all)
 have AfH:((s2.1,fun k=>has (B3 x p) k=false)::L.map fun y=>(y.1,fun k=>k=y.2.place)).map (·.1)=s2.1::L.map (·.1):=by
  simp_all
 rw[AfH]at main;obtain⟨m1,m2,m3,m4⟩:=main;refine⟨m1,(ag.trans bg).trans m2,m3,fun hf=>?_⟩;obtain⟨C',q1,q2⟩:=m4 hf;have hnc:DL (EP (Cg p (s2.1::L.map (·.1)) s1.1 s2.2).2 (Cg p (s2.1::L.map (·.1)) s1.1 s2.2).1) p=false:=by
  rcases q2 with q2 | q2
  .exact q2
  .refine oL hpD q1.form q1.none_ fun k k0 k1=>q1.cov k k0 k1 (q2 k ?_);cases hn0:has n0.rq.set k with
   |false=>simp_all
   |true=>
    cases ha:has (B3 x p) k with
    |false=>simp_all
    |true=>
     obtain⟨c,hc,e⟩:=(Wh hx).1 ha;rw[<-hL]at hc;obtain⟨z,hz,rfl⟩:=Ay.1 hc;exact .inr ⟨_,Am _ (Ay.2 ⟨z,hz,rfl⟩),e.symm⟩
 refine M5.2 ⟨q1.none_,fun t ht=>?_⟩
 have:=q1.inU.2 t ht
 rcases AZ.1 this with e | h
 .exact absurd e (Kb hnc t ht)
 .exact Hu.2 h
end
def GG(s:SS)(b:List Cd)(p:ByteArray)(needs:List Nd):List Cd->List Sk->Prop
 | [],sk=>sk=[]
 |c::cs,sk=>if(needs.all fun n=>has n.rq.set c.place)=true then ∃(k:Nat) (rest:List Sk),sk=⟨p,c.place,k⟩::rest/\(k<s.drv.length/\CH (EP s k) (AP (b++[c]))=true)/\GG s b p needs cs rest
  else GG s b p needs cs sk
section
variable {s s' : SS}{b:List Cd}{p:ByteArray}{needs:List Nd}
theorem GG.out{c:Cd}(hc:¬(needs.all fun n=>has n.rq.set c.place)=true):∀{cs:List Cd} {sk:List Sk},GG s b p needs cs sk->GG s b p needs (cs++[c]) sk
 | [],sk,h=>by
  show(if _ then _ else _)
  grind
 |d::cs,sk,h=>by
  have h:if(needs.all fun n=>has n.rq.set d.place)=true then _ else _:=h
  show(if _ then _ else _)
  by_cases hd:(needs.all fun n=>has n.rq.set d.place)=true
  .rw[Ax hd]at h⊢;obtain⟨k,rest,h1,h2,h3⟩:=h;exact⟨k,rest,h1,h2,GG.out hc h3⟩
  .rw[AA hd]at h⊢;exact GG.out hc h
theorem GG.add{c:Cd}(hc:(needs.all fun n=>has n.rq.set c.place)=true){k:Nat}(hk:k<s.drv.length/\CH (EP s k) (AP (b++[c]))=true):∀{cs:List Cd} {sk:List Sk},GG s b p needs cs sk->GG s b p needs (cs++[c]) (sk++[⟨p,c.place,k⟩])
 | [],sk,h=>by
  have h:sk=[]:=h;subst h;show(if _ then _ else _);rw[Ax hc];exact⟨k,[],rfl,hk,rfl⟩
 |d::cs,sk,h=>by
  have h:if(needs.all fun n=>has n.rq.set d.place)=true then _ else _:=h
  show(if _ then _ else _)
  by_cases hd:(needs.all fun n=>has n.rq.set d.place)=true
  .rw[Ax hd]at h⊢;obtain⟨j,rest,rfl,h2,h3⟩:=h;exact⟨j,_,rfl,h2,GG.add hc hk h3⟩
  .rw[AA hd]at h⊢;exact GG.add hc hk h
theorem GG.mono(hg:Grow s s'):∀{cs:List Cd} {sk:List Sk},GG s b p needs cs sk->GG s' b p needs cs sk
 | [],_,h=>h
 |d::cs,sk,h=>by
  have h:if(needs.all fun n=>has n.rq.set d.place)=true then _ else _:=h
  show(if _ then _ else _)
  by_cases hd:(needs.all fun n=>has n.rq.set d.place)=true
  .rw[Ax hd]at h⊢;obtain⟨j,rest,rfl,h2,h3⟩:=h;exact⟨j,rest,rfl,⟨Bm h2.1 hg.len,by grind [Grow.at]⟩,h3.mono hg⟩
  .rw[AA hd]at h⊢;exact h.mono hg
end
structure vL(x:List Rl)(roots:List Rq)(s:SS)(b:List Cd)(c:Cd)(sk:List Sk)(p:ByteArray)(needs:List Nd)(pre post:List Cd):Prop where
 next:fo roots b p needs
 cands:Cp x p=pre++c::post
 fit:∀n∈needs,has n.rq.set c.place=true
 noclash:Ek b c=none
 skips:GG s b p needs pre sk
def Tc(x:List Rl)(roots:List Rq)(s:SS):List Cd->List Cd->List (List Sk)->Prop
 |b,[],[]=>L1 (Kn roots b) (AP b)=none
 |b,c::t,sk::st=>(∃p needs pre post,vL x roots s b c sk p needs pre post)/\Tc x roots s (b++[c]) t st
 |_,_,_=>False
structure N3(x:List Rl)(roots:List Rq)(ls:List (List Cd))(dec:List Cd)(s:SS)(st:List (List Sk))(o:Ld):Prop where
 der:EZ x roots o.ss
 grow:Grow s o.ss
 no:o.found=false->o.dec=dec/\o.stack=st/\(o.ss.full=false->o.res<o.ss.drv.length/\CH (EP o.ss o.res) (AP dec)=true)
 yes:o.found=true->o.ss.full=false/\∃t sl,o.dec=dec++t/\o.stack=st++sl/\Tc x roots o.ss dec t sl/\ls.head?=some o.dec
section
variable {rec:List Cd->SS->List (List Sk)->Ld}{x:List Rl}{roots:List Rq}{p:ByteArray}{needs:List Nd}{n0:Nd}{dec:List Cd}{st:List (List Sk)}
def J9(rec:List Cd->SS->List (List Sk)->Ld)(x:List Rl)(p:ByteArray)(needs:List Nd)(n0:Nd)(dec:List Cd)(st:List (List Sk))(c:Cd)(cs:List Cd)(FX:List Nat)(skips:List Sk)(k:Nat)(s:SS):Ld:=
 if DL (EP s k) p=false then⟨k,false,s,dec,st⟩else Ew rec x p needs n0 dec st cs s (FX++[k]) (skips++[⟨p,c.place,k⟩])
theorem Gv(c:Cd)(cs:List Cd)(s:SS)(FX:List Nat)(skips:List Sk):Ew rec x p needs n0 dec st (c::cs) s FX skips =
  if s.full=true then⟨0,false,s,dec,st⟩
  else match needs.find? fun n=>!has n.rq.set c.place with
   |some n=>Ew rec x p needs n0 dec st cs (Bx s n).2 (FX++[(Bx s n).1]) skips
   |none=>match Ph s.drv (AP (dec++[c]))with
    |some k=>J9 rec x p needs n0 dec st c cs FX skips k s
    |none=>match Ek dec c with
     |some n=>J9 rec x p needs n0 dec st c cs FX skips (Bx s n).1 (Bx s n).2
     |none=>if(rec (dec++[c]) s (st++[skips])).found=true then⟨0,true,(rec (dec++[c]) s (st++[skips])).ss,(rec (dec++[c]) s (st++[skips])).dec,(rec (dec++[c]) s (st++[skips])).stack⟩
      else if(rec (dec++[c]) s (st++[skips])).ss.full=true then⟨0,false,(rec (dec++[c]) s (st++[skips])).ss,dec,st⟩
      else J9 rec x p needs n0 dec st c cs FX skips (rec (dec++[c]) s (st++[skips])).res (rec (dec++[c]) s (st++[skips])).ss:=rfl
theorem gq{s:SS}(hs:EZ x roots s){n:Nd}(h:∀d,D0 x roots d (VJ n)=some (JE n)):EZ x roots (Bx s n).2/\(Bx s n).1<(Bx s n).2.drv.length/\((Bx s n).2.full=false->EP (Bx s n).2 (Bx s n).1=JE n)/\Grow s (Bx s n).2:=by
 obtain⟨a1,a2,a3⟩:=KH hs (h s.drv);exact⟨a1,a2,a3,KI _ _ _⟩
theorem N3.grown{ls:List (List Cd)}{s s' : SS}{o:Ld}(hg:Grow s s')(h:N3 x roots ls dec s' st o):N3 x roots ls dec s st o:=⟨h.der,hg.trans h.grow,h.no,h.yes⟩
theorem Wn(hx:AL x=0)(hr:A8 roots=0)(hd:DH x dec)(jE:ID roots dec)(hN:fo roots dec p needs)(h0:n0∈needs){lv:List Cd->List (List Cd)}(hlv:∀c∈Cp x p,kk dec needs c=true->∀d∈lv (dec++[c]),Lf x roots (dec++[c]) d)
  (nP:∀c∈Cp x p,kk dec needs c=true->∀s st,EZ x roots s->s.full=false->N3 x roots (lv (dec++[c])) (dec++[c]) s st (rec (dec++[c]) s st)) :
  ∀(cs:List Cd) {s:SS} (L:List (Nat×Cd)) {skips:List Sk},L.map (·.2)++cs=Cp x p->EZ x roots s->(∀y∈L,y.1<s.drv.length)->(s.full=false->(∀y∈L,CH (EP s y.1) (AP (dec++[y.2]))=true/\DL (EP s y.1) p=true)/\GG s dec p needs (L.map (·.2)) skips) ->
   N3 x roots (((Cp x p).map fun c=>if kk dec needs c then lv (dec++[c])else []).flatten) dec s st (Ew rec x p needs n0 dec st cs s (L.map (·.1)) skips)
 | [],s,L,skips,hL,hs,EU,hre=>by
  rw[Bg]at hL;obtain⟨l1,l2,l3,l4⟩:=jP hx hr hd hN h0 L hL hs EU (fun hf=>(hre hf).1);exact⟨l1,l2,fun _=>⟨rfl,rfl,fun hf=>⟨l3,l4 hf⟩⟩,fun h=>(by cases h)⟩
 |c::cs,s,L,skips,hL,hs,EU,hre=>by
  rw[Gv]
  by_cases hf:s.full=true
  .grind [N3.mk,Grow.refl]
  rw[AA hf];have hf:s.full=false:=B0
  obtain⟨AfS,AfT⟩:=hre hf;have hc:c∈Cp x p:=aa0
  obtain⟨c1,c2⟩:=Ka hc;have hu:DT dec c.rel.path=false:=by grind [fo.undone]
  have hE:=hd.snoc c2 hu
  -- on to the next candidate
  have go:∀(s' : SS) (k:Nat) (YX : List Sk),EZ x roots s'->Grow s s'->k<s'.drv.length->(s'.full=false->(CH (EP s' k) (AP (dec++[c]))=true/\DL (EP s' k) p=true)/\GG s' dec p needs (L.map (·.2)++[c]) YX) ->
    N3 x roots (((Cp x p).map fun c=>if kk dec needs c then lv (dec++[c])else []).flatten) dec s st (Ew rec x p needs n0 dec st cs s' (L.map (·.1)++[k]) YX):=fun s' k YX jD hg hk Ef=>by
   have:=Wn hx hr hd jE hN h0 hlv nP cs (s:=s') (L++[(k,c)]) (skips:=YX) B0 jD
    (fun y hy=>by
     rcases Bh.1 hy with hy | hy
     .exact Bm (EU y hy) hg.len
     simp_all)
    (fun hf'=>by
     grind [Grow.at])
   grind [N3.grown]
  cases hfd:needs.find? fun n=>!has n.rq.set c.place with
  |some n=>
   dsimp only;have qH:=AX hfd;have hn2:=DA hfd;have hn2:has n.rq.set c.place=false:=B0
   obtain⟨hn3,hn4⟩:=(hN.mem n).1 qH;obtain⟨e1,e2,e3⟩:=PM hx hr hE (On hn3) ⟨c,by simp,by rw[c1,hn4],hn2⟩<;>grind [gq,jZ,GG.out,GG.mono]
  |none=>
   dsimp only;have sf:∀n∈needs,has n.rq.set c.place=true:=fun n hn=>by
    simp_all
   have Gl:(needs.all fun n=>has n.rq.set c.place)=true:=B0
   have aft:∀(s' : SS) (k:Nat),EZ x roots s'->Grow s s'->k<s'.drv.length->(s'.full=false->CH (EP s' k) (AP (dec++[c]))=true) ->
     N3 x roots (((Cp x p).map fun c=>if kk dec needs c then lv (dec++[c])else []).flatten) dec s st (J9 rec x p needs n0 dec st c cs (L.map (·.1)) skips k s'):=fun s' k jD hg hk he=>by
    unfold J9;cases zr:DL (EP s' k) p with
    |false=>
     rw[Ax rfl];exact⟨jD,hg,fun _=>⟨rfl,rfl,fun hf'=>⟨hk,mR hx hd c2.1 (he hf') B0⟩⟩,fun h=>(by cases h)⟩
    |true=>
     grind [GG.add,GG.mono]
   cases hen:Ph s.drv (AP (dec++[c]))with
   |some k=>
    grind [KN,Grow.refl]
   |none=>
    dsimp only;cases hcl:Ek dec c with
    |some n=>
     dsimp only;obtain⟨m1,m2⟩:=Lo hcl;obtain⟨e1,e2,e3⟩:=PM hx hr hE (Nj m1) m2<;>grind [gq]
    |none=>
     dsimp only;have GX:kk dec needs c=true:=PU.2 ⟨sf,hcl⟩;have hR:=nP c hc GX s (st++[skips]) hs hf;generalize rec (dec++[c]) s (st++[skips])=o at hR
     by_cases wV:o.found=true
     .rw[Ax wV];obtain⟨y1,t,sl,y2,y3,y4,y5⟩:=hR.yes wV;refine⟨hR.der,hR.grow,fun h=>(by cases h),fun _=>⟨y1,c::t,skips::sl,by simp_all,by simp_all,⟨⟨p,needs,L.map (·.2),cs,hN,hL.symm,sf,hcl,AfT.mono hR.grow⟩,y4⟩,?_⟩⟩;show _=some o.dec;rw[<-hL,Ar,Ci,Bq,BZ];have Akw:((L.map (·.2)).map fun c=>if kk dec needs c then lv (dec++[c])else []).flatten=[]:=by
       rw[List.flatten_eq_nil_iff];intro l hl;obtain⟨d,zu,rfl⟩:=Ay.1 hl;obtain⟨y,hy,rfl⟩:=Ay.1 zu;split
       .rename_i hoy;have hyc:y.2∈Cp x p:=aa0
        refine L6.2 fun d Afs=>sY hx hs (EU y hy) (AfS y hy).1 (hlv y.2 hyc hoy d Afs)
       .rfl
      grind
     grind [N3.no,N3.mk,N3.der,N3.grow]
end
theorem Ua{dec:List Cd}{c:Cd}(h:c.rel∈x/\c.rel.yanked=false)(hu:DT dec c.rel.path=false):RO x (dec++[c])<RO x dec:=by
 have key:∀l:List Rl,(l.filter fun r=>!r.yanked&&!DT (dec++[c]) r.path).length<=(l.filter fun r=>!r.yanked&&!DT dec r.path).length /\
   (c.rel∈l->(l.filter fun r=>!r.yanked&&!DT (dec++[c]) r.path).length<(l.filter fun r=>!r.yanked&&!DT dec r.path).length):=by
  intro l
  induction l<;>grind [DT]
 exact(key x).2 h.1
theorem Rr{x:List Rl}{roots:List Rq}(hx:AL x=0)(hr:A8 roots=0):∀(n:Nat) {dec:List Cd} {s:SS} {st:List (List Sk)},DH x dec->ID roots dec->EZ x roots s->s.full=false->RO x dec<n ->
  N3 x roots (MF x roots n dec) dec s st (Dc x roots n dec s st)
 |0,_,_,_,_,_,_,_,h=>by omega
 |n+1,dec,s,st,hd,jE,hs,hf,hn=>by
  unfold Dc MF;cases e:(GS roots dec).2 with
  |nil=>
   exact⟨hs,.refl s,fun h=>(by cases h),fun _=>⟨hf,[],[],by simp,by simp,UH.1 e,rfl⟩⟩
  |cons n0 l=>
   have hN:=Ot e;have next:∀c∈Cp x (GS roots dec).1,kk dec (n0::l) c=true->DH x (dec++[c])/\ID roots (dec++[c])/\RO x (dec++[c])<n:=fun c hc GX=>by
    obtain⟨c1,c2⟩:=Ka hc;have hu:DT dec c.rel.path=false:=by grind [fo.undone]
    obtain⟨k1,k2⟩:=PU.1 GX;exact⟨hd.snoc c2 hu,jE.snoc hN c1 k1 k2,by have:=Ua (dec:=dec) ⟨c2.1,c2.2.1⟩ hu;omega⟩
   exact Wn hx hr hd jE hN (Ah ..) (lv:=MF x roots n) (fun c hc GX d zu=>QS (next c hc GX).1 (next c hc GX).2.1 d zu)
    (fun c hc GX s st hs hf=>Rr hx hr n (next c hc GX).1 (next c hc GX).2.1 hs hf (next c hc GX).2.2) _ [] rfl hs (fun y hy=>by cases hy) (fun _=>⟨fun y hy=>(by cases hy),rfl⟩)
theorem m5(x:List Rl)(dec:List Cd):RO x dec<=x.length:=Em _ _
theorem Xo{roots:List Rq}(hx:AL x=0)(hr:A8 roots=0):N3 x roots (MF x roots (x.length+1) []) [] ss0 [] (EW x roots):=
 Rr hx hr _ (.nil x) (.nil roots) (.nil x roots) rfl (by grind [m5])
abbrev vf(l:List UInt8):ByteArray:=⟨l.toArray⟩
def ZQ:ByteArray:=vf (Go.Lib.decDigits n)
def Qt(n:Int):ByteArray:=vf (Go.Lib.itoa n)
theorem vV(a b:List UInt8):vf a++vf b=vf (a++b):=zX Cl
theorem TO{n:Nat}(h:n<10):ZQ n=vf [UInt8.ofNat (48+n)]:=by
 grind [ZQ,Go.Lib.decDigits]
theorem mH{n:Nat}(h:¬n<10):ZQ n=ZQ (n / 10)++vf [UInt8.ofNat (48+n % 10)]:=by
 grind [ZQ,vV,Go.Lib.decDigits]
theorem sC:Qt n=ZQ n:=by grind [Qt,ZQ,Go.Lib.itoa]
theorem Yz{n:Int}(h:0<=n):Qt n=ZQ n.toNat:=by
 grind [sC]
-- versions
theorem zk{α:Type}{l:List α}{i:Nat}(d:α)(h:i<l.length):l[i]?=some (l.getD i d):=by
 simp_all
end Go.Eng
