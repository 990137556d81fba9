/- Lemmas 3. -/
import Derived.Test.YteaiieomnhbmgaaGreatDoorBA02
import Derived.Lib.ItoaNum
import Derived.Lib.Join
namespace Go.Eng
variable {x:List Rl}{s:SS}{k:Int}
theorem xd(h:AC x=0):x.length<=256:=by
 grind [AC]
theorem ns{l:List Rl}:(l.map fun r=>(plc r.ver,plc r.ver+1)).any (BX k)=true↔∃r∈l,plc r.ver=k:=by
 rw[BC];constructor
 .grind [Eo]
 .rintro⟨r,hr,rfl⟩
  exact⟨_,Ax.2 ⟨r,hr,rfl⟩,Eo.2 ⟨Bv _,by omega⟩⟩
theorem WG(hx:AC x=0){p:ByteArray}:has (B6 x p) k=true↔∃c∈Bx x p,c.place=k:=by
 unfold B6;rw[Ht];unfold has LR;rw[Az (fun h=>h hx)];simp only[Am,Bd];rw[ns];constructor
 .rintro⟨_,r,hr,rfl⟩
  simp only[Dm,Bd,EO]at hr;exact⟨⟨plc r.ver,r⟩,He.2 ⟨r,hr.1.1,hr.1.2,hr.2,rfl⟩,rfl⟩
 .rintro⟨c,hc,rfl⟩
  obtain⟨r,h1,h2,h3,rfl⟩:=He.1 hc;have GG:=(B3 hx).1 r h1
  have:=JZ GG.val
  grind [KH.plc]
theorem iB(hx:AC x=0)(p:ByteArray):∃k:Int,0<=k/\k<1000000/\has (B6 x p) k=false:=by
 apply Aq;intro hn;have Gd:∀k∈(List.range 257).map fun i:Nat=>(i:Int),k∈x.map fun r=>plc r.ver:=by
  intro k hk;obtain⟨i,hi,rfl⟩:=Ax.1 hk;have hi:=KX.1 hi;have hh:has (B6 x p) (i:Int)=true:=by
   grind
  grind [WG,He]
 have:=IB (RL.2 (List.nodup_range.imp fun h e=>h (Int.ofNat.inj e))) Gd
 grind [xd]
theorem UM(dec:List Cd)(c:Cd):Aw (dec++[c])=M3 (Aw dec) c.rel.path c.rel.ver:=by simp_all
theorem Kr{t:List Tm}{S:List Sl}:CK t S=true↔A6 t S=true/\∀u∈t,CF S u.path=true:=by
 grind [CK]
section
variable {x:List Rl}{roots:List Rq}{dec:List Cd}{p:ByteArray}{needs:List Nd}
abbrev eU(p:ByteArray)(dec:List Cd):List ByteArray:=p::(Aw dec).map (·.path)
theorem rE{c:Cd}{t:List Tm}(hf:Form t)(he:CK t (Aw (dec++[c]))=true):VT (eU c.rel.path dec) t:=by
 refine⟨EZ hf,fun u hu=>?_⟩
 grind [Kr,Hs]
theorem mO(hx:AC x=0)(hd:De x dec){c:Cd}(hc:c.rel∈x){t:List Tm}(he:CK t (Aw (dec++[c]))=true)(hn:DM t c.rel.path=false):CK t (Aw dec)=true:=by
 obtain⟨h1,h2⟩:=Kr.1 he;have Ek:=Kq hn;rw[UM]at h1 h2;refine Kr.2 ⟨?_,fun u hu=>?_⟩
 .rw[Ls (.self (hd.valid hx)) (.ver (hd.valid hx) ((B3 hx).1 _ hc).val) Ek];exact h1
 grind [LK]
theorem kT(hx:AC x=0)(hd:De x dec){c:Cd}(hc:c.rel∈x/\c.rel.yanked=false/\c.place=plc c.rel.ver)(hu:Dn dec c.rel.path=false){t:List Tm}(hf:Form t)(he:CK t (Aw (dec++[c]))=true)(hn:DM t c.rel.path=true) :
  cW (Aw dec) (eU c.rel.path dec) c.rel.path t fun k=>k=c.place:=by
 have GG:=(B3 hx).1 _ hc.1;have hV:=hd.valid hx;have h1:=(Kr.1 he).1;rw[UM]at h1;refine⟨hf,rE hf he,hn,⟨_,.ver hV GG.val,h1⟩,fun k k0 k1 e=>?_⟩
 grind [fH,Gr,E7,Hk,KH.val,KH.plc]
theorem PV(hx:AC x=0)(hr:AR roots=0){E:List Cd}(hE:De x E){n:Nd}(hn:n∈Dw roots E)(hv:∃d∈E,d.rel.path=n.rq.path/\has n.rq.set d.place=false) :
  (∀d,DX x roots d (Ox n)=some (Ib n))/\CK (Ib n) (Aw E)=true/\Form (Ib n):=by
 obtain⟨d,hd,e,hs⟩:=hv;have GG:=(B3 hx).1 _ (hE.cand d hd).1;have hf:=hE.find hd;have hI:=Td hx hr hE hn (.inr ⟨QW d,by simp_all,by rw[show(QW d).ver=d.rel.ver from rfl,<-GG.plc,<-(hE.cand d hd).2.2];exact hs⟩);refine⟨hI.inf,Kr.2 ⟨hI.viol,fun u hu=>?_⟩,hI.form⟩
 have:=(hI.inU ((Aw E).map (·.path)) (fun h=>Hs.1 (hI.path h)) (Hs.1 (by grind [Kv]))).2 u hu
 exact Hs.2 this
theorem kf(hx:AC x=0)(hr:AR roots=0)(hd:De x dec)(hN:X3 roots dec p needs){c:Cd}(hc:c∈Bx x p){n:Nd}(hn:n∈needs)(hs:has n.rq.set c.place=false):DM (Ib n) p=true:=by
 obtain⟨c1,c2⟩:=Iy hc;have hu:Dn dec c.rel.path=false:=by grind [X3.undone]
 have hE:=hd.snoc c2 hu;obtain⟨qF,hn2⟩:=(hN.mem n).1 hn;have GG:=(B3 hx).1 _ c2.1;have hI:=Td hx hr hE (OF qF) (.inr ⟨QW c,by grind [De.find],by grind [KH.plc]⟩);cases yO:DM (Ib n) p with
 |true=>rfl
 |false=>
  exfalso
  have Ot:n.rq.set≠[]/\EP n.rq.set:=by
   rcases MX qF with ⟨k,q,h1,rfl⟩ | ⟨c,hc,k,q,h1,rfl⟩
   .grind [Lx]
   .exact((B3 hx).1 _ (hd.cand c hc).1).set q (AB h1)
  obtain⟨k,hk⟩:=io Ot.1 Ot.2;have lB:=QQ hk;have hV:=hd.valid hx;have o1:VP (Aw dec) p (M3 (Aw dec) p (fI k)):=.ver hV (E7 lB);have o2:VP (Aw dec) p (Aw (dec++[c])):=by grind [VP.ver,KH.val]
  have h1:=Ls o1 o2 (Kq yO);rw[hI.viol,hI.raw _ o1.val,Bs]at h1
  have:=h1 (DH n.rq) (by grind [NM])
  grind [DH,JC,Gr,Vc,Hk]
theorem jZ(hx:AC x=0)(hr:AR roots=0)(hd:De x dec)(hN:X3 roots dec p needs){n0:Nd}(h0:n0∈needs)(L:List (Nat×Cd))(hL:L.map (·.2)=Bx x p)(hs:EQ x roots s)(E3:∀y∈L,y.1<s.drv.length)(hre:s.full=false->∀y∈L,CK (Ef s y.1) (Aw (dec++[y.2]))=true/\DM (Ef s y.1) p=true) :
  EQ x roots (DG x p n0 (L.map (·.1)) s).2/\Grow s (DG x p n0 (L.map (·.1)) s).2/\(DG x p n0 (L.map (·.1)) s).1<(DG x p n0 (L.map (·.1)) s).2.drv.length /\
  ((DG x p n0 (L.map (·.1)) s).2.full=false->CK (Ef (DG x p n0 (L.map (·.1)) s).2 (DG x p n0 (L.map (·.1)) s).1) (Aw dec)=true):=by
 have hV:=hd.valid hx;have hpD:CF (Aw dec) p=false:=by rw[Gr];exact hN.undone
 obtain⟨nF,hp0⟩:=(hN.mem n0).1 h0;have hI:=Td hx hr hd nF (.inl (by grind [HT]));unfold DG;obtain⟨a1,a2,a3⟩:=KZ hs (hI.inf s.drv);have ag:=K3 s (Ox n0) (Ib n0);have a3:(Bu s n0).2.full=false->Ef (Bu s n0).2 (Bu s n0).1=Ib n0:=a3
 change EQ x roots (Bu s n0).2 at a1
 change (Bu s n0).1<(Bu s n0).2.drv.length at a2
 change Grow s (Bu s n0).2 at ag
 generalize Bu s n0=s1 at *
 -- the incompatibility of the places that are not available
 obtain⟨u,u0,u1,hu⟩:=iB hx p;have nL:∀k:Int,0<=k->k<1000000->has (B6 x p) k=false->A6 [(⟨p,false,E5 (B6 x p)⟩:Tm)] (M3 (Aw dec) p (fI k))=true:=fun k k0 k1 hk=>by
  grind [Bs,Dh,JC,E7,Hk,F8,SP]
 have uS:A6 [(⟨p,false,E5 (B6 x p)⟩:Tm)] (Aw dec)=false:=by
  rw[Bb];intro h
  have:=Bs.1 h _ (Af ..)
  rw[show(⟨p,false,E5 (B6 x p)⟩:Tm).path=p from rfl,HT hpD]at this;cases this
 have ou:VP (Aw dec) p (M3 (Aw dec) p (fI u)):=.ver hV (E7 ⟨u0,u1⟩);have Ek:H2 p (B6 x p)≠[]:=by
  have c1:=Dj (l:=[(⟨p,false,E5 (B6 x p)⟩:Tm)]) ou.val;have c2:=Dj (l:=[(⟨p,false,E5 (B6 x p)⟩:Tm)]) hV;rw[nL u u0 u1 hu]at c1;rw[uS]at c2;unfold H2 Rf;cases hc:CX [(⟨p,false,E5 (B6 x p)⟩:Tm)]with
  |none=>grind
  |some c=>
   rw[hc]at c2;intro e;have e:c=[]:=e;rw[e]at c2;cases c2
 have Sc:∀S,Gb S->A6 (H2 p (B6 x p)) S=A6 [(⟨p,false,E5 (B6 x p)⟩:Tm)] S:=fun S v=>Rg v Ek;have Aai:DM (H2 p (B6 x p)) p=true:=by
  cases h:DM (H2 p (B6 x p)) p with
  |true=>rfl
  |false=>
   have:=Ls ou (.self hV) (Kq h)
   rw[Sc _ ou.val,Sc _ hV,nL u u0 u1 hu,uS]at this;simp_all
 have wN:DX x roots s1.2.drv ⟨2,p,0,0,0,0⟩=some (H2 p (B6 x p)):=by
  unfold DX;rw[Az (show ¬((2:Int)=0) by decide),Az (show ¬((2:Int)=1) by decide),Ay rfl,Ay ⟨rfl,rfl,rfl,rfl⟩];unfold kd;simp_all
 obtain⟨b1,b2,b3⟩:=KZ a1 wN;have bg:=K3 s1.2 ⟨2,p,0,0,0,0⟩ (H2 p (B6 x p));have b3:(Ea x p s1.2).2.full=false->Ef (Ea x p s1.2).2 (Ea x p s1.2).1=H2 p (B6 x p):=b3
 change EQ x roots (Ea x p s1.2).2 at b1
 change (Ea x p s1.2).1<(Ea x p s1.2).2.drv.length at b2
 change Grow s1.2 (Ea x p s1.2).2 at bg
 generalize Ea x p s1.2=s2 at *
 have Aa7:s2.2.full=false->s1.2.full=false/\s.full=false:=fun h=>by
  have h1:s1.2.full=false:=by
   cases e:s1.2.full with
   |false=>rfl
   |true=>rw[bg.full e]at h;cases h
  refine⟨h1,?_⟩;cases e:s.full with
  |false=>rfl
  |true=>rw[ag.full e]at h1;cases h1
 have main:=Oz (D:=Aw dec) (U:=eU p dec) (p:=p) hV ((s2.1,fun k=>has (B6 x p) k=false)::L.map fun y=>(y.1,fun k=>k=y.2.place)) (C:=fun k=>has n0.rq.set k=false) b1 (BY a2 bg.len)
  (fun y hy=>by
   rcases AU.1 hy with rfl | hy
   .exact b2
   .obtain⟨z,hz,rfl⟩:=Ax.1 hy;exact BY (E3 z hz) (ag.trans bg).len) (fun hf=>by
   obtain⟨f1,f0⟩:=Aa7 hf;refine⟨?_,fun y hy=>?_⟩
   .rw[bg.at a2,a3 f1];refine⟨hI.form,hI.inU _ (fun h=>Ao _ (Hs.1 (hI.path h))) (by simp_all),hI.viol,fun k k0 k1 hk=>?_⟩;have ok:VP (Aw dec) p (M3 (Aw dec) p (fI k)):=.ver hV (E7 ⟨k0,k1⟩);rw[hI.raw _ ok.val,Bs];intro t ht;have YO:=Bs.1 ((hI.raw _ hV).symm.trans hI.viol) t ht;unfold NM at ht;have wT:Dh (DH n0.rq) (Bg (M3 (Aw dec) p (fI k)) (DH n0.rq).path)=true:=by
     rw[show(DH n0.rq).path=p from hp0,JC hpD];exact Sr (.inr ⟨_,rfl,E7 ⟨k0,k1⟩,by rw[show(⟨p,fI k⟩:Sl).ver=fI k from rfl,Hk];exact hk⟩)
    split at ht
    .simp_all
    .rename_i hm;rcases AU.1 ht with rfl | ht
     .have Ek:n0.path≠p:=fun e=>by
       have:=hI.path hm
       simp_all
      rw[show(⟨n0.path,false,[(n0.place,n0.place+1)]⟩:Tm).path=n0.path from rfl]at YO⊢;rw[ok.same _ Ek];omega
     simp_all
   .rcases AU.1 hy with rfl | hy
    .show cW _ _ p (Ef s2.2 s2.1) _;rw[b3 hf];refine⟨M2 _,Va (fun t ht=>by simp_all),Aai,⟨_,ou,by rw[Sc _ ou.val];simp_all⟩,fun k k0 k1 hk=>?_⟩;rw[Sc _ (VP.ver hV (E7 ⟨k0,k1⟩)).val];simp_all
    .obtain⟨z,hz,rfl⟩:=Ax.1 hy;show cW _ _ p (Ef s2.2 z.1) _;rw[(ag.trans bg).at (E3 z hz)];obtain⟨e1,e2⟩:=hre f0 z hz;have hzc:z.2∈Bx x p:=by grind
     obtain⟨c1,c2⟩:=Iy hzc
     have:=kT hx hd c2 (by rw[c1];exact hN.undone) (hs.forms z.1) e1 (by simp_all)
     simp_all)
 have Afi:((s2.1,fun k=>has (B6 x p) k=false)::L.map fun y=>(y.1,fun k=>k=y.2.place)).map (·.1)=s2.1::L.map (·.1):=by
  simp_all
 rw[Afi]at main;obtain⟨m1,m2,m3,m4⟩:=main;refine⟨m1,(ag.trans bg).trans m2,m3,fun hf=>?_⟩;obtain⟨C',q1,q2⟩:=m4 hf;have hnc:DM (Ef (B9 p (s2.1::L.map (·.1)) s1.1 s2.2).2 (B9 p (s2.1::L.map (·.1)) s1.1 s2.2).1) p=false:=by
  rcases q2 with q2 | q2
  .exact q2
  .refine oJ hpD q1.form q1.none_ fun k k0 k1=>q1.cov k k0 k1 (q2 k ?_);cases hn0:has n0.rq.set k with
   |false=>simp_all
   |true=>
    cases ha:has (B6 x p) k with
    |false=>simp_all
    |true=>
     obtain⟨c,hc,e⟩:=(WG hx).1 ha;rw[<-hL]at hc;obtain⟨z,hz,rfl⟩:=Ax.1 hc;exact .inr ⟨_,Ao _ (Ax.2 ⟨z,hz,rfl⟩),e.symm⟩
 refine Kr.2 ⟨q1.none_,fun t ht=>?_⟩
 have:=q1.inU.2 t ht
 rcases AU.1 this with e | h
 .exact absurd e (Kq hnc t ht)
 .exact Hs.2 h
end
def GC(s:SS)(b:List Cd)(p:ByteArray)(needs:List Nd):List Cd->List Sk->Prop
 | [],sk=>sk=[]
 |c::cs,sk=>if(needs.all fun n=>has n.rq.set c.place)=true then ∃(k:Nat) (rest:List Sk),sk=⟨p,c.place,k⟩::rest/\(k<s.drv.length/\CK (Ef s k) (Aw (b++[c]))=true)/\GC s b p needs cs rest
  else GC s b p needs cs sk
section
variable {s s' : SS}{b:List Cd}{p:ByteArray}{needs:List Nd}
theorem GC.out{c:Cd}(hc:¬(needs.all fun n=>has n.rq.set c.place)=true):∀{cs:List Cd} {sk:List Sk},GC s b p needs cs sk->GC s b p needs (cs++[c]) sk
 | [],sk,h=>by
  show(if _ then _ else _)
  grind
 |d::cs,sk,h=>by
  have h:if(needs.all fun n=>has n.rq.set d.place)=true then _ else _:=h
  show(if _ then _ else _)
  by_cases hd:(needs.all fun n=>has n.rq.set d.place)=true
  .rw[Ay hd]at h⊢;obtain⟨k,rest,h1,h2,h3⟩:=h;exact⟨k,rest,h1,h2,GC.out hc h3⟩
  .rw[Az hd]at h⊢;exact GC.out hc h
theorem GC.add{c:Cd}(hc:(needs.all fun n=>has n.rq.set c.place)=true){k:Nat}(hk:k<s.drv.length/\CK (Ef s k) (Aw (b++[c]))=true):∀{cs:List Cd} {sk:List Sk},GC s b p needs cs sk->GC s b p needs (cs++[c]) (sk++[⟨p,c.place,k⟩])
 | [],sk,h=>by
  have h:sk=[]:=h;subst h;show(if _ then _ else _);rw[Ay hc];exact⟨k,[],rfl,hk,rfl⟩
 |d::cs,sk,h=>by
  have h:if(needs.all fun n=>has n.rq.set d.place)=true then _ else _:=h
  show(if _ then _ else _)
  by_cases hd:(needs.all fun n=>has n.rq.set d.place)=true
  .rw[Ay hd]at h⊢;obtain⟨j,rest,rfl,h2,h3⟩:=h;exact⟨j,_,rfl,h2,GC.add hc hk h3⟩
  .rw[Az hd]at h⊢;exact GC.add hc hk h
theorem GC.mono(hg:Grow s s'):∀{cs:List Cd} {sk:List Sk},GC s b p needs cs sk->GC s' b p needs cs sk
 | [],_,h=>h
 |d::cs,sk,h=>by
  have h:if(needs.all fun n=>has n.rq.set d.place)=true then _ else _:=h
  show(if _ then _ else _)
  by_cases hd:(needs.all fun n=>has n.rq.set d.place)=true
  .rw[Ay hd]at h⊢;obtain⟨j,rest,rfl,h2,h3⟩:=h;exact⟨j,rest,rfl,⟨BY h2.1 hg.len,by grind [Grow.at]⟩,h3.mono hg⟩
  .rw[Az hd]at h⊢;exact h.mono hg
end
structure vE(x:List Rl)(roots:List Rq)(s:SS)(b:List Cd)(c:Cd)(sk:List Sk)(p:ByteArray)(needs:List Nd)(pre post:List Cd):Prop where
 next:X3 roots b p needs
 cands:Bx x p=pre++c::post
 fit:∀n∈needs,has n.rq.set c.place=true
 noclash:CY b c=none
 skips:GC s b p needs pre sk
def Tt(x:List Rl)(roots:List Rq)(s:SS):List Cd->List Cd->List (List Sk)->Prop
 |b,[],[]=>Ik (Fs roots b) (Aw b)=none
 |b,c::t,sk::st=>(∃p needs pre post,vE x roots s b c sk p needs pre post)/\Tt x roots s (b++[c]) t st
 |_,_,_=>False
structure Mx(x:List Rl)(roots:List Rq)(ls:List (List Cd))(dec:List Cd)(s:SS)(st:List (List Sk))(o:KY):Prop where
 der:EQ x roots o.ss
 grow:Grow s o.ss
 no:o.found=false->o.dec=dec/\o.stack=st/\(o.ss.full=false->o.res<o.ss.drv.length/\CK (Ef o.ss o.res) (Aw dec)=true)
 yes:o.found=true->o.ss.full=false/\∃t sl,o.dec=dec++t/\o.stack=st++sl/\Tt x roots o.ss dec t sl/\ls.head?=some o.dec
section
variable {rec:List Cd->SS->List (List Sk)->KY}{x:List Rl}{roots:List Rq}{p:ByteArray}{needs:List Nd}{n0:Nd}{dec:List Cd}{st:List (List Sk)}
def IH(rec:List Cd->SS->List (List Sk)->KY)(x:List Rl)(p:ByteArray)(needs:List Nd)(n0:Nd)(dec:List Cd)(st:List (List Sk))(c:Cd)(cs:List Cd)(reasons:List Nat)(skips:List Sk)(k:Nat)(s:SS):KY:=
 if DM (Ef s k) p=false then⟨k,false,s,dec,st⟩else DS rec x p needs n0 dec st cs s (reasons++[k]) (skips++[⟨p,c.place,k⟩])
theorem FM(c:Cd)(cs:List Cd)(s:SS)(reasons:List Nat)(skips:List Sk):DS rec x p needs n0 dec st (c::cs) s reasons skips =
  if s.full=true then⟨0,false,s,dec,st⟩
  else match needs.find? fun n=>!has n.rq.set c.place with
   |some n=>DS rec x p needs n0 dec st cs (Bu s n).2 (reasons++[(Bu s n).1]) skips
   |none=>match Oi s.drv (Aw (dec++[c]))with
    |some k=>IH rec x p needs n0 dec st c cs reasons skips k s
    |none=>match CY dec c with
     |some n=>IH rec x p needs n0 dec st c cs reasons skips (Bu s n).1 (Bu s n).2
     |none=>if(rec (dec++[c]) s (st++[skips])).found=true then⟨0,true,(rec (dec++[c]) s (st++[skips])).ss,(rec (dec++[c]) s (st++[skips])).dec,(rec (dec++[c]) s (st++[skips])).stack⟩
      else if(rec (dec++[c]) s (st++[skips])).ss.full=true then⟨0,false,(rec (dec++[c]) s (st++[skips])).ss,dec,st⟩
      else IH rec x p needs n0 dec st c cs reasons skips (rec (dec++[c]) s (st++[skips])).res (rec (dec++[c]) s (st++[skips])).ss:=rfl
theorem gH{s:SS}(hs:EQ x roots s){n:Nd}(h:∀d,DX x roots d (Ox n)=some (Ib n)):EQ x roots (Bu s n).2/\(Bu s n).1<(Bu s n).2.drv.length/\((Bu s n).2.full=false->Ef (Bu s n).2 (Bu s n).1=Ib n)/\Grow s (Bu s n).2:=by
 obtain⟨a1,a2,a3⟩:=KZ hs (h s.drv);exact⟨a1,a2,a3,K3 _ _ _⟩
theorem Mx.grown{ls:List (List Cd)}{s s' : SS}{o:KY}(hg:Grow s s')(h:Mx x roots ls dec s' st o):Mx x roots ls dec s st o:=⟨h.der,hg.trans h.grow,h.no,h.yes⟩
theorem WK(hx:AC x=0)(hr:AR roots=0)(hd:De x dec)(jP:Ih roots dec)(hN:X3 roots dec p needs)(h0:n0∈needs){lv:List Cd->List (List Cd)}(QR:∀c∈Bx x p,bS dec needs c=true->∀d∈lv (dec++[c]),Lf x roots (dec++[c]) d)
  (aU:∀c∈Bx x p,bS dec needs c=true->∀s st,EQ x roots s->s.full=false->Mx x roots (lv (dec++[c])) (dec++[c]) s st (rec (dec++[c]) s st)) :
  ∀(cs:List Cd) {s:SS} (L:List (Nat×Cd)) {skips:List Sk},L.map (·.2)++cs=Bx x p->EQ x roots s->(∀y∈L,y.1<s.drv.length)->(s.full=false->(∀y∈L,CK (Ef s y.1) (Aw (dec++[y.2]))=true/\DM (Ef s y.1) p=true)/\GC s dec p needs (L.map (·.2)) skips) ->
   Mx x roots (((Bx x p).map fun c=>if bS dec needs c then lv (dec++[c])else []).flatten) dec s st (DS rec x p needs n0 dec st cs s (L.map (·.1)) skips)
 | [],s,L,skips,hL,hs,E3,hre=>by
  rw[BG]at hL;obtain⟨l1,l2,l3,l4⟩:=jZ hx hr hd hN h0 L hL hs E3 (fun hf=>(hre hf).1);exact⟨l1,l2,fun _=>⟨rfl,rfl,fun hf=>⟨l3,l4 hf⟩⟩,fun h=>(by cases h)⟩
 |c::cs,s,L,skips,hL,hs,E3,hre=>by
  rw[FM]
  by_cases hf:s.full=true
  .grind [Mx.mk,Grow.refl]
  rw[Az hf];have hf:s.full=false:=by simp_all
  obtain⟨Afy,Afz⟩:=hre hf;have hc:c∈Bx x p:=by grind
  obtain⟨c1,c2⟩:=Iy hc;have hu:Dn dec c.rel.path=false:=by grind [X3.undone]
  have hE:=hd.snoc c2 hu
  -- on to the next candidate
  have go:∀(s' : SS) (k:Nat) (LZ : List Sk),EQ x roots s'->Grow s s'->k<s'.drv.length->(s'.full=false->(CK (Ef s' k) (Aw (dec++[c]))=true/\DM (Ef s' k) p=true)/\GC s' dec p needs (L.map (·.2)++[c]) LZ) ->
    Mx x roots (((Bx x p).map fun c=>if bS dec needs c then lv (dec++[c])else []).flatten) dec s st (DS rec x p needs n0 dec st cs s' (L.map (·.1)++[k]) LZ):=fun s' k LZ dR hg hk Ek=>by
   have:=WK hx hr hd jP hN h0 QR aU cs (s:=s') (L++[(k,c)]) (skips:=LZ) (by simp_all) dR
    (fun y hy=>by
     rcases Bh.1 hy with hy | hy
     .exact BY (E3 y hy) hg.len
     simp_all)
    (fun uI=>by
     grind [Grow.at])
   grind [Mx.grown]
  cases hfd:needs.find? fun n=>!has n.rq.set c.place with
  |some n=>
   dsimp only;have qF:=BA hfd;have hn2:=DV hfd;have hn2:has n.rq.set c.place=false:=by simp_all
   obtain⟨hn3,hn4⟩:=(hN.mem n).1 qF;obtain⟨e1,e2,e3⟩:=PV hx hr hE (OF hn3) ⟨c,by simp,by rw[c1,hn4],hn2⟩<;>grind [gH,kf,GC.out,GC.mono]
  |none=>
   dsimp only;have rZ:∀n∈needs,has n.rq.set c.place=true:=fun n hn=>by
    simp_all
   have Gd:(needs.all fun n=>has n.rq.set c.place)=true:=by simp_all
   have yD:∀(s' : SS) (k:Nat),EQ x roots s'->Grow s s'->k<s'.drv.length->(s'.full=false->CK (Ef s' k) (Aw (dec++[c]))=true) ->
     Mx x roots (((Bx x p).map fun c=>if bS dec needs c then lv (dec++[c])else []).flatten) dec s st (IH rec x p needs n0 dec st c cs (L.map (·.1)) skips k s'):=fun s' k dR hg hk he=>by
    unfold IH;cases yO:DM (Ef s' k) p with
    |false=>
     rw[Ay rfl];exact⟨dR,hg,fun _=>⟨rfl,rfl,fun uI=>⟨hk,mO hx hd c2.1 (he uI) (by simp_all)⟩⟩,fun h=>(by cases h)⟩
    |true=>
     grind [GC.add,GC.mono]
   cases hen:Oi s.drv (Aw (dec++[c]))with
   |some k=>
    grind [K7,Grow.refl]
   |none=>
    dsimp only;cases hcl:CY dec c with
    |some n=>
     dsimp only;obtain⟨m1,m2⟩:=Ly hcl;obtain⟨e1,e2,e3⟩:=PV hx hr hE (Nw m1) m2<;>grind [gH]
    |none=>
     dsimp only;have GG:bS dec needs c=true:=IC.2 ⟨rZ,hcl⟩;have hR:=aU c hc GG s (st++[skips]) hs hf;generalize rec (dec++[c]) s (st++[skips])=o at hR
     by_cases Uz:o.found=true
     .rw[Ay Uz];obtain⟨y1,t,sl,y2,y3,y4,y5⟩:=hR.yes Uz;refine⟨hR.der,hR.grow,fun h=>(by cases h),fun _=>⟨y1,c::t,skips::sl,by simp_all,by simp_all,⟨⟨p,needs,L.map (·.2),cs,hN,hL.symm,rZ,hcl,Afz.mono hR.grow⟩,y4⟩,?_⟩⟩;show _=some o.dec;rw[<-hL,AF,CR,BB,Cz];have r6:((L.map (·.2)).map fun c=>if bS dec needs c then lv (dec++[c])else []).flatten=[]:=by
       rw[List.flatten_eq_nil_iff];intro l hl;obtain⟨d,yP,rfl⟩:=Ax.1 hl;obtain⟨y,hy,rfl⟩:=Ax.1 yP;split
       .rename_i hoy;have hyc:y.2∈Bx x p:=by grind
        refine Mf.2 fun d Af3=>sQ hx hs (E3 y hy) (Afy y hy).1 (QR y.2 hyc hoy d Af3)
       .rfl
      grind
     grind [Mx.no,Mx.mk,Mx.der,Mx.grow]
end
theorem Oo{dec:List Cd}{c:Cd}(h:c.rel∈x/\c.rel.yanked=false)(hu:Dn dec c.rel.path=false):Ff x (dec++[c])<Ff x dec:=by
 have key:∀l:List Rl,(l.filter fun r=>!r.yanked&&!Dn (dec++[c]) r.path).length<=(l.filter fun r=>!r.yanked&&!Dn dec r.path).length /\
   (c.rel∈l->(l.filter fun r=>!r.yanked&&!Dn (dec++[c]) r.path).length<(l.filter fun r=>!r.yanked&&!Dn dec r.path).length):=by
  intro l
  induction l<;>grind [Dn]
 exact(key x).2 h.1
theorem Rx{x:List Rl}{roots:List Rq}(hx:AC x=0)(hr:AR roots=0):∀(n:Nat) {dec:List Cd} {s:SS} {st:List (List Sk)},De x dec->Ih roots dec->EQ x roots s->s.full=false->Ff x dec<n ->
  Mx x roots (Cn x roots n dec) dec s st (CL x roots n dec s st)
 |0,_,_,_,_,_,_,_,h=>by omega
 |n+1,dec,s,st,hd,jP,hs,hf,hn=>by
  unfold CL Cn;cases e:(D4 roots dec).2 with
  |nil=>
   exact⟨hs,.refl s,fun h=>(by cases h),fun _=>⟨hf,[],[],by simp,by simp,OI.1 e,rfl⟩⟩
  |cons n0 l=>
   have hN:=JW e;have next:∀c∈Bx x (D4 roots dec).1,bS dec (n0::l) c=true->De x (dec++[c])/\Ih roots (dec++[c])/\Ff x (dec++[c])<n:=fun c hc GG=>by
    obtain⟨c1,c2⟩:=Iy hc;have hu:Dn dec c.rel.path=false:=by grind [X3.undone]
    obtain⟨k1,k2⟩:=IC.1 GG;exact⟨hd.snoc c2 hu,jP.snoc hN c1 k1 k2,by have:=Oo (dec:=dec) ⟨c2.1,c2.2.1⟩ hu;omega⟩
   exact WK hx hr hd jP hN (Af ..) (lv:=Cn x roots n) (fun c hc GG d yP=>Hv (next c hc GG).1 (next c hc GG).2.1 d yP)
    (fun c hc GG s st hs hf=>Rx hx hr n (next c hc GG).1 (next c hc GG).2.1 hs hf (next c hc GG).2.2) _ [] rfl hs (fun y hy=>by cases hy) (fun _=>⟨fun y hy=>(by cases hy),rfl⟩)
theorem aJ(x:List Rl)(dec:List Cd):Ff x dec<=x.length:=DI _ _
theorem Iw{roots:List Rq}(hx:AC x=0)(hr:AR roots=0):Mx x roots (Cn x roots (x.length+1) []) [] ss0 [] (DZ x roots):=
 Rx hx hr _ (.nil x) (.nil roots) (.nil x roots) rfl (by grind [aJ])
def MT(R:Nat):Nat:=[3,8,13,23,33,53,78,113,168,243,348,513,738,1053,1548,2223,3168,4653].getD R 0
theorem qS:∀R≤17,3<=MT R/\∀k≤R,3+2*k+k*MT (R-k)<=MT R\/k=0:=by decide
section
variable {x:List Rl}{roots:List Rq}{p:ByteArray}{needs:List Nd}{n0:Nd}{dec:List Cd}{st:List (List Sk)}
theorem My(i:Nf)(l:List Tm)(hf:s.full=false)(hc:s.infs.length<=65535):(D7 s i l).2.full=false/\(D7 s i l).2.infs.length<=s.infs.length+1:=⟨ZQ i l hf ch,c8 s i l⟩
theorem Kx:∀(l:List Nat) {k:Nat} {s:SS},s.full=false->s.infs.length+l.length<=65535->(B9 p l k s).2.full=false/\(B9 p l k s).2.infs.length<=s.infs.length+l.length
 | [],k,s,hf,_=>⟨hf,Ap _⟩
 |r::l,k,s,hf,hc=>by
  rw[AA]at hc⊢;unfold B9;split
  .exact⟨hf,by show s.infs.length<=_;omega⟩
  split
  .obtain⟨h1,h2⟩:=Kx l (k:=k) hf ch;exact⟨h1,by omega⟩
  split
  .obtain⟨h1,h2⟩:=Kx l (k:=k) hf ch;exact⟨h1,by omega⟩
  .obtain⟨a1,a2⟩:=My ⟨3,p,0,0,(k:Nat),(r:Nat)⟩ (BF (Ef s k) (Ef s r) p).1 hf ch;obtain⟨h1,h2⟩:=Kx l (k:=(D7 s ⟨3,p,0,0,(k:Nat),(r:Nat)⟩ (BF (Ef s k) (Ef s r) p).1).1) a1 ch;exact⟨h1,by omega⟩
theorem UP(reasons:List Nat)(hf:s.full=false)(hc:s.infs.length+(3+reasons.length)<=65535):(DG x p n0 reasons s).2.full=false/\(DG x p n0 reasons s).2.infs.length<=s.infs.length+(3+reasons.length):=by
 unfold DG;obtain⟨a1,a2⟩:=My (Ox n0) (Ib n0) hf ch
 change (Bu s n0).2.full=false at a1
 change (Bu s n0).2.infs.length<=_ at a2
 obtain⟨b1,b2⟩:=My ⟨2,p,0,0,0,0⟩ (H2 p (B6 x p)) a1 ch
 change (Ea x p (Bu s n0).2).2.full=false at b1
 change (Ea x p (Bu s n0).2).2.infs.length<=_ at b2
 obtain⟨h1,h2⟩:=Kx (p:=p) ((Ea x p (Bu s n0).2).1::reasons) (k:=(Bu s n0).1) b1 (by rw[AA];omega);rw[AA]at h2;exact⟨h1,by omega⟩
theorem TQ{rec:List Cd->SS->List (List Sk)->KY}{B:Nat}(aU:∀c∈Bx x p,∀s st,s.full=false->s.infs.length+B<=65535->(rec (dec++[c]) s st).ss.full=false/\(rec (dec++[c]) s st).ss.infs.length<=s.infs.length+B) :
  ∀(cs:List Cd) {s:SS} {reasons:List Nat} {skips:List Sk},(∀c∈cs,c∈Bx x p)->s.full=false->s.infs.length+(3+(reasons.length+cs.length)+cs.length*(1+B))<=65535 ->
   (DS rec x p needs n0 dec st cs s reasons skips).ss.full=false/\(DS rec x p needs n0 dec st cs s reasons skips).ss.infs.length<=s.infs.length+(3+(reasons.length+cs.length)+cs.length*(1+B))
 | [],s,reasons,skips,_,hf,hc=>by
  simp only[AE,HB,Nat.zero_mul]at hc⊢;exact UP reasons hf hc
 |c::cs,s,reasons,skips,hm,hf,hc=>by
  rw[FM,Az (by rw[hf];decide)];simp only[AA]at hc⊢;have YN:(cs.length+1)*(1+B)=cs.length*(1+B)+(1+B):=by rw[Kn,Nat.one_mul]
  rw[YN]at hc⊢
  have go:∀(s' : SS) (k:Nat) (LZ : List Sk),s'.full=false->s'.infs.length<=s.infs.length+(1+B) ->
    (DS rec x p needs n0 dec st cs s' (reasons++[k]) LZ).ss.full=false/\(DS rec x p needs n0 dec st cs s' (reasons++[k]) LZ).ss.infs.length<=s.infs.length+(3+(reasons.length+(cs.length+1))+(cs.length*(1+B)+(1+B))):=fun s' k LZ uI hl=>by
   have Dd:(reasons++[k]).length=reasons.length+1:=by simp
   obtain⟨h1,h2⟩:=TQ aU cs (s:=s') (reasons:=reasons++[k]) (skips:=LZ) (fun d hd=>hm d (Ao _ hd)) uI (by rw[Dd];omega);rw[Dd]at h2;exact⟨h1,by omega⟩
  have yD:∀(s' : SS) (k:Nat),s'.full=false->s'.infs.length<=s.infs.length+(1+B) ->
    (IH rec x p needs n0 dec st c cs reasons skips k s').ss.full=false/\(IH rec x p needs n0 dec st c cs reasons skips k s').ss.infs.length<=s.infs.length+(3+(reasons.length+(cs.length+1))+(cs.length*(1+B)+(1+B))):=fun s' k uI hl=>by
   unfold IH;split
   .exact⟨uI,by show s'.infs.length<=_;omega⟩
   .exact go s' k _ uI hl
  cases needs.find? fun n=>!has n.rq.set c.place with
  |some n=>
   obtain⟨a1,a2⟩:=My (Ox n) (Ib n) hf ch;exact go _ _ _ a1 (by show(D7 s (Ox n) (Ib n)).2.infs.length<=_;omega)
  |none=>
   dsimp only;cases Oi s.drv (Aw (dec++[c]))with
   |some k=>exact yD s k hf ch
   |none=>
    dsimp only;cases CY dec c with
    |some n=>
     obtain⟨a1,a2⟩:=My (Ox n) (Ib n) hf ch;exact yD _ _ a1 (by show(D7 s (Ox n) (Ib n)).2.infs.length<=_;omega)
    |none=>
     dsimp only;obtain⟨r1,r2⟩:=aU c (hm c (Af ..)) s (st++[skips]) hf ch;split
     .exact⟨r1,by show(rec (dec++[c]) s (st++[skips])).ss.infs.length<=_;omega⟩
     rw[Az (by rw[r1];decide)];exact yD _ _ r1 ch
theorem aI{c:Cd}(hc:c∈Bx x p)(hu:Dn dec p=false):Ff x (dec++[c])+(Bx x p).length=Ff x dec:=by
 obtain⟨c1,_⟩:=Iy hc;unfold Ff Bx;rw[BK];have key:∀l:List Rl,(l.filter fun r=>!r.yanked&&!Dn (dec++[c]) r.path).length+(l.filter fun r=>decide (r.path=p)&&!r.yanked).length=(l.filter fun r=>!r.yanked&&!Dn dec r.path).length:=by
  intro l
  induction l with
  |nil=>rfl
  |cons r l ih=>
   have cL:Dn (dec++[c]) r.path=(Dn dec r.path||decide (p=r.path)):=by unfold Dn;rw[List.any_append];simp[c1]
   rw[Mg,Mg,Mg,cL]
   by_cases e:r.path=p
   .rw[e,hu];cases r.yanked<;>simp<;>omega
   .have e2:decide (p=r.path)=false:=Aj (Ne.symm e);rw[e2,Bool.or_false,Aj e];cases r.yanked<;>cases Dn dec r.path<;>simp<;>omega
 exact key x
theorem VC:∀(n:Nat) {dec:List Cd} {s:SS} {st:List (List Sk)},s.full=false->Ff x dec<=17->s.infs.length+MT (Ff x dec)<=65535 ->
  (CL x roots n dec s st).ss.full=false/\(CL x roots n dec s st).ss.infs.length<=s.infs.length+MT (Ff x dec)
 |0,_,_,_,hf,_,_=>⟨hf,Nat.le_add_right ..⟩
 |n+1,dec,s,st,hf,hR,hc=>by
  unfold CL;cases e:(D4 roots dec).2 with
  |nil=>exact⟨hf,Nat.le_add_right ..⟩
  |cons n0 l=>
   have hN:=JW e;dsimp only;obtain⟨m1,m2⟩:=qS _ hR;cases hcs:Bx x (D4 roots dec).1 with
   |nil=>
    obtain⟨h1,h2⟩:=UP (x:=x) (p:=(D4 roots dec).1) (n0:=n0) (s:=s) [] hf (by simp;omega);refine⟨h1,?_⟩;show(DG x (D4 roots dec).1 n0 [] s).2.infs.length<=_;simp at h2;omega
   |cons c0 cs0=>
    have Ac:∀c∈Bx x (D4 roots dec).1,Ff x (dec++[c])=Ff x dec-(Bx x (D4 roots dec).1).length/\(Bx x (D4 roots dec).1).length<=Ff x dec:=fun c hc=>by
     have:=aI (dec:=dec) hc hN.undone
     omega
    have wH:c0∈Bx x (D4 roots dec).1:=by rw[hcs];exact Af ..
    have hk:=Ac c0 wH;have Xa:(Bx x (D4 roots dec).1).length≠0:=by rw[hcs];simp
    have hm:=(m2 _ hk.2).resolve_right Xa;generalize hK:(Bx x (D4 roots dec).1).length=K at *
    have Dd:(c0::cs0).length=K:=by rw[<-hcs];exact hK
    have AeX:3+(([]:List Nat).length+(c0::cs0).length)+(c0::cs0).length*(1+MT (Ff x dec-K))<=MT (Ff x dec):=by
     rw[Dd,AE,Nat.mul_add];omega
    have AhA:K<=K*(1+MT (Ff x dec-K)):=Nat.le_mul_of_pos_right _ ch;have hB:MT (Ff x dec-K)<=K*(1+MT (Ff x dec-K)):=by
     calc MT (Ff x dec-K)<=1+MT (Ff x dec-K):=by omega
      _<=K*(1+MT (Ff x dec-K)):=Nat.le_mul_of_pos_left _ ch
    obtain⟨h1,h2⟩:=TQ (x:=x) (p:=(D4 roots dec).1) (needs:=n0::l) (n0:=n0) (dec:=dec) (st:=st) (rec:=CL x roots n) (B:=MT (Ff x dec-K)) (fun c hc s st hf hl=>by
     have:=Ac c hc
     have h3:=VC n (dec:=dec++[c]) (s:=s) (st:=st) hf ch (by rw[this.1];exact hl);rw[this.1]at h3;exact h3) (c0::cs0) (s:=s) (reasons:=[]) (skips:=[]) (fun c hc=>by rw[hcs];exact hc) hf ch
    exact⟨h1,by omega⟩
theorem Ju(h:x.length<=17):(DZ x roots).ss.full=false:=by
 have hf:=aJ x [];exact(VC (x:=x) (roots:=roots) _ (dec:=[]) (s:=ss0) (st:=[]) rfl ch (by
  have:∀R≤17,([]:List Nf).length+MT R<=65535:=by decide
  exact this _ ch)).1
theorem OR(h:x.length<=16):(DZ x roots).ss.full=false:=Ju (Nat.le_succ_of_le h)
end
abbrev mkB(l:List UInt8):ByteArray:=⟨l.toArray⟩
def nY(n:Int):ByteArray:=mkB (Go.Lib.itoa n)
-- versions
theorem yL{α:Type}{l:List α}{i:Nat}(d:α)(h:i<l.length):l[i]?=some (l.getD i d):=by
 simp_all
end Go.Eng
