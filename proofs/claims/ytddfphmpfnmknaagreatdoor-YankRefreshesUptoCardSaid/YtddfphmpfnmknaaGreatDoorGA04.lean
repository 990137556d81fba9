/- Lemmas for the claims of this seat, without a condition: part 4 (Q6, Q7, Q8, P16, P17, P18, P19, P20, P21). -/
import Derived.Test.YtddfphmpfnmknaaGreatDoorGA03
import Derived.Lib.ItoaNum
import Derived.Lib.Join
namespace Go.Eng
variable {x:List Rl}{s:SS}{k:Int}
theorem sx(h:AN x=0):x.length≤256:=by
 unfold AN at h;split at h
 ·cases h
 ·omega
theorem kB{l:List Rl}:(l.map fun r=>(plc r.ver,plc r.ver+1)).any (BS k)=true↔∃r∈l,plc r.ver=k:=by
 rw[A5];constructor
 ·rintro⟨y,hy,h⟩
  obtain⟨r,hr,rfl⟩:=Am.1 hy
  have:=DY.1 h
  exact⟨r,hr,by have h1:=this.1;have h2:=this.2;dsimp only at h1 h2;omega⟩
 ·rintro⟨r,hr,rfl⟩
  exact⟨_,Am.2 ⟨r,hr,rfl⟩,DY.2 ⟨BK _,by dsimp only;omega⟩⟩
theorem Wq(hx:AN x=0){p:ByteArray}:has (Ca x p) k=true↔∃c∈BJ x p,c.place=k:=by
 unfold Ca;rw[HS];unfold has K6;rw[Ae (fun h=>h hx)];simp only[Ai,Az];rw[kB];constructor
 ·rintro⟨_,r,hr,rfl⟩
  simp only[BM,Az,Dd]at hr;exact⟨⟨plc r.ver,r⟩,HA.2 ⟨r,hr.1.1,hr.1.2,hr.2,rfl⟩,rfl⟩
 ·rintro⟨c,hc,rfl⟩
  obtain⟨r,h1,h2,h3,rfl⟩:=HA.1 hc;have Gs:=(Ct hx).1 r h1
  have:=Kn Gs.val
  rw[←Gs.plc]at this;refine⟨⟨this.1,this.2⟩,r,?_,rfl⟩;simp only[BM,Az,Dd];exact⟨⟨h1,h2⟩,h3⟩
theorem fj(hx:AN x=0)(p:ByteArray):∃k:Int,0≤k∧k<1000000∧has (Ca x p) k=false:=by
 apply AC;intro hn;have Gr:∀k∈(List.range 257).map fun i:Nat=>(i:Int),k∈x.map fun r=>plc r.ver:=by
  intro k hk;obtain⟨i,hi,rfl⟩:=Am.1 hk;have hi:=Pq.1 hi;have hh:has (Ca x p) (i:Int)=true:=by
   cases e:has (Ca x p) (i:Int)with
   |true=>rfl
   |false=>exact absurd ⟨(i:Int),by omega,by omega,e⟩ hn
  obtain⟨c,hc,e⟩:=(Wq hx).1 hh;obtain⟨r,h1,_,_,rfl⟩:=HA.1 hc;exact Am.2 ⟨r,h1,e⟩
 have:=I8 (Sj.2 (List.nodup_range.imp fun h e=>h (Int.ofNat.inj e))) Gr
 rw[A8,A8,Si]at this
 have:=sx hx
 omega
theorem L8(dec:List Cd)(c:Cd):AD (dec++[c])=K7 (AD dec) c.rel.path c.rel.ver:=by unfold AD K7;rw[As];rfl
theorem KH{t:List Tm}{S:List Sl}:CQ t S=true↔Bh t S=true∧∀u∈t,CA S u.path=true:=by
 unfold CQ;rw[Ai,Dd,De];simp
section
variable {x:List Rl}{roots:List Rq}{dec:List Cd}{p:ByteArray}{needs:List Nd}
abbrev cR(p:ByteArray)(dec:List Cd):List ByteArray:=p::(AD dec).map (·.path)
theorem nU{c:Cd}{t:List Tm}(hf:LP t)(he:CQ t (AD (dec++[c]))=true):Wf (cR c.rel.path dec) t:=by
 refine⟨Fk hf,fun u hu=>?_⟩
 have:=(KH.1 he).2 u hu
 rw[HR,L8,As]at this;rcases AY.1 this with h | h
 ·exact Ah _ h
 ·rw[AJ,FA,Ar]at h;rw[h];exact Aa ..
theorem jV(hx:AN x=0)(hd:Ef x dec){c:Cd}(hc:c.rel∈x){t:List Tm}(he:CQ t (AD (dec++[c]))=true)(hn:Dm t c.rel.path=false):CQ t (AD dec)=true:=by
 obtain⟨h1,h2⟩:=KH.1 he;have DM:=KE hn;rw[L8]at h1 h2;refine KH.2 ⟨?_,fun u hu=>?_⟩
 ·rw[LL (.self (hd.valid hx)) (.ver (hd.valid hx) ((Ct hx).1 _ hc).val) DM];exact h1
 ·have:=h2 u hu
  rw[Uv,Cq]at this;rcases this with h | h
  ·exact h
  ·rw[L4]at h;obtain⟨y,hy,e⟩:=h;rw[Ar.1 hy]at e;exact absurd e.symm (DM u hu)
theorem iG(hx:AN x=0)(hd:Ef x dec){c:Cd}(hc:c.rel∈x∧c.rel.yanked=false∧c.place=plc c.rel.ver)(hu:CV dec c.rel.path=false){t:List Tm}(hf:LP t)(he:CQ t (AD (dec++[c]))=true)(hn:Dm t c.rel.path=true) :
  nt (AD dec) (cR c.rel.path dec) c.rel.path t fun k=>k=c.place:=by
 have Gs:=(Ct hx).1 _ hc.1;have hV:=hd.valid hx;have h1:=(KH.1 he).1;rw[L8]at h1;refine⟨hf,nU hf he,hn,⟨_,.ver hV Gs.val,h1⟩,fun k k0 k1 e=>?_⟩;subst e;rw[dq (by rw[Gq];exact hu) (Fw ⟨k0,k1⟩) Gs.val (by rw[HJ,hc.2.2,Gs.plc])];exact h1
theorem Qr(hx:AN x=0)(hr:Bn roots=0){E:List Cd}(hE:Ef x E){n:Nd}(hn:n∈DI roots E)(hv:∃d∈E,d.rel.path=n.rq.path∧has n.rq.set d.place=false) :
  (∀d,Eb x roots d (N0 n)=some (Ir n))∧CQ (Ir n) (AD E)=true∧LP (Ir n):=by
 obtain⟨d,hd,e,hs⟩:=hv;have Gs:=(Ct hx).1 _ (hE.cand d hd).1;have hf:=hE.find hd;have hI:=Tt hx hr hE hn (.inr ⟨N1 d,by rw[←e];exact hf,by rw[show(N1 d).ver=d.rel.ver from rfl,←Gs.plc,←(hE.cand d hd).2.2];exact hs⟩);refine⟨hI.inf,KH.2 ⟨hI.viol,fun u hu=>?_⟩,hI.form⟩
 have:=(hI.inU ((AD E).map (·.path)) (fun h=>HR.1 (hI.path h)) (HR.1 (by rw[KJ,←e,hf];rfl))).2 u hu
 exact HR.2 this
theorem gY(hx:AN x=0)(hr:Bn roots=0)(hd:Ef x dec)(hN:ns roots dec p needs){c:Cd}(hc:c∈BJ x p){n:Nd}(hn:n∈needs)(hs:has n.rq.set c.place=false):Dm (Ir n) p=true:=by
 obtain⟨c1,c2⟩:=I5 hc;have hu:CV dec c.rel.path=false:=by rw[c1];exact hN.undone
 have hE:=hd.snoc c2 hu;obtain⟨jb,oA⟩:=(hN.mem n).1 hn;have Gs:=(Ct hx).1 _ c2.1;have hI:=Tt hx hr hE (OY jb) (.inr ⟨N1 c,by rw[oA,←c1];exact hE.find B0,by rw[show(N1 c).ver=c.rel.ver from rfl,←Gs.plc,←c2.2.2];exact hs⟩);cases tO:Dm (Ir n) p with
 |true=>rfl
 |false =>
  exfalso
  have OO:n.rq.set≠[]∧E2 n.rq.set:=by
   rcases Ng jb with ⟨k,q,h1,rfl⟩ | ⟨c,hc,k,q,h1,rfl⟩
   ·exact LV hr q (Ay h1)
   ·exact((Ct hx).1 _ (hd.cand c hc).1).set q (Ay h1)
  obtain⟨k,hk⟩:=fb OO.1 OO.2;have bt:=M2 hk;have hV:=hd.valid hx;have o1:YV (AD dec) p (K7 (AD dec) p (QR k)):=.ver hV (Fw bt);have o2:YV (AD dec) p (AD (dec++[c])):=by rw[L8,c1];exact .ver hV Gs.val
  have h1:=LL o1 o2 (KE tO);rw[hI.viol,hI.raw _ o1.val,BI]at h1
  have:=h1 (DS n.rq) (by unfold N3;split<;>simp)
  rw[show(DS n.rq).path=p from oA,I0 (by rw[Gq];exact hN.undone),U8 (by rw[show(⟨p,QR k⟩:Sl).ver=QR k from rfl,HJ];exact hk)]at this;cases this
theorem gR(hx:AN x=0)(hr:Bn roots=0)(hd:Ef x dec)(hN:ns roots dec p needs){n0:Nd}(h0:n0∈needs)(L:List (Nat×Cd))(hL:L.map (·.2)=BJ x p)(hs:FU x roots s)(DJ:∀y∈L,y.1<s.drv.length)(wl:s.full=false→∀y∈L,CQ (D7 s y.1) (AD (dec++[y.2]))=true∧Dm (D7 s y.1) p=true) :
  FU x roots (DZ x p n0 (L.map (·.1)) s).2∧Grow s (DZ x p n0 (L.map (·.1)) s).2∧(DZ x p n0 (L.map (·.1)) s).1<(DZ x p n0 (L.map (·.1)) s).2.drv.length ∧
  ((DZ x p n0 (L.map (·.1)) s).2.full=false→CQ (D7 (DZ x p n0 (L.map (·.1)) s).2 (DZ x p n0 (L.map (·.1)) s).1) (AD dec)=true):=by
 have hV:=hd.valid hx;have t7:CA (AD dec) p=false:=by rw[Gq];exact hN.undone
 obtain⟨gD,wg⟩:=(hN.mem n0).1 h0;have hI:=Tt hx hr hd gD (.inl (by rw[wg];exact Im t7));unfold DZ;obtain⟨a1,a2,a3⟩:=Ll hs (hI.inf s.drv);have ag:=Ln s (N0 n0) (Ir n0);have a3:(BH s n0).2.full=false→D7 (BH s n0).2 (BH s n0).1=Ir n0:=a3
 change FU x roots (BH s n0).2 at a1
 change (BH s n0).1<(BH s n0).2.drv.length at a2
 change Grow s (BH s n0).2 at ag
 generalize BH s n0=s1 at *
 -- the incompatibility of the places that are not available
 obtain⟨u,u0,u1,hu⟩:=fj hx p;have Yj:∀k:Int,0≤k→k<1000000→has (Ca x p) k=false→Bh [(⟨p,false,EJ (Ca x p)⟩:Tm)] (K7 (AD dec) p (QR k))=true:=fun k k0 k1 hk=>by
  rw[BI];intro t ht;rw[Ar.1 ht];show Dy _ (Bv (K7 (AD dec) p (QR k)) p)=true;rw[I0 t7];show(Cj (QR k)&&has (EJ (Ca x p)) (place (QR k)))=true;rw[Fw ⟨k0,k1⟩,HJ,Ga,hk];unfold MG;simp[k0,k1]
 have qv:Bh [(⟨p,false,EJ (Ca x p)⟩:Tm)] (AD dec)=false:=by
  rw[AI];intro h
  have:=BI.1 h _ (Aa ..)
  rw[show(⟨p,false,EJ (Ca x p)⟩:Tm).path=p from rfl,Im t7]at this;cases this
 have ou:YV (AD dec) p (K7 (AD dec) p (QR u)):=.ver hV (Fw ⟨u0,u1⟩);have DM:IB p (Ca x p)≠[]:=by
  have c1:=Dk (l:=[(⟨p,false,EJ (Ca x p)⟩:Tm)]) ou.val;have c2:=Dk (l:=[(⟨p,false,EJ (Ca x p)⟩:Tm)]) hV;rw[Yj u u0 u1 hu]at c1;rw[qv]at c2;unfold IB RH;cases hc:Db [(⟨p,false,EJ (Ca x p)⟩:Tm)]with
  |none=>rw[hc]at c1;cases c1
  |some c =>
   rw[hc]at c2;intro e;have e:c=[]:=e;rw[e]at c2;cases c2
 have Mt:∀S,GG S→Bh (IB p (Ca x p)) S=Bh [(⟨p,false,EJ (Ca x p)⟩:Tm)] S:=fun S v=>RI v DM;have vD:Dm (IB p (Ca x p)) p=true:=by
  cases h:Dm (IB p (Ca x p)) p with
  |true=>rfl
  |false =>
   have:=LL ou (.self hV) (KE h)
   rw[Mt _ ou.val,Mt _ hV,Yj u u0 u1 hu,qv]at this;cases this
 have r6:Eb x roots s1.2.drv ⟨2,p,0,0,0,0⟩=some (IB p (Ca x p)):=by
  unfold Eb;rw[Ae (show ¬((2:Int)=0) by decide),Ae (show ¬((2:Int)=1) by decide),Al rfl,Al ⟨rfl,rfl,rfl,rfl⟩];unfold gX;rw[Ae (by rw[Gp];exact DM)]
 obtain⟨b1,b2,b3⟩:=Ll a1 r6;have bg:=Ln s1.2 ⟨2,p,0,0,0,0⟩ (IB p (Ca x p));have b3:(En x p s1.2).2.full=false→D7 (En x p s1.2).2 (En x p s1.2).1=IB p (Ca x p):=b3
 change FU x roots (En x p s1.2).2 at b1
 change (En x p s1.2).1<(En x p s1.2).2.drv.length at b2
 change Grow s1.2 (En x p s1.2).2 at bg
 generalize En x p s1.2=s2 at *
 have vt:s2.2.full=false→s1.2.full=false∧s.full=false:=fun h=>by
  have h1:s1.2.full=false:=by
   cases e:s1.2.full with
   |false=>rfl
   |true=>rw[bg.full e]at h;cases h
  refine⟨h1,?_⟩;cases e:s.full with
  |false=>rfl
  |true=>rw[ag.full e]at h1;cases h1
 have main:=OT (D:=AD dec) (U:=cR p dec) (p:=p) hV ((s2.1,fun k=>has (Ca x p) k=false)::L.map fun y=>(y.1,fun k=>k=y.2.place)) (C:=fun k=>has n0.rq.set k=false) b1 (BD a2 bg.len)
  (fun y hy=>by
   rcases AF.1 hy with rfl | hy
   ·exact b2
   ·obtain⟨z,hz,rfl⟩:=Am.1 hy;exact BD (DJ z hz) (ag.trans bg).len) (fun hf=>by
   obtain⟨f1,f0⟩:=vt hf;refine⟨?_,fun y hy=>?_⟩
   ·rw[bg.at a2,a3 f1];refine⟨hI.form,hI.inU _ (fun h=>Ah _ (HR.1 (hI.path h))) (by rw[wg];exact Aa ..),hI.viol,fun k k0 k1 hk=>?_⟩;have ok:YV (AD dec) p (K7 (AD dec) p (QR k)):=.ver hV (Fw ⟨k0,k1⟩);rw[hI.raw _ ok.val,BI];intro t ht;have Yg:=BI.1 ((hI.raw _ hV).symm.trans hI.viol) t ht;unfold N3 at ht;have kQ:Dy (DS n0.rq) (Bv (K7 (AD dec) p (QR k)) (DS n0.rq).path)=true:=by
     rw[show(DS n0.rq).path=p from wg,I0 t7];exact SL (.inr ⟨_,rfl,Fw ⟨k0,k1⟩,by rw[show(⟨p,QR k⟩:Sl).ver=QR k from rfl,HJ];exact hk⟩)
    split at ht
    ·rw[Ar.1 ht];exact kQ
    ·rename_i hm;rcases AF.1 ht with rfl | ht
     ·have DM:n0.path≠p:=fun e=>by
       have:=hI.path hm
       rw[e,t7]at this;cases this
      rw[show(⟨n0.path,false,[(n0.place,n0.place+1)]⟩:Tm).path=n0.path from rfl]at Yg⊢;rw[ok.same _ DM];exact Yg
     ·rw[Ar.1 ht];exact kQ
   ·rcases AF.1 hy with rfl | hy
    ·show nt _ _ p (D7 s2.2 s2.1) _;rw[b3 hf];refine⟨Nh _,U7 (fun t ht=>by rw[Ar.1 ht];exact Aa ..),vD,⟨_,ou,by rw[Mt _ ou.val];exact Yj u u0 u1 hu⟩,fun k k0 k1 hk=>?_⟩;rw[Mt _ (YV.ver hV (Fw ⟨k0,k1⟩)).val];exact Yj k k0 k1 hk
    ·obtain⟨z,hz,rfl⟩:=Am.1 hy;show nt _ _ p (D7 s2.2 z.1) _;rw[(ag.trans bg).at (DJ z hz)];obtain⟨e1,e2⟩:=wl f0 z hz;have hzc:z.2∈BJ x p:=by rw[←hL];exact Am.2 ⟨z,hz,rfl⟩
     obtain⟨c1,c2⟩:=I5 hzc
     have:=iG hx hd c2 (by rw[c1];exact hN.undone) (hs.forms z.1) e1 (by rw[c1];exact e2)
     rw[c1]at this;exact this)
 have AaB:((s2.1,fun k=>has (Ca x p) k=false)::L.map fun y=>(y.1,fun k=>k=y.2.place)).map (·.1)=s2.1::L.map (·.1):=by
  rw[AJ,BE];rfl
 rw[AaB]at main;obtain⟨m1,m2,m3,m4⟩:=main;refine⟨m1,(ag.trans bg).trans m2,m3,fun hf=>?_⟩;obtain⟨C',q1,q2⟩:=m4 hf;have hnc:Dm (D7 (Cc p (s2.1::L.map (·.1)) s1.1 s2.2).2 (Cc p (s2.1::L.map (·.1)) s1.1 s2.2).1) p=false:=by
  rcases q2 with q2 | q2
  ·exact q2
  ·refine lK t7 q1.form q1.none_ fun k k0 k1=>q1.cov k k0 k1 (q2 k ?_);cases yc:has n0.rq.set k with
   |false=>exact .inl rfl
   |true =>
    cases ha:has (Ca x p) k with
    |false=>exact .inr ⟨_,Aa ..,ha⟩
    |true =>
     obtain⟨c,hc,e⟩:=(Wq hx).1 ha;rw[←hL]at hc;obtain⟨z,hz,rfl⟩:=Am.1 hc;exact .inr ⟨_,Ah _ (Am.2 ⟨z,hz,rfl⟩),e.symm⟩
 refine KH.2 ⟨q1.none_,fun t ht=>?_⟩
 have:=q1.inU.2 t ht
 rcases AF.1 this with e | h
 ·exact absurd e (KE hnc t ht)
 ·exact HR.2 h
end
def Hv(s:SS)(b:List Cd)(p:ByteArray)(needs:List Nd):List Cd→List Sk→Prop
 | [],sk=>sk=[]
 |c::cs,sk=>if(needs.all fun n=>has n.rq.set c.place)=true then ∃(k:Nat) (rest:List Sk),sk=⟨p,c.place,k⟩::rest∧(k<s.drv.length∧CQ (D7 s k) (AD (b++[c]))=true)∧Hv s b p needs cs rest
  else Hv s b p needs cs sk
section
variable {s s' : SS}{b:List Cd}{p:ByteArray}{needs:List Nd}
theorem Hv.out{c:Cd}(hc:¬(needs.all fun n=>has n.rq.set c.place)=true):∀{cs:List Cd} {sk:List Sk},Hv s b p needs cs sk→Hv s b p needs (cs++[c]) sk
 | [],sk,h=>by
  show(if _ then _ else _);rw[Ae hc];exact h
 |d::cs,sk,h=>by
  have h:if(needs.all fun n=>has n.rq.set d.place)=true then _ else _:=h
  show(if _ then _ else _)
  by_cases hd:(needs.all fun n=>has n.rq.set d.place)=true
  ·rw[Al hd]at h⊢;obtain⟨k,rest,h1,h2,h3⟩:=h;exact⟨k,rest,h1,h2,Hv.out hc h3⟩
  ·rw[Ae hd]at h⊢;exact Hv.out hc h
theorem Hv.add{c:Cd}(hc:(needs.all fun n=>has n.rq.set c.place)=true){k:Nat}(hk:k<s.drv.length∧CQ (D7 s k) (AD (b++[c]))=true):∀{cs:List Cd} {sk:List Sk},Hv s b p needs cs sk→Hv s b p needs (cs++[c]) (sk++[⟨p,c.place,k⟩])
 | [],sk,h=>by
  have h:sk=[]:=h;subst h;show(if _ then _ else _);rw[Al hc];exact⟨k,[],rfl,hk,rfl⟩
 |d::cs,sk,h=>by
  have h:if(needs.all fun n=>has n.rq.set d.place)=true then _ else _:=h
  show(if _ then _ else _)
  by_cases hd:(needs.all fun n=>has n.rq.set d.place)=true
  ·rw[Al hd]at h⊢;obtain⟨j,rest,rfl,h2,h3⟩:=h;exact⟨j,_,rfl,h2,Hv.add hc hk h3⟩
  ·rw[Ae hd]at h⊢;exact Hv.add hc hk h
theorem Hv.mono(hg:Grow s s'):∀{cs:List Cd} {sk:List Sk},Hv s b p needs cs sk→Hv s' b p needs cs sk
 | [],_,h=>h
 |d::cs,sk,h=>by
  have h:if(needs.all fun n=>has n.rq.set d.place)=true then _ else _:=h
  show(if _ then _ else _)
  by_cases hd:(needs.all fun n=>has n.rq.set d.place)=true
  ·rw[Al hd]at h⊢;obtain⟨j,rest,rfl,h2,h3⟩:=h;exact⟨j,rest,rfl,⟨BD h2.1 hg.len,by rw[hg.at h2.1];exact h2.2⟩,h3.mono hg⟩
  ·rw[Ae hd]at h⊢;exact h.mono hg
end
structure qV(x:List Rl)(roots:List Rq)(s:SS)(b:List Cd)(c:Cd)(sk:List Sk)(p:ByteArray)(needs:List Nd)(pre post:List Cd):Prop where
 next:ns roots b p needs
 cands:BJ x p=pre++c::post
 fit:∀n∈needs,has n.rq.set c.place=true
 noclash:Dc b c=none
 skips:Hv s b p needs pre sk
def TK(x:List Rl)(roots:List Rq)(s:SS):List Cd→List Cd→List (List Sk)→Prop
 |b,[],[]=>Iy (Eo roots b) (AD b)=none
 |b,c::t,sk::st=>(∃p needs pre post,qV x roots s b c sk p needs pre post)∧TK x roots s (b++[c]) t st
 |_,_,_=>False
structure XK(x:List Rl)(roots:List Rq)(ls:List (List Cd))(dec:List Cd)(s:SS)(st:List (List Sk))(o:Kx):Prop where
 der:FU x roots o.ss
 grow:Grow s o.ss
 no:o.found=false→o.dec=dec∧o.stack=st∧(o.ss.full=false→o.res<o.ss.drv.length∧CQ (D7 o.ss o.res) (AD dec)=true)
 yes:o.found=true→o.ss.full=false∧∃t sl,o.dec=dec++t∧o.stack=st++sl∧TK x roots o.ss dec t sl∧ls.head?=some o.dec
section
variable {rec:List Cd→SS→List (List Sk)→Kx}{x:List Rl}{roots:List Rq}{p:ByteArray}{needs:List Nd}{n0:Nd}{dec:List Cd}{st:List (List Sk)}
def Je(rec:List Cd→SS→List (List Sk)→Kx)(x:List Rl)(p:ByteArray)(needs:List Nd)(n0:Nd)(dec:List Cd)(st:List (List Sk))(c:Cd)(cs:List Cd)(reasons:List Nat)(skips:List Sk)(k:Nat)(s:SS):Kx :=
 if Dm (D7 s k) p=false then⟨k,false,s,dec,st⟩else DX rec x p needs n0 dec st cs s (reasons++[k]) (skips++[⟨p,c.place,k⟩])
theorem Gm(c:Cd)(cs:List Cd)(s:SS)(reasons:List Nat)(skips:List Sk):DX rec x p needs n0 dec st (c::cs) s reasons skips =
  if s.full=true then⟨0,false,s,dec,st⟩
  else match needs.find? fun n=>!has n.rq.set c.place with
   |some n=>DX rec x p needs n0 dec st cs (BH s n).2 (reasons++[(BH s n).1]) skips
   |none=>match OG s.drv (AD (dec++[c]))with
    |some k=>Je rec x p needs n0 dec st c cs reasons skips k s
    |none=>match Dc dec c with
     |some n=>Je rec x p needs n0 dec st c cs reasons skips (BH s n).1 (BH s n).2
     |none=>if(rec (dec++[c]) s (st++[skips])).found=true then⟨0,true,(rec (dec++[c]) s (st++[skips])).ss,(rec (dec++[c]) s (st++[skips])).dec,(rec (dec++[c]) s (st++[skips])).stack⟩
      else if(rec (dec++[c]) s (st++[skips])).ss.full=true then⟨0,false,(rec (dec++[c]) s (st++[skips])).ss,dec,st⟩
      else Je rec x p needs n0 dec st c cs reasons skips (rec (dec++[c]) s (st++[skips])).res (rec (dec++[c]) s (st++[skips])).ss:=rfl
theorem dU{s:SS}(hs:FU x roots s){n:Nd}(h:∀d,Eb x roots d (N0 n)=some (Ir n)):FU x roots (BH s n).2∧(BH s n).1<(BH s n).2.drv.length∧((BH s n).2.full=false→D7 (BH s n).2 (BH s n).1=Ir n)∧Grow s (BH s n).2:=by
 obtain⟨a1,a2,a3⟩:=Ll hs (h s.drv);exact⟨a1,a2,a3,Ln _ _ _⟩
theorem XK.grown{ls:List (List Cd)}{s s' : SS}{o:Kx}(hg:Grow s s')(h:XK x roots ls dec s' st o):XK x roots ls dec s st o:=⟨h.der,hg.trans h.grow,h.no,h.yes⟩
theorem Wx(hx:AN x=0)(hr:Bn roots=0)(hd:Ef x dec)(gG:IM roots dec)(hN:ns roots dec p needs)(h0:n0∈needs){lv:List Cd→List (List Cd)}(Ms:∀c∈BJ x p,aK dec needs c=true→∀d∈lv (dec++[c]),Lf x roots (dec++[c]) d)
  (Yk:∀c∈BJ x p,aK dec needs c=true→∀s st,FU x roots s→s.full=false→XK x roots (lv (dec++[c])) (dec++[c]) s st (rec (dec++[c]) s st)) :
  ∀(cs:List Cd) {s:SS} (L:List (Nat×Cd)) {skips:List Sk},L.map (·.2)++cs=BJ x p→FU x roots s→(∀y∈L,y.1<s.drv.length)→(s.full=false→(∀y∈L,CQ (D7 s y.1) (AD (dec++[y.2]))=true∧Dm (D7 s y.1) p=true)∧Hv s dec p needs (L.map (·.2)) skips) →
   XK x roots (((BJ x p).map fun c=>if aK dec needs c then lv (dec++[c])else []).flatten) dec s st (DX rec x p needs n0 dec st cs s (L.map (·.1)) skips)
 | [],s,L,skips,hL,hs,DJ,wl=>by
  rw[BL]at hL;obtain⟨l1,l2,l3,l4⟩:=gR hx hr hd hN h0 L hL hs DJ (fun hf=>(wl hf).1);exact⟨l1,l2,fun _=>⟨rfl,rfl,fun hf=>⟨l3,l4 hf⟩⟩,fun h=>(by cases h)⟩
 |c::cs,s,L,skips,hL,hs,DJ,wl=>by
  rw[Gm]
  by_cases hf:s.full=true
  ·rw[Al hf];exact⟨hs,.refl s,fun _=>⟨rfl,rfl,fun h=>by rw[show(⟨0,false,s,dec,st⟩:Kx).ss=s from rfl,hf]at h;cases h⟩,fun h=>(by cases h)⟩
  rw[Ae hf];have hf:s.full=false:=by simpa using hf
  obtain⟨wm,sf⟩:=wl hf;have hc:c∈BJ x p:=by rw[←hL];simp
  obtain⟨c1,c2⟩:=I5 hc;have hu:CV dec c.rel.path=false:=by rw[c1];exact hN.undone
  have hE:=hd.snoc c2 hu
  -- on to the next candidate
  have go:∀(s' : SS) (k:Nat) (Mg : List Sk),FU x roots s'→Grow s s'→k<s'.drv.length→(s'.full=false→(CQ (D7 s' k) (AD (dec++[c]))=true∧Dm (D7 s' k) p=true)∧Hv s' dec p needs (L.map (·.2)++[c]) Mg) →
    XK x roots (((BJ x p).map fun c=>if aK dec needs c then lv (dec++[c])else []).flatten) dec s st (DX rec x p needs n0 dec st cs s' (L.map (·.1)++[k]) Mg):=fun s' k Mg VH hg hk DM=>by
   have:=Wx hx hr hd gG hN h0 Ms Yk cs (s:=s') (L++[(k,c)]) (skips:=Mg) (by rw[As,Bx];exact hL) VH
    (fun y hy=>by
     rcases AY.1 hy with hy | hy
     ·exact BD (DJ y hy) hg.len
     ·rw[Ar.1 hy];exact hk)
    (fun ZI=>by
     obtain⟨e1,e2⟩:=DM ZI;refine⟨fun y hy=>?_,by rw[As];exact e2⟩;rcases AY.1 hy with hy | hy
     ·rw[hg.at (DJ y hy)];exact wm y hy
     ·rw[Ar.1 hy];exact e1)
   rw[As]at this;exact this.grown hg
  cases rY:needs.find? fun n=>!has n.rq.set c.place with
  |some n =>
   dsimp only;have jb:=Cw rY;have oA:=Fg rY;have oA:has n.rq.set c.place=false:=by simpa using oA
   obtain⟨hn3,hn4⟩:=(hN.mem n).1 jb;obtain⟨e1,e2,e3⟩:=Qr hx hr hE (OY hn3) ⟨c,by simp,by rw[c1,hn4],oA⟩;obtain⟨i1,i2,i3,i4⟩:=dU hs e1;refine go _ _ _ i1 i4 i2 fun ZI=>?_;rw[i3 ZI];exact⟨⟨e2,gY hx hr hd hN hc jb oA⟩,Hv.out (by
    intro h;rw[AZ]at h;rw[h n jb]at oA;cases oA) (sf.mono i4)⟩
  |none =>
   dsimp only;have cg:∀n∈needs,has n.rq.set c.place=true:=fun n hn=>by
    rw[DC]at rY;simpa using rY n hn
   have Gr:(needs.all fun n=>has n.rq.set c.place)=true:=by rw[AZ];exact cg
   have jp:∀(s' : SS) (k:Nat),FU x roots s'→Grow s s'→k<s'.drv.length→(s'.full=false→CQ (D7 s' k) (AD (dec++[c]))=true) →
     XK x roots (((BJ x p).map fun c=>if aK dec needs c then lv (dec++[c])else []).flatten) dec s st (Je rec x p needs n0 dec st c cs (L.map (·.1)) skips k s'):=fun s' k VH hg hk he=>by
    unfold Je;cases tO:Dm (D7 s' k) p with
    |false =>
     rw[Al rfl];exact⟨VH,hg,fun _=>⟨rfl,rfl,fun ZI=>⟨hk,jV hx hd c2.1 (he ZI) (by rw[c1];exact tO)⟩⟩,fun h=>(by cases h)⟩
    |true =>
     rw[Ae Cl];exact go _ _ _ VH hg hk fun ZI=>⟨⟨he ZI,tO⟩,Hv.add Gr ⟨hk,he ZI⟩ (sf.mono hg)⟩
   cases hen:OG s.drv (AD (dec++[c]))with
   |some k =>
    dsimp only;obtain⟨k1,k2⟩:=Ls hen;exact jp s k hs (.refl s) k1 fun _=>k2
   |none =>
    dsimp only;cases hcl:Dc dec c with
    |some n =>
     dsimp only;obtain⟨m1,m2⟩:=LW hcl;obtain⟨e1,e2,e3⟩:=Qr hx hr hE (NM m1) m2;obtain⟨i1,i2,i3,i4⟩:=dU hs e1;exact jp _ _ i1 i4 i2 fun ZI=>by rw[i3 ZI];exact e2
    |none =>
     dsimp only;have Gs:aK dec needs c=true:=I9.2 ⟨cg,hcl⟩;have hR:=Yk c hc Gs s (st++[skips]) hs hf;generalize rec (dec++[c]) s (st++[skips])=o at hR
     by_cases LN:o.found=true
     ·rw[Al LN];obtain⟨y1,t,sl,y2,y3,y4,y5⟩:=hR.yes LN;refine⟨hR.der,hR.grow,fun h=>(by cases h),fun _=>⟨y1,c::t,skips::sl,by show o.dec=_;rw[y2];simp,by show o.stack=_;rw[y3];simp,⟨⟨p,needs,L.map (·.2),cs,hN,hL.symm,cg,hcl,sf.mono hR.grow⟩,y4⟩,?_⟩⟩;show _=some o.dec;rw[←hL,As,Cn,AJ,Bm];have kO:((L.map (·.2)).map fun c=>if aK dec needs c then lv (dec++[c])else []).flatten=[]:=by
       rw[List.flatten_eq_nil_iff];intro l hl;obtain⟨d,ov,rfl⟩:=Am.1 hl;obtain⟨y,hy,rfl⟩:=Am.1 ov;split
       ·rename_i hoy;have hyc:y.2∈BJ x p:=by rw[←hL];exact Bp _ ov
        refine MC.2 fun d Aao=>pc hx hs (DJ y hy) (wm y hy).1 (Ms y.2 hyc hoy d Aao)
       ·rfl
      rw[kO,Fi,Al Gs,List.head?_append,y5];rfl
     ·rw[Ae LN];have LN:o.found=false:=by simpa using LN
      obtain⟨n1,n2,n3⟩:=hR.no LN
      by_cases rZ:o.ss.full=true
      ·rw[Al rZ];exact⟨hR.der,hR.grow,fun _=>⟨rfl,rfl,fun h=>by rw[show(⟨0,false,o.ss,dec,st⟩:Kx).ss=o.ss from rfl,rZ]at h;cases h⟩,fun h=>(by cases h)⟩
      ·rw[Ae rZ];have rZ:o.ss.full=false:=by simpa using rZ
       exact jp _ _ hR.der hR.grow (n3 rZ).1 fun _=>(n3 rZ).2
end
theorem OM{dec:List Cd}{c:Cd}(h:c.rel∈x∧c.rel.yanked=false)(hu:CV dec c.rel.path=false):FM x (dec++[c])<FM x dec:=by
 have key:∀l:List Rl,(l.filter fun r=>!r.yanked&&!CV (dec++[c]) r.path).length≤(l.filter fun r=>!r.yanked&&!CV dec r.path).length ∧
   (c.rel∈l→(l.filter fun r=>!r.yanked&&!CV (dec++[c]) r.path).length<(l.filter fun r=>!r.yanked&&!CV dec r.path).length):=by
  intro l
  induction l with
  |nil=>exact⟨Ao _,fun h=>(by cases h)⟩
  |cons r l ih =>
   have kS:(!r.yanked&&!CV (dec++[c]) r.path)=true→(!r.yanked&&!CV dec r.path)=true:=fun e=>by
    simp only[Ai,Dd]at e⊢;refine⟨e.1,?_⟩
    have:=e.2
    unfold CV at this⊢;rw[GR,Bool.or_eq_false_iff]at this;exact this.1
   rw[CE,CE];refine⟨?_,fun hm=>?_⟩
   ·by_cases e:(!r.yanked&&!CV (dec++[c]) r.path)=true
    ·rw[Al e,Al (kS e)];simp;exact ih.1
    ·rw[Ae e];split
     ·simp;have:=ih.1;omega
     ·exact ih.1
   ·rcases AF.1 hm with rfl | hm
    ·have e1:¬(!c.rel.yanked&&!CV (dec++[c]) c.rel.path)=true:=by
      have:CV (dec++[c]) c.rel.path=true:=by unfold CV;simp
      rw[this];simp
     have e2:(!c.rel.yanked&&!CV dec c.rel.path)=true:=by rw[h.2,hu];rfl
     rw[Ae e1,Al e2];simp;have:=ih.1;omega
    ·have:=ih.2 hm
     by_cases e:(!r.yanked&&!CV (dec++[c]) r.path)=true
     ·rw[Al e,Al (kS e)];simp;exact this
     ·rw[Ae e];split
      ·simp;omega
      ·exact this
 exact(key x).2 h.1
theorem RV{x:List Rl}{roots:List Rq}(hx:AN x=0)(hr:Bn roots=0):∀(n:Nat) {dec:List Cd} {s:SS} {st:List (List Sk)},Ef x dec→IM roots dec→FU x roots s→s.full=false→FM x dec<n →
  XK x roots (CG x roots n dec) dec s st (C3 x roots n dec s st)
 |0,_,_,_,_,_,_,_,h=>by omega
 |n+1,dec,s,st,hd,gG,hs,hf,hn=>by
  unfold C3 CG;cases e:(Em roots dec).2 with
  |nil =>
   exact⟨hs,.refl s,fun h=>(by cases h),fun _=>⟨hf,[],[],by simp,by simp,Pa.1 e,rfl⟩⟩
  |cons n0 l =>
   have hN:=Kl e;have next:∀c∈BJ x (Em roots dec).1,aK dec (n0::l) c=true→Ef x (dec++[c])∧IM roots (dec++[c])∧FM x (dec++[c])<n:=fun c hc Gs=>by
    obtain⟨c1,c2⟩:=I5 hc;have hu:CV dec c.rel.path=false:=by rw[c1];exact hN.undone
    obtain⟨k1,k2⟩:=I9.1 Gs;exact⟨hd.snoc c2 hu,gG.snoc hN c1 k1 k2,by have:=OM (dec:=dec) ⟨c2.1,c2.2.1⟩ hu;omega⟩
   exact Wx hx hr hd gG hN (Aa ..) (lv:=CG x roots n) (fun c hc Gs d ov=>HW (next c hc Gs).1 (next c hc Gs).2.1 d ov)
    (fun c hc Gs s st hs hf=>RV hx hr n (next c hc Gs).1 (next c hc Gs).2.1 hs hf (next c hc Gs).2.2) _ [] rfl hs (fun y hy=>by cases hy) (fun _=>⟨fun y hy=>(by cases hy),rfl⟩)
theorem Zy(x:List Rl)(dec:List Cd):FM x dec≤x.length:=BC _ _
theorem I3{roots:List Rq}(hx:AN x=0)(hr:Bn roots=0):XK x roots (CG x roots (x.length+1) []) [] xk [] (DU x roots) :=
 RV hx hr _ (.nil x) (.nil roots) (.nil x roots) rfl (by have:=Zy x [];omega)
def MT(R:Nat):Nat:=[3,8,13,23,33,53,78,113,168,243,348,513,738,1053,1548,2223,3168].getD R 0
theorem nq:∀R≤16,3≤MT R∧∀k≤R,3+2*k+k*MT (R-k)≤MT R∨k=0:=by decide
section
variable {x:List Rl}{roots:List Rq}{p:ByteArray}{needs:List Nd}{n0:Nd}{dec:List Cd}{st:List (List Sk)}
theorem ML(i:Nf)(l:List Tm)(hf:s.full=false)(hc:s.infs.length≤65535):(Es s i l).2.full=false∧(Es s i l).2.infs.length≤s.infs.length+1:=⟨Y0 i l hf ch,bF s i l⟩
theorem KL:∀(l:List Nat) {k:Nat} {s:SS},s.full=false→s.infs.length+l.length≤65535→(Cc p l k s).2.full=false∧(Cc p l k s).2.infs.length≤s.infs.length+l.length
 | [],k,s,hf,_=>⟨hf,Ao _⟩
 |r::l,k,s,hf,hc=>by
  rw[Av]at hc⊢;unfold Cc;split
  ·exact⟨hf,by show s.infs.length≤_;omega⟩
  split
  ·obtain⟨h1,h2⟩:=KL l (k:=k) hf ch;exact⟨h1,by omega⟩
  split
  ·obtain⟨h1,h2⟩:=KL l (k:=k) hf ch;exact⟨h1,by omega⟩
  ·obtain⟨a1,a2⟩:=ML ⟨3,p,0,0,(k:Nat),(r:Nat)⟩ (BO (D7 s k) (D7 s r) p).1 hf ch;obtain⟨h1,h2⟩:=KL l (k:=(Es s ⟨3,p,0,0,(k:Nat),(r:Nat)⟩ (BO (D7 s k) (D7 s r) p).1).1) a1 ch;exact⟨h1,by omega⟩
theorem UP(reasons:List Nat)(hf:s.full=false)(hc:s.infs.length+(3+reasons.length)≤65535):(DZ x p n0 reasons s).2.full=false∧(DZ x p n0 reasons s).2.infs.length≤s.infs.length+(3+reasons.length):=by
 unfold DZ;obtain⟨a1,a2⟩:=ML (N0 n0) (Ir n0) hf ch
 change (BH s n0).2.full=false at a1
 change (BH s n0).2.infs.length≤_ at a2
 obtain⟨b1,b2⟩:=ML ⟨2,p,0,0,0,0⟩ (IB p (Ca x p)) a1 ch
 change (En x p (BH s n0).2).2.full=false at b1
 change (En x p (BH s n0).2).2.infs.length≤_ at b2
 obtain⟨h1,h2⟩:=KL (p:=p) ((En x p (BH s n0).2).1::reasons) (k:=(BH s n0).1) b1 (by rw[Av];omega);rw[Av]at h2;exact⟨h1,by omega⟩
theorem T2{rec:List Cd→SS→List (List Sk)→Kx}{B:Nat}(Yk:∀c∈BJ x p,∀s st,s.full=false→s.infs.length+B≤65535→(rec (dec++[c]) s st).ss.full=false∧(rec (dec++[c]) s st).ss.infs.length≤s.infs.length+B) :
  ∀(cs:List Cd) {s:SS} {reasons:List Nat} {skips:List Sk},(∀c∈cs,c∈BJ x p)→s.full=false→s.infs.length+(3+(reasons.length+cs.length)+cs.length*(1+B))≤65535 →
   (DX rec x p needs n0 dec st cs s reasons skips).ss.full=false∧(DX rec x p needs n0 dec st cs s reasons skips).ss.infs.length≤s.infs.length+(3+(reasons.length+cs.length)+cs.length*(1+B))
 | [],s,reasons,skips,_,hf,hc=>by
  simp only[Ax,GV,Jx]at hc⊢;exact UP reasons hf hc
 |c::cs,s,reasons,skips,hm,hf,hc=>by
  rw[Gm,Ae (by rw[hf];decide)];simp only[Av]at hc⊢;have Ru:(cs.length+1)*(1+B)=cs.length*(1+B)+(1+B):=by rw[Fj,Nat.one_mul]
  rw[Ru]at hc⊢
  have go:∀(s' : SS) (k:Nat) (Mg : List Sk),s'.full=false→s'.infs.length≤s.infs.length+(1+B) →
    (DX rec x p needs n0 dec st cs s' (reasons++[k]) Mg).ss.full=false∧(DX rec x p needs n0 dec st cs s' (reasons++[k]) Mg).ss.infs.length≤s.infs.length+(3+(reasons.length+(cs.length+1))+(cs.length*(1+B)+(1+B))):=fun s' k Mg ZI hl=>by
   have CB:(reasons++[k]).length=reasons.length+1:=by simp
   obtain⟨h1,h2⟩:=T2 Yk cs (s:=s') (reasons:=reasons++[k]) (skips:=Mg) (fun d hd=>hm d (Ah _ hd)) ZI (by rw[CB];omega);rw[CB]at h2;exact⟨h1,by omega⟩
  have jp:∀(s' : SS) (k:Nat),s'.full=false→s'.infs.length≤s.infs.length+(1+B) →
    (Je rec x p needs n0 dec st c cs reasons skips k s').ss.full=false∧(Je rec x p needs n0 dec st c cs reasons skips k s').ss.infs.length≤s.infs.length+(3+(reasons.length+(cs.length+1))+(cs.length*(1+B)+(1+B))):=fun s' k ZI hl=>by
   unfold Je;split
   ·exact⟨ZI,by show s'.infs.length≤_;omega⟩
   ·exact go s' k _ ZI hl
  cases needs.find? fun n=>!has n.rq.set c.place with
  |some n =>
   obtain⟨a1,a2⟩:=ML (N0 n) (Ir n) hf ch;exact go _ _ _ a1 (by show(Es s (N0 n) (Ir n)).2.infs.length≤_;omega)
  |none =>
   dsimp only;cases OG s.drv (AD (dec++[c]))with
   |some k=>exact jp s k hf ch
   |none =>
    dsimp only;cases Dc dec c with
    |some n =>
     obtain⟨a1,a2⟩:=ML (N0 n) (Ir n) hf ch;exact jp _ _ a1 (by show(Es s (N0 n) (Ir n)).2.infs.length≤_;omega)
    |none =>
     dsimp only;obtain⟨r1,r2⟩:=Yk c (hm c (Aa ..)) s (st++[skips]) hf ch;split
     ·exact⟨r1,by show(rec (dec++[c]) s (st++[skips])).ss.infs.length≤_;omega⟩
     rw[Ae (by rw[r1];decide)];exact jp _ _ r1 ch
theorem Zx{c:Cd}(hc:c∈BJ x p)(hu:CV dec p=false):FM x (dec++[c])+(BJ x p).length=FM x dec:=by
 obtain⟨c1,_⟩:=I5 hc;unfold FM BJ;rw[A8];have key:∀l:List Rl,(l.filter fun r=>!r.yanked&&!CV (dec++[c]) r.path).length+(l.filter fun r=>decide (r.path=p)&&!r.yanked).length=(l.filter fun r=>!r.yanked&&!CV dec r.path).length:=by
  intro l
  induction l with
  |nil=>rfl
  |cons r l ih =>
   have ZG:CV (dec++[c]) r.path=(CV dec r.path||decide (p=r.path)):=by unfold CV;rw[GR];simp[c1]
   rw[CE,CE,CE,ZG]
   by_cases e:r.path=p
   ·rw[e,hu];cases r.yanked<;>simp<;>omega
   ·have e2:decide (p=r.path)=false:=Ap (VL e);rw[e2,SW,Ap e];cases r.yanked<;>cases CV dec r.path<;>simp<;>omega
 exact key x
theorem Vv:∀(n:Nat) {dec:List Cd} {s:SS} {st:List (List Sk)},s.full=false→FM x dec≤16→s.infs.length+MT (FM x dec)≤65535 →
  (C3 x roots n dec s st).ss.full=false∧(C3 x roots n dec s st).ss.infs.length≤s.infs.length+MT (FM x dec)
 |0,_,_,_,hf,_,_=>⟨hf,Nat.le_add_right ..⟩
 |n+1,dec,s,st,hf,hR,hc=>by
  unfold C3;cases e:(Em roots dec).2 with
  |nil=>exact⟨hf,Nat.le_add_right ..⟩
  |cons n0 l =>
   have hN:=Kl e;dsimp only;obtain⟨m1,m2⟩:=nq _ hR;cases hcs:BJ x (Em roots dec).1 with
   |nil =>
    obtain⟨h1,h2⟩:=UP (x:=x) (p:=(Em roots dec).1) (n0:=n0) (s:=s) [] hf (by simp;omega);refine⟨h1,?_⟩;show(DZ x (Em roots dec).1 n0 [] s).2.infs.length≤_;simp at h2;omega
   |cons c0 cs0 =>
    have Af:∀c∈BJ x (Em roots dec).1,FM x (dec++[c])=FM x dec-(BJ x (Em roots dec).1).length∧(BJ x (Em roots dec).1).length≤FM x dec:=fun c hc=>by
     have:=Zx (dec:=dec) hc hN.undone
     omega
    have oo:c0∈BJ x (Em roots dec).1:=by rw[hcs];exact Aa ..
    have hk:=Af c0 oo;have QW:(BJ x (Em roots dec).1).length≠0:=by rw[hcs];simp
    have hm:=(m2 _ hk.2).resolve_right QW;generalize hK:(BJ x (Em roots dec).1).length=K at *
    have CB:(c0::cs0).length=K:=by rw[←hcs];exact hK
    have Aaj:3+(([]:List Nat).length+(c0::cs0).length)+(c0::cs0).length*(1+MT (FM x dec-K))≤MT (FM x dec):=by
     rw[CB,Ax,Nat.mul_add];omega
    have AcW:K≤K*(1+MT (FM x dec-K)):=Nat.le_mul_of_pos_right _ ch;have hB:MT (FM x dec-K)≤K*(1+MT (FM x dec-K)):=by
     calc MT (FM x dec-K)≤1+MT (FM x dec-K):=by omega
      _≤K*(1+MT (FM x dec-K)):=Nat.le_mul_of_pos_left _ ch
    obtain⟨h1,h2⟩:=T2 (x:=x) (p:=(Em roots dec).1) (needs:=n0::l) (n0:=n0) (dec:=dec) (st:=st) (rec:=C3 x roots n) (B:=MT (FM x dec-K)) (fun c hc s st hf hl=>by
     have:=Af c hc
     have h3:=Vv n (dec:=dec++[c]) (s:=s) (st:=st) hf ch (by rw[this.1];exact hl);rw[this.1]at h3;exact h3) (c0::cs0) (s:=s) (reasons:=[]) (skips:=[]) (fun c hc=>by rw[hcs];exact hc) hf ch
    exact⟨h1,by omega⟩
theorem I2(h:x.length≤16):(DU x roots).ss.full=false:=by
 have hf:=Zy x [];exact(Vv (x:=x) (roots:=roots) _ (dec:=[]) (s:=xk) (st:=[]) rfl ch (by
  have:∀R≤16,([]:List Nf).length+MT R≤65535:=by decide
  exact this _ ch)).1
end
-- versions
theorem tH{α:Type}{l:List α}{i:Nat}(d:α)(h:i<l.length):l[i]?=some (l.getD i d):=by
 rw[B6,AE h];rfl
end Go.Eng
